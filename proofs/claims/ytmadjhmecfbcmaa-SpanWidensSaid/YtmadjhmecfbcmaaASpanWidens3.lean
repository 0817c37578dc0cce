/- The walk of the law SpanWidens and what it computes, part 3 of 6: no conditions. -/
import Derived.Test.YtmadjhmecfbcmaaASpanWidens2
set_option linter.unusedVariables false
set_option linter.unusedSimpArgs false
section
namespace Go.Proofs.Ytmadjhmecfbcmaa.F
open Go.RowKit Go.Proofs.YtmadjhmecfbcmaaW.PrintWords Go.Proofs.YtmadjhmecfbcmaaW.PrintLast Go.Proofs.YtmadjhmecfbcmaaW.PrintMore
attribute [local go_sem] max2_int min2_int max_two min_two max_three min_three max_four min_four
set_option linter.unusedVariables false
set_option linter.unusedSimpArgs false
set_option maxHeartbeats 8000000
set_option maxRecDepth 100000
def span_Meet.T4 : Bool × List (List Nat × List Nat) := (true, [([], []), ([0], [0]), ([], []), ([2], [2]), ([1, 3], [1, 3]), ([4], [4]), ([], []), ([6], [6]), ([], []), ([8], [8]), ([7, 9], [7, 9]), ([10, 5], [10]), ([5, 11, 11], [5, 11]), ([12, 12, 0, 1, 2, 3, 4, 5, 6, 7, 8, 9, 10, 11, 12], [12])])
def span_Meet.B4 : List Nat := [0, 1, 0, 4, 15, 31, 0, 64, 0, 256, 960, 2047, 4095, 8191]
theorem span_Meet.tab4 : rtab .any (opsOf Try.f47 4) = span_Meet.T4 := by kernel_rfl
theorem span_Meet.bits4 : waitsOk span_Meet.T4.2 span_Meet.B4 = true := by kernel_rfl
theorem span_Meet.calls (k : Nat) (a0_0 : Bool) (a0_1 : Int) (a0_2 : Int) (a1_0 : Bool) (a1_1 : Int) (a1_2 : Int) (r1 : Bool) (r2 : Int) (r3 : Int) (w : World) (h : span_Meet.f k a0_0 a0_1 a0_2 a1_0 a1_1 a1_2 = some (r1, r2, r3)) :
  Calls Try.prog 47 #[.agg #[.bool a0_0, .int .u64 a0_1, .int .u64 a0_2], .agg #[.bool a1_0, .int .u64 a1_1, .int .u64 a1_2]] w fun e w' => e = .returned (.agg #[.bool r1, .int .u64 r2, .int .u64 r3]) ∧ Below w.heap.size w w' := by
 have hu43 := Try.underlying43
 have HB := Aside0.mk (Below.refl w.heap.size w)
 have H : ((span_norm.f k a0_0 a0_1 a0_2).bind fun bt774 => ((span_norm.f k a1_0 a1_1 a1_2).bind fun bt777 => (if bt774.1 = true then (span_Meet.j0 k true bt774.1 bt774.2.1 bt774.2.2 bt777.1 bt777.2.1 bt777.2.2) else (span_Meet.j0 k bt777.1 bt774.1 bt774.2.1 bt774.2.2 bt777.1 bt777.2.1 bt777.2.2)))) = some (r1, r2, r3) := h
 clear h
 obtain ⟨⟨t774, t775, t776⟩, A3, H⟩ := zbs H
 try dsimp only at H
 obtain ⟨⟨t777, t778, t779⟩, A4, H⟩ := zbs H
 try dsimp only at H
 have HC5 := Aside0.mk H
 clear H
 go_enter Try.func47, Try.ntmps47
 try go_wp2_with (first | ((with_reducible refine gtd 2 rfl ?_); refine zbx 2 #[.bool a0_0, .int .u64 a0_1, .int .u64 a0_2] 43 (h := ?_); intro gb771 hg w6 hbox hb; have GW771 := zkZ hg (zaB (p := Below w.heap.size w _)); replace HB := Aside0.mk (below_step zaB hb); have BK771 := Aside0.mk (hbox); clear hb hbox hg) | ((with_reducible refine gtd 3 rfl ?_); refine zbx 3 #[.bool a1_0, .int .u64 a1_1, .int .u64 a1_2] 43 (h := ?_); intro gb772 hg w7 hbox hb; have GW772 := zkz HB hg; have NB771_772 := zkl BK771 hg; have NB772_771 := zkr BK771 hg; replace BK771 := zkb BK771 hb; replace HB := zkB HB hb; have BK772 := Aside0.mk (hbox); clear hb hbox hg) | ((with_reducible refine gtd 4 rfl ?_); refine zbx 4 #[.bool false, .int .u64 0, .int .u64 0] 43 (h := ?_); intro gb773 hg w8 hbox hb; have GW773 := zkz HB hg; have NB771_773 := zkl BK771 hg; have NB773_771 := zkr BK771 hg; have NB772_773 := zkl BK772 hg; have NB773_772 := zkr BK772 hg; replace BK771 := zkb BK771 hb; replace BK772 := zkb BK772 hb; replace HB := zkB HB hb; have BK773 := Aside0.mk (hbox); clear hb hbox hg))
 replace BK771 := Aside0.mk (blk_drew BK771.out)
 replace BK772 := Aside0.mk (blk_drew BK772.out)
 replace BK773 := Aside0.mk (blk_drew BK773.out)
 replace HB := Aside0.mk (below_drew1 HB.out)
 refine start_ (n := 6) (S := fun w' => w'.cell? ⟨gb771, 0, none⟩ = some (.bool a0_0) ∧ w'.cell? ⟨gb771, 1, none⟩ = some (.int .u64 a0_1) ∧ w'.cell? ⟨gb771, 2, none⟩ = some (.int .u64 a0_2) ∧ w'.cell? ⟨gb772, 0, none⟩ = some (.bool a1_0) ∧ w'.cell? ⟨gb772, 1, none⟩ = some (.int .u64 a1_1) ∧ w'.cell? ⟨gb772, 2, none⟩ = some (.int .u64 a1_2)) (ds := [4, 5]) #[false, false, false, false, false, false] (by kernel_rfl) rfl rfl (zk3 BK771 (ze3 BK772)) (fun hHeld => ?_)
 generalize w8.drew = w9 at BK771 BK772 BK773 HB hHeld ⊢
 refine take_ (i := 0) (N := some 5) (v := ?_) (a' := ?_) #[true, false, false, false, false, false] rfl rfl (by kernel_rfl) (fun _ _ _ h => h) (Or.inl ⟨by rfl, ?_⟩) hHeld ?_ ?_
 rotate_left
 ·rintro w' ⟨s0, s1, s2, s3, s4, s5⟩
  go_simp
  with_reducible rfl
 rotate_left
 ·simp only [Act.put, List.setIfInBounds_toArray, List.set_cons_zero, List.set_cons_succ, i64_w, i32_w]
  rfl
 refine take_ (i := 2) (N := some 7) (v := ?_) (a' := ?_) #[true, false, true, false, false, false] rfl rfl (by kernel_rfl) (fun _ _ _ h => h) (Or.inl ⟨by rfl, ?_⟩) hHeld ?_ ?_
 rotate_left
 ·rintro w' ⟨s0, s1, s2, s3, s4, s5⟩
  go_simp
  with_reducible rfl
 rotate_left
 ·simp only [Act.put, List.setIfInBounds_toArray, List.set_cons_zero, List.set_cons_succ, i64_w, i32_w]
  rfl
 refine one_ (i := 1) (N := some 6) #[true, true, true, false, false, false] rfl rfl (by kernel_rfl) (by decide) (fun K hK => ?_)
 refine zgA Try.func112 (span_norm.calls k a0_0 a0_1 a0_2 t774 t775 t776 _ A3.out) (h := ?_)
 rintro w10 hb
 replace BK771 := zkb BK771 hb
 replace BK772 := zkb BK772 hb
 replace BK773 := zkb BK773 hb
 replace HB := zkB HB hb
 (try clear hb)
 refine hK.out _ _ (zk3 BK771 (ze3 BK772)) (fun hHeld => ?_)
 clear hK K
 refine znA 6 (h := ?_)
 refine one_ (i := 3) (N := some 8) #[true, true, true, true, false, false] rfl rfl (by kernel_rfl) (by decide) (fun K hK => ?_)
 refine zgA Try.func112 (span_norm.calls k a1_0 a1_1 a1_2 t777 t778 t779 _ A4.out) (h := ?_)
 rintro w11 hb
 replace BK771 := zkb BK771 hb
 replace BK772 := zkb BK772 hb
 replace BK773 := zkb BK773 hb
 replace HB := zkB HB hb
 (try clear hb)
 refine hK.out _ _ (zk3 BK771 (ze3 BK772)) (fun hHeld => ?_)
 clear hK K
 refine znA 8 (h := ?_)
 refine last_ (i := 4) (N := none) #[true, true, true, true, true, false] rfl rfl (by kernel_rfl) (by decide) (fun K hK => ?_)
 have hs12 := zc0 BK771
 have hfs12 := blk_frozen BK771.out 0
 obtain ⟨_, _, _, _⟩ := zs2 NB772_771 NB773_771
 have hs13 := zc1 BK771
 have hfs13 := blk_frozen BK771.out 1
 obtain ⟨_, _, _, _⟩ := zs2 NB772_771 NB773_771
 have hs14 := zc2 BK771
 have hfs14 := blk_frozen BK771.out 2
 obtain ⟨_, _, _, _⟩ := zs2 NB772_771 NB773_771
 refine skip_ (w1 := ?_) (by rfl) rfl ?_ ?_
 rotate_left
 ·go_simp
  rfl
 refine hK.out _ _ ?_
 clear hK K
 refine last_ (i := 5) (N := none) #[true, true, true, true, true, true] rfl rfl (by kernel_rfl) (by decide) (fun K hK => ?_)
 have hs15 := zc0 BK772
 have hfs15 := blk_frozen BK772.out 0
 obtain ⟨_, _, _, _⟩ := zs2 NB771_772 NB773_772
 have hs16 := zc1 BK772
 have hfs16 := blk_frozen BK772.out 1
 obtain ⟨_, _, _, _⟩ := zs2 NB771_772 NB773_772
 have hs17 := zc2 BK772
 have hfs17 := blk_frozen BK772.out 2
 obtain ⟨_, _, _, _⟩ := zs2 NB771_772 NB773_772
 refine skip_ (w1 := ?_) (by rfl) rfl ?_ ?_
 rotate_left
 ·go_simp
  rfl
 refine hK.out _ _ ?_
 clear hK K
 refine done_ (by kernel_rfl) ?_
 go_upto_region 2 with (fail)
 go_cut [14] (fun v14 wc => ∃ (kq : Nat) (x14_4 : Bool), v14 = .bool x14_4 ∧ Aside0 (span_Meet.j0 kq x14_4 t774 t775 t776 t777 t778 t779 = some (r1, r2, r3)) ∧ Aside0 (kq ≤ k) ∧ Aside0 (wc.heap[gb771]? = some (.cells #[.bool t774, .int .u64 t775, .int .u64 t776] 43 (0, 0))) ∧ Aside0 (wc.heap[gb772]? = some (.cells #[.bool t777, .int .u64 t778, .int .u64 t779] 43 (0, 0))) ∧ Aside0 (wc.heap[gb773]? = some (.cells #[.bool false, .int .u64 0, .int .u64 0] 43 (0, 0))) ∧ Aside0 (Below w.heap.size w wc))
 case first =>
  have H := HC5.out
  clear HC5
  by_cases c18 : t774 = true
  ·subst c18
   replace H := zit H
   have H' := Aside0.mk H
   clear H
   obtain ⟨_, _, _, _⟩ := zs2 NB771_772 NB771_773
   obtain ⟨z21_0, z21_1, z21_2, f21_0, f21_1, f21_2⟩ := zq3 BK771
   go_wp2
   go_meet
   case rel => exact ⟨_, (true), zrl, H', ⟨zle⟩, ⟨(zkf (zkf (zkf (blk_put (cs := #[.bool true, .int .u64 t775, .int .u64 a0_2]) (blk_put (cs := #[.bool true, .int .u64 a0_1, .int .u64 a0_2]) (blk_put (zkq BK771) 0 _ rfl) 1 _ rfl) 2 _ rfl) NB771_772.out _) NB771_772.out _) NB771_772.out _)⟩, ⟨(blk_put (cs := #[.bool t777, .int .u64 t778, .int .u64 a1_2]) (blk_put (cs := #[.bool t777, .int .u64 a1_1, .int .u64 a1_2]) (blk_put (zkf (zkf (zkf (zkq BK772) NB772_771.out _) NB772_771.out _) NB772_771.out _) 0 _ rfl) 1 _ rfl) 2 _ rfl)⟩, ⟨(zkf (zkf (zkf (zkf (zkf (zkf (zkq BK773) NB773_771.out _) NB773_771.out _) NB773_771.out _) NB773_772.out _) NB773_772.out _) NB773_772.out _)⟩, ⟨zaB⟩⟩
  replace c18 := Bool.eq_false_iff.mpr c18
  subst c18
  replace H := zif H
  have H' := Aside0.mk H
  clear H
  obtain ⟨_, _, _, _⟩ := zs2 NB771_772 NB771_773
  obtain ⟨z24_0, z24_1, z24_2, f24_0, f24_1, f24_2⟩ := zq3 BK771
  obtain ⟨_, _⟩ := zsy NB772_773
  obtain ⟨z26_0, z26_1, z26_2, f26_0, f26_1, f26_2⟩ := zq3 BK772
  go_wp2
  go_meet
  case rel => exact ⟨_, (t777), zrl, H', ⟨zle⟩, ⟨(zkf (zkf (zkf (blk_put (cs := #[.bool false, .int .u64 t775, .int .u64 a0_2]) (blk_put (cs := #[.bool false, .int .u64 a0_1, .int .u64 a0_2]) (blk_put (zkq BK771) 0 _ rfl) 1 _ rfl) 2 _ rfl) NB771_772.out _) NB771_772.out _) NB771_772.out _)⟩, ⟨(blk_put (cs := #[.bool t777, .int .u64 t778, .int .u64 a1_2]) (blk_put (cs := #[.bool t777, .int .u64 a1_1, .int .u64 a1_2]) (blk_put (zkf (zkf (zkf (zkq BK772) NB772_771.out _) NB772_771.out _) NB772_771.out _) 0 _ rfl) 1 _ rfl) 2 _ rfl)⟩, ⟨(zkf (zkf (zkf (zkf (zkf (zkf (zkq BK773) NB773_771.out _) NB773_771.out _) NB773_771.out _) NB773_772.out _) NB773_772.out _) NB773_772.out _)⟩, ⟨zaB⟩⟩
 case rest =>
  clear HC5
  try clear c1
  try clear c2
  try clear p2
  try clear c4
  try clear c11
  try clear c18
  try clear c19
  try clear c20
  try clear c22
  try clear c23
  try clear c25
  try clear z21_0 z21_1 z21_2 f21_0 f21_1 f21_2
  try clear z24_0 z24_1 z24_2 f24_0 f24_1 f24_2
  try clear z26_0 z26_1 z26_2 f26_0 f26_1 f26_2
  obtain ⟨kq, x14_4, rfl, HA, HJ4, BK771, BK772, BK773, HB⟩ := hcut
  cases kq with
  | zero => exact absurd HA.out (by simp [span_Meet.j0])
  | succ kj4 =>
   have H := HA.out
   clear HA
   simp only [span_Meet.j0] at H
   by_cases c27 : x14_4 = true
   ·subst c27
    replace H := zit H
    obtain ⟨⟨t780, t781, t782⟩, A28, H⟩ := zbs H
    try dsimp only at H
    simp only [Option.some.injEq, Prod.mk.injEq] at H
    obtain ⟨rfl, rfl, rfl⟩ := H
    go_wp2_with (first | ((with_reducible refine gtc 118 rfl ?_); refine zgL 15 Try.func118 (span_none.calls  t780 t781 t782 _ A28.out) (h := ?_); rintro w29 hb; replace BK771 := zkb BK771 hb; replace BK772 := zkb BK772 hb; replace BK773 := zkb BK773 hb; replace HB := zkB HB hb; (try clear hb); obtain ⟨_, _, _, _⟩ := zs2 NB773_771 NB773_772; obtain ⟨_, _, _, _, _, _⟩ := zq3 BK773))
    refine bodyPost_ret (results_cell_row rfl _ _ gb773 43 #[.bool t780, .int .u64 t781, .int .u64 t782] (0, 0) _ rfl (blk_put (cs := #[.bool t780, .int .u64 t781, .int .u64 0]) (blk_put (cs := #[.bool t780, .int .u64 0, .int .u64 0]) (blk_put (zkq BK773) 0 _ rfl) 1 _ rfl) 2 _ rfl) Try.underlying43 rfl (by kernel_rfl)) rfl ?_
    exact ⟨zaE, zaB⟩
   replace c27 := Bool.eq_false_iff.mpr c27
   subst c27
   replace H := zif H
   obtain ⟨y783, hy783⟩ : ∃ y_ : List Int, y_ = (([t775, t778] : List Int)) := ⟨_, rfl⟩
   replace H : ((pattern_Max.f kj4 y783).bind fun t786 => ((pattern_Min.f kj4 (([t776, t779] : List Int))).bind fun t790 => ((span_Make.f kj4 t786 t790).bind fun bt791 => (some (bt791.1, bt791.2.1, bt791.2.2))))) = some (r1, r2, r3) := by first | (rw [hy783]; with_reducible exact H) | (have H2_ := (Option.bind_some _ _).symm.trans H; rw [hy783]; with_reducible exact H2_) | (have H2_ := (Option.bind_some _ _).symm.trans H; with_reducible exact H2_) | with_reducible exact H | (rw [hy783]; exact H) | exact H
   have Ny783 := Aside0.mk hy783
   clear hy783
   obtain ⟨t786, A33, H⟩ := zbs H
   try dsimp only at H
   obtain ⟨y787, hy787⟩ : ∃ y_ : List Int, y_ = (([t776, t779] : List Int)) := ⟨_, rfl⟩
   replace H : ((pattern_Min.f kj4 y787).bind fun t790 => ((span_Make.f kj4 t786 t790).bind fun bt791 => (some (bt791.1, bt791.2.1, bt791.2.2)))) = some (r1, r2, r3) := by first | (rw [hy787]; with_reducible exact H) | (have H2_ := (Option.bind_some _ _).symm.trans H; rw [hy787]; with_reducible exact H2_) | (have H2_ := (Option.bind_some _ _).symm.trans H; with_reducible exact H2_) | with_reducible exact H | (rw [hy787]; exact H) | exact H
   have Ny787 := Aside0.mk hy787
   clear hy787
   obtain ⟨t790, A34, H⟩ := zbs H
   try dsimp only at H
   obtain ⟨⟨t791, t792, t793⟩, A35, H⟩ := zbs H
   try dsimp only at H
   simp only [Option.some.injEq, Prod.mk.injEq] at H
   obtain ⟨rfl, rfl, rfl⟩ := H
   try go_wp2
   replace BK771 := Aside0.mk (blk_drew BK771.out)
   replace BK772 := Aside0.mk (blk_drew BK772.out)
   replace BK773 := Aside0.mk (blk_drew BK773.out)
   replace HB := Aside0.mk (below_drew1 HB.out)
   refine start_ (n := 14) (S := fun w' => True) (ds := []) #[false, false, false, false, false, false, false, false, false, false, false, false, false, false] (by kernel_rfl) rfl rfl trivial (fun hHeld => ?_); refine with_tabW span_Meet.tab4 span_Meet.bits4 (fun HT_ HW_ => ?_)
   generalize wc.drew = w36 at BK771 BK772 BK773 HB hHeld ⊢
   refine zpA 0 16 (h := ?_)
   refine zpA 2 18 (h := ?_)
   refine zpA 6 22 (h := ?_)
   refine zpA 8 24 (h := ?_)
   refine inv_at [1, 3, 4, 5, 7, 9, 10, 11, 12, 13] (fun a0_ b a w' => ∃ (v784 : Value) (v788 : Value), a = putSel a0_ b [(1, 17, .int .u64 t775), (3, 19, .int .u64 t778), (4, 20, v784), (5, 21, .int .u64 t786), (7, 23, .int .u64 t776), (9, 25, .int .u64 t779), (10, 26, v788), (11, 27, .int .u64 t790), (12, 28, .agg #[.bool t791, .int .u64 t792, .int .u64 t793])] ∧ (w'.heap[gb771]? = some (.cells #[.bool t774, .int .u64 t775, .int .u64 t776] 43 (0, 0))) ∧ (w'.heap[gb772]? = some (.cells #[.bool t777, .int .u64 t778, .int .u64 t779] 43 (0, 0))) ∧ (b 13 = false → w'.heap[gb773]? = some (.cells #[.bool false, .int .u64 0, .int .u64 0] 43 (0, 0))) ∧ (Below w.heap.size w w') ∧ (b 4 = true → Kd.R (Kd.int .u64) 23 w' w.heap.size (fun _ => True) v784 y783) ∧ (b 10 = true → Kd.R (Kd.int .u64) 23 w' w.heap.size (fun _ => True) v788 y787) ∧ (b 13 = true → w'.heap[gb773]? = some (.cells #[.bool t791, .int .u64 t792, .int .u64 t793] 43 (0, 0)))) HT_.out HW_.out (by kernel_rfl) (by kernel_rfl) ?_ ?_ ?_
   ·exact ⟨.bool false, .bool false, by simp only [putSel, Bool.false_eq_true, if_false], BK771.out, BK772.out, fun _ => BK773.out, HB.out, fun h_ => absurd h_ (by decide), fun h_ => absurd h_ (by decide), fun h_ => absurd h_ (by decide)⟩
   ·skip
    clear BK771 BK772 BK773 HB
    refine steps_cons ?_ ?_
    ·rintro b a w' ⟨v784, v788, ha, Q_BK771, Q_BK772, Q_BK773, Q_HB, Q_HO785, Q_HO789, Q_BK773_e13⟩ hb_ hon hoff
     refine ⟨_, rfl, fun K hK => ?_⟩
     have e16 : a.tmps[16]? = some (.pointer (some ⟨gb771, 1, none⟩)) := by rw [ha]; exact (putSel_off rfl).trans rfl
     replace ha := Aside0.mk ha
     have BK771 := Aside0.mk Q_BK771
     have BK772 := Aside0.mk Q_BK772
     have BK773 := Aside0.mk (Q_BK773 (hoff 13 (by kernel_rfl)))
     have HB := Aside0.mk Q_HB
     have hc0_ : w'.cell? ⟨gb771, 0, none⟩ = some (.bool t774) := (blk_cell BK771.out 0).trans rfl
     have hc1_ : w'.cell? ⟨gb771, 1, none⟩ = some (.int .u64 t775) := (blk_cell BK771.out 1).trans rfl
     have hc2_ : w'.cell? ⟨gb771, 2, none⟩ = some (.int .u64 t776) := (blk_cell BK771.out 2).trans rfl
     refine value_ (w1 := w') (v := .int .u64 t775) (by rfl) rfl ?_ ?_
     ·go_simp
      (try simp only [i64_w])
      try rfl
     refine hK.out _ _ ⟨v784, v788, (by rw [ha.out]; exact putSel_upk 0 hb_ rfl rfl rfl), Q_BK771, Q_BK772, Q_BK773, Q_HB, fun h0_ => absurd ((hoff 4 (by kernel_rfl)).symm.trans h0_) (by decide), Q_HO789, fun h0_ => absurd ((hoff 13 (by kernel_rfl)).symm.trans h0_) (by decide)⟩
    refine steps_cons ?_ ?_
    ·rintro b a w' ⟨v784, v788, ha, Q_BK771, Q_BK772, Q_BK773, Q_HB, Q_HO785, Q_HO789, Q_BK773_e13⟩ hb_ hon hoff
     refine ⟨_, rfl, fun K hK => ?_⟩
     have e18 : a.tmps[18]? = some (.pointer (some ⟨gb772, 1, none⟩)) := by rw [ha]; exact (putSel_off rfl).trans rfl
     replace ha := Aside0.mk ha
     have BK771 := Aside0.mk Q_BK771
     have BK772 := Aside0.mk Q_BK772
     have BK773 := Aside0.mk (Q_BK773 (hoff 13 (by kernel_rfl)))
     have HB := Aside0.mk Q_HB
     have hc0_ : w'.cell? ⟨gb772, 0, none⟩ = some (.bool t777) := (blk_cell BK772.out 0).trans rfl
     have hc1_ : w'.cell? ⟨gb772, 1, none⟩ = some (.int .u64 t778) := (blk_cell BK772.out 1).trans rfl
     have hc2_ : w'.cell? ⟨gb772, 2, none⟩ = some (.int .u64 t779) := (blk_cell BK772.out 2).trans rfl
     refine value_ (w1 := w') (v := .int .u64 t778) (by rfl) rfl ?_ ?_
     ·go_simp
      (try simp only [i64_w])
      try rfl
     refine hK.out _ _ ⟨v784, v788, (by rw [ha.out]; exact putSel_upk 1 hb_ rfl rfl rfl), Q_BK771, Q_BK772, Q_BK773, Q_HB, fun h0_ => absurd ((hoff 4 (by kernel_rfl)).symm.trans h0_) (by decide), Q_HO789, fun h0_ => absurd ((hoff 13 (by kernel_rfl)).symm.trans h0_) (by decide)⟩
    refine steps_cons ?_ ?_
    ·rintro b a w' ⟨v784, v788, ha, Q_BK771, Q_BK772, Q_BK773, Q_HB, Q_HO785, Q_HO789, Q_BK773_e13⟩ hb_ hon hoff
     refine ⟨_, rfl, fun K hK => ?_⟩
     have e17 : a.tmps[17]? = some (.int .u64 t775) := by rw [ha]; exact putSel_on (e := (1, 17, .int .u64 t775)) 0 rfl rfl (hon 1 (by kernel_rfl)) rfl
     have e19 : a.tmps[19]? = some (.int .u64 t778) := by rw [ha]; exact putSel_on (e := (3, 19, .int .u64 t778)) 1 rfl rfl (hon 3 (by kernel_rfl)) rfl
     replace ha := Aside0.mk ha
     have BK771 := Aside0.mk Q_BK771
     have BK772 := Aside0.mk Q_BK772
     have BK773 := Aside0.mk (Q_BK773 (hoff 13 (by kernel_rfl)))
     have HB := Aside0.mk Q_HB
     refine Kd.R_lit_step (Kd.int .u64) _ 23 ?hg (N := 20) ?hd (xs := ([t775, t778] : List Int)) (inner := [.int .u64 t775, .int .u64 t778]) (ok := fun _ => True) (okp := fun _ => True) ?hr ?hp (fun _ hk => hk) trivial (Below.refl _ _) (Nat.le_refl _) (by simp) ?_; (case hd => rfl); (case hg => rfl); (case hr => first | (go_simp; done) | (go_simp; rfl)); (case hp => exact (Reps.one (show Kd.M (Kd.int .u64) _ _ _ t775 [.int .u64 t775] from rfl) (Reps.one (show Kd.M (Kd.int .u64) _ _ _ t778 [.int .u64 t778] from rfl) (Reps.none _ _))))
     intro v784 w37 ho38 hb hg_ hnew_
     clear hg_ hnew_
     (first | rw [← Ny783.out] at ho38 | (simp only [Int.reduceToNat] at ho38; rw [← Ny783.out] at ho38))
     have n0_ := Aside0.mk (Kd.R_lower ho38 (below_size zaB))
     have n1_ := Aside0.mk (blk_below (g := gb771) (o := .cells #[.bool t774, .int .u64 t775, .int .u64 t776] 43 (0, 0)) (zkq BK771) hb)
     have n2_ := Aside0.mk (blk_below (g := gb772) (o := .cells #[.bool t777, .int .u64 t778, .int .u64 t779] 43 (0, 0)) (zkq BK772) hb)
     have n3_ := Aside0.mk (blk_below (g := gb773) (o := .cells #[.bool false, .int .u64 0, .int .u64 0] 43 (0, 0)) (zkq BK773) hb)
     have n4_ := Aside0.mk (below_step zaB hb)
     have z_HO789 := fun (h0_ : b 10 = true) => (show Kd.R (Kd.int .u64) 23 w37 w.heap.size (fun _ => True) v788 y787 from by first | exact (Kd.R_elder' (by (with_reducible repeat (first | apply Kd.R_alloc | apply Kd.R_drewN | apply Kd.R_drew)); exact (Q_HO789 h0_)) (Kd.R_base ho38) hb) | exact Kd.R_mono (Kd.R_elder' (by (with_reducible repeat (first | apply Kd.R_alloc | apply Kd.R_drewN | apply Kd.R_drew)); exact (Q_HO789 h0_)) (Kd.R_base ho38) hb) (fun _ h_ => by first | trivial | exact h_ | exact h_.1))
     clear BK771
     clear BK772
     clear BK773
     clear HB
     have HO785 := n0_
     have BK771 := n1_
     have BK772 := n2_
     have BK773 := n3_
     have HB := n4_
     clear n0_ n1_ n2_ n3_ n4_
     clear hb ho38
     refine hK.out _ _ ⟨v784, v788, (by rw [ha.out]; exact putSel_upk 2 hb_ rfl rfl rfl), (zkq BK771), (zkq BK772), fun _ => (zkq BK773), zaB, fun _ => (by (with_reducible repeat (first | apply Kd.R_alloc | apply Kd.R_drewN | apply Kd.R_drew)); exact HO785.out), z_HO789, fun h0_ => absurd ((hoff 13 (by kernel_rfl)).symm.trans h0_) (by decide)⟩
    refine steps_cons ?_ ?_
    ·rintro b a w' ⟨v784, v788, ha, Q_BK771, Q_BK772, Q_BK773, Q_HB, Q_HO785, Q_HO789, Q_BK773_e13⟩ hb_ hon hoff
     refine ⟨_, rfl, fun K hK => ?_⟩
     have e20 : a.tmps[20]? = some (v784) := by rw [ha]; exact putSel_on (e := (4, 20, v784)) 2 rfl rfl (hon 4 (by kernel_rfl)) rfl
     replace ha := Aside0.mk ha
     have BK771 := Aside0.mk Q_BK771
     have BK772 := Aside0.mk Q_BK772
     have BK773 := Aside0.mk (Q_BK773 (hoff 13 (by kernel_rfl)))
     have HB := Aside0.mk Q_HB
     have HO785 := Aside0.mk (Q_HO785 (hon 4 (by kernel_rfl)))
     obtain ⟨Ao40, co40, eo40⟩ := Kd.R_slice HO785.out
     (first | subst eo40 | (injection eo40 with f1_ f2_ f3_; have f4_ := f1_.symm; have f5_ := f3_.symm; clear f1_ f2_ f3_; subst f4_; subst f5_))
     refine goes_ Try.func120 (by kernel_rfl) rfl #[.slice Ao40 y783.length co40] (by rfl) rfl rfl (by first | (simp only [List.map_toArray, List.map_cons, List.map_nil, Act.eval, Array.getD_eq_getD_getElem?, Option.getD_some, e20]; done) | (simp only [List.map_toArray, List.map_cons, List.map_nil, Act.eval, Array.getD_eq_getD_getElem?, Option.getD_some, e20]; rfl)) ?_
     with_reducible refine (pattern_Max.calls kj4 _ _ y783 t786 _ ?side1 ?side2 A33.out).mono ?_
     (case side1 => repeat (first | exact (Kd.R_reads' HO785.out).2.2 | (with_reducible refine Kd.C_alloc ?_ _) | (with_reducible refine Kd.C_drewN ?_ _) | (with_reducible refine Kd.C_drew ?_)))
     (case side2 => exact (Kd.R_reads' HO785.out).2.1)
     rintro e w41 ⟨rfl, hb⟩
     refine ⟨_, rfl, ?_⟩
     have n0_ := Aside0.mk (Kd.R_below (by (with_reducible repeat (first | apply Kd.R_alloc | apply Kd.R_drewN | apply Kd.R_drew)); exact HO785.out) hb)
     have n1_ := Aside0.mk (blk_below (g := gb771) (o := .cells #[.bool t774, .int .u64 t775, .int .u64 t776] 43 (0, 0)) (zkq BK771) hb)
     have n2_ := Aside0.mk (blk_below (g := gb772) (o := .cells #[.bool t777, .int .u64 t778, .int .u64 t779] 43 (0, 0)) (zkq BK772) hb)
     have n3_ := Aside0.mk (blk_below (g := gb773) (o := .cells #[.bool false, .int .u64 0, .int .u64 0] 43 (0, 0)) (zkq BK773) hb)
     have n4_ := Aside0.mk (below_step zaB hb)
     have z_HO789 := fun (h0_ : b 10 = true) => (show Kd.R (Kd.int .u64) 23 w41 w.heap.size (fun _ => True) v788 y787 from by first | exact (Kd.R_below (by (with_reducible repeat (first | apply Kd.R_alloc | apply Kd.R_drewN | apply Kd.R_drew)); exact (Q_HO789 h0_)) hb) | exact Kd.R_mono (Kd.R_below (by (with_reducible repeat (first | apply Kd.R_alloc | apply Kd.R_drewN | apply Kd.R_drew)); exact (Q_HO789 h0_)) hb) (fun _ h_ => by first | trivial | exact h_ | exact h_.1))
     clear HO785
     clear BK771
     clear BK772
     clear BK773
     clear HB
     have HO785 := n0_
     have BK771 := n1_
     have BK772 := n2_
     have BK773 := n3_
     have HB := n4_
     clear n0_ n1_ n2_ n3_ n4_
     (try clear hb)
     refine hK.out _ _ ⟨.slice Ao40 y783.length co40, v788, (by rw [ha.out]; exact putSel_upk 3 hb_ rfl rfl rfl), (zkq BK771), (zkq BK772), fun _ => (zkq BK773), zaB, fun _ => (by (with_reducible repeat (first | apply Kd.R_alloc | apply Kd.R_drewN | apply Kd.R_drew)); exact HO785.out), z_HO789, fun h0_ => absurd ((hoff 13 (by kernel_rfl)).symm.trans h0_) (by decide)⟩
    refine steps_cons ?_ ?_
    ·rintro b a w' ⟨v784, v788, ha, Q_BK771, Q_BK772, Q_BK773, Q_HB, Q_HO785, Q_HO789, Q_BK773_e13⟩ hb_ hon hoff
     refine ⟨_, rfl, fun K hK => ?_⟩
     have e22 : a.tmps[22]? = some (.pointer (some ⟨gb771, 2, none⟩)) := by rw [ha]; exact (putSel_off rfl).trans rfl
     replace ha := Aside0.mk ha
     have BK771 := Aside0.mk Q_BK771
     have BK772 := Aside0.mk Q_BK772
     have BK773 := Aside0.mk (Q_BK773 (hoff 13 (by kernel_rfl)))
     have HB := Aside0.mk Q_HB
     have hc0_ : w'.cell? ⟨gb771, 0, none⟩ = some (.bool t774) := (blk_cell BK771.out 0).trans rfl
     have hc1_ : w'.cell? ⟨gb771, 1, none⟩ = some (.int .u64 t775) := (blk_cell BK771.out 1).trans rfl
     have hc2_ : w'.cell? ⟨gb771, 2, none⟩ = some (.int .u64 t776) := (blk_cell BK771.out 2).trans rfl
     refine value_ (w1 := w') (v := .int .u64 t776) (by rfl) rfl ?_ ?_
     ·go_simp
      (try simp only [i64_w])
      try rfl
     refine hK.out _ _ ⟨v784, v788, (by rw [ha.out]; exact putSel_upk 4 hb_ rfl rfl rfl), Q_BK771, Q_BK772, Q_BK773, Q_HB, Q_HO785, fun h0_ => absurd ((hoff 10 (by kernel_rfl)).symm.trans h0_) (by decide), fun h0_ => absurd ((hoff 13 (by kernel_rfl)).symm.trans h0_) (by decide)⟩
    refine steps_cons ?_ ?_
    ·rintro b a w' ⟨v784, v788, ha, Q_BK771, Q_BK772, Q_BK773, Q_HB, Q_HO785, Q_HO789, Q_BK773_e13⟩ hb_ hon hoff
     refine ⟨_, rfl, fun K hK => ?_⟩
     have e24 : a.tmps[24]? = some (.pointer (some ⟨gb772, 2, none⟩)) := by rw [ha]; exact (putSel_off rfl).trans rfl
     replace ha := Aside0.mk ha
     have BK771 := Aside0.mk Q_BK771
     have BK772 := Aside0.mk Q_BK772
     have BK773 := Aside0.mk (Q_BK773 (hoff 13 (by kernel_rfl)))
     have HB := Aside0.mk Q_HB
     have hc0_ : w'.cell? ⟨gb772, 0, none⟩ = some (.bool t777) := (blk_cell BK772.out 0).trans rfl
     have hc1_ : w'.cell? ⟨gb772, 1, none⟩ = some (.int .u64 t778) := (blk_cell BK772.out 1).trans rfl
     have hc2_ : w'.cell? ⟨gb772, 2, none⟩ = some (.int .u64 t779) := (blk_cell BK772.out 2).trans rfl
     refine value_ (w1 := w') (v := .int .u64 t779) (by rfl) rfl ?_ ?_
     ·go_simp
      (try simp only [i64_w])
      try rfl
     refine hK.out _ _ ⟨v784, v788, (by rw [ha.out]; exact putSel_upk 5 hb_ rfl rfl rfl), Q_BK771, Q_BK772, Q_BK773, Q_HB, Q_HO785, fun h0_ => absurd ((hoff 10 (by kernel_rfl)).symm.trans h0_) (by decide), fun h0_ => absurd ((hoff 13 (by kernel_rfl)).symm.trans h0_) (by decide)⟩
    refine steps_cons ?_ ?_
    ·rintro b a w' ⟨v784, v788, ha, Q_BK771, Q_BK772, Q_BK773, Q_HB, Q_HO785, Q_HO789, Q_BK773_e13⟩ hb_ hon hoff
     refine ⟨_, rfl, fun K hK => ?_⟩
     have e23 : a.tmps[23]? = some (.int .u64 t776) := by rw [ha]; exact putSel_on (e := (7, 23, .int .u64 t776)) 4 rfl rfl (hon 7 (by kernel_rfl)) rfl
     have e25 : a.tmps[25]? = some (.int .u64 t779) := by rw [ha]; exact putSel_on (e := (9, 25, .int .u64 t779)) 5 rfl rfl (hon 9 (by kernel_rfl)) rfl
     replace ha := Aside0.mk ha
     have BK771 := Aside0.mk Q_BK771
     have BK772 := Aside0.mk Q_BK772
     have BK773 := Aside0.mk (Q_BK773 (hoff 13 (by kernel_rfl)))
     have HB := Aside0.mk Q_HB
     refine Kd.R_lit_step (Kd.int .u64) _ 23 ?hg (N := 26) ?hd (xs := ([t776, t779] : List Int)) (inner := [.int .u64 t776, .int .u64 t779]) (ok := fun _ => True) (okp := fun _ => True) ?hr ?hp (fun _ hk => hk) trivial (Below.refl _ _) (Nat.le_refl _) (by simp) ?_; (case hd => rfl); (case hg => rfl); (case hr => first | (go_simp; done) | (go_simp; rfl)); (case hp => exact (Reps.one (show Kd.M (Kd.int .u64) _ _ _ t776 [.int .u64 t776] from rfl) (Reps.one (show Kd.M (Kd.int .u64) _ _ _ t779 [.int .u64 t779] from rfl) (Reps.none _ _))))
     intro v788 w37 ho38 hb hg_ hnew_
     clear hg_ hnew_
     (first | rw [← Ny787.out] at ho38 | (simp only [Int.reduceToNat] at ho38; rw [← Ny787.out] at ho38))
     have n0_ := Aside0.mk (Kd.R_lower ho38 (below_size zaB))
     have n1_ := Aside0.mk (blk_below (g := gb771) (o := .cells #[.bool t774, .int .u64 t775, .int .u64 t776] 43 (0, 0)) (zkq BK771) hb)
     have n2_ := Aside0.mk (blk_below (g := gb772) (o := .cells #[.bool t777, .int .u64 t778, .int .u64 t779] 43 (0, 0)) (zkq BK772) hb)
     have n3_ := Aside0.mk (blk_below (g := gb773) (o := .cells #[.bool false, .int .u64 0, .int .u64 0] 43 (0, 0)) (zkq BK773) hb)
     have n4_ := Aside0.mk (below_step zaB hb)
     have z_HO785 := fun (h0_ : b 4 = true) => (show Kd.R (Kd.int .u64) 23 w37 w.heap.size (fun _ => True) v784 y783 from by first | exact (Kd.R_elder' (by (with_reducible repeat (first | apply Kd.R_alloc | apply Kd.R_drewN | apply Kd.R_drew)); exact (Q_HO785 h0_)) (Kd.R_base ho38) hb) | exact Kd.R_mono (Kd.R_elder' (by (with_reducible repeat (first | apply Kd.R_alloc | apply Kd.R_drewN | apply Kd.R_drew)); exact (Q_HO785 h0_)) (Kd.R_base ho38) hb) (fun _ h_ => by first | trivial | exact h_ | exact h_.1))
     clear BK771
     clear BK772
     clear BK773
     clear HB
     have HO789 := n0_
     have BK771 := n1_
     have BK772 := n2_
     have BK773 := n3_
     have HB := n4_
     clear n0_ n1_ n2_ n3_ n4_
     clear hb ho38
     refine hK.out _ _ ⟨v784, v788, (by rw [ha.out]; exact putSel_upk 6 hb_ rfl rfl rfl), (zkq BK771), (zkq BK772), fun _ => (zkq BK773), zaB, z_HO785, fun _ => (by (with_reducible repeat (first | apply Kd.R_alloc | apply Kd.R_drewN | apply Kd.R_drew)); exact HO789.out), fun h0_ => absurd ((hoff 13 (by kernel_rfl)).symm.trans h0_) (by decide)⟩
    refine steps_cons ?_ ?_
    ·rintro b a w' ⟨v784, v788, ha, Q_BK771, Q_BK772, Q_BK773, Q_HB, Q_HO785, Q_HO789, Q_BK773_e13⟩ hb_ hon hoff
     refine ⟨_, rfl, fun K hK => ?_⟩
     have e26 : a.tmps[26]? = some (v788) := by rw [ha]; exact putSel_on (e := (10, 26, v788)) 6 rfl rfl (hon 10 (by kernel_rfl)) rfl
     replace ha := Aside0.mk ha
     have BK771 := Aside0.mk Q_BK771
     have BK772 := Aside0.mk Q_BK772
     have BK773 := Aside0.mk (Q_BK773 (hoff 13 (by kernel_rfl)))
     have HB := Aside0.mk Q_HB
     have HO785 := Aside0.mk (Q_HO785 (hon 4 (by kernel_rfl)))
     have HO789 := Aside0.mk (Q_HO789 (hon 10 (by kernel_rfl)))
     obtain ⟨Ao44, co44, eo44⟩ := Kd.R_slice HO789.out
     (first | subst eo44 | (injection eo44 with f1_ f2_ f3_; have f4_ := f1_.symm; have f5_ := f3_.symm; clear f1_ f2_ f3_; subst f4_; subst f5_))
     refine goes_ Try.func119 (by kernel_rfl) rfl #[.slice Ao44 y787.length co44] (by rfl) rfl rfl (by first | (simp only [List.map_toArray, List.map_cons, List.map_nil, Act.eval, Array.getD_eq_getD_getElem?, Option.getD_some, e26]; done) | (simp only [List.map_toArray, List.map_cons, List.map_nil, Act.eval, Array.getD_eq_getD_getElem?, Option.getD_some, e26]; rfl)) ?_
     with_reducible refine (pattern_Min.calls kj4 _ _ y787 t790 _ ?side1 ?side2 A34.out).mono ?_
     (case side1 => repeat (first | exact (Kd.R_reads' HO789.out).2.2 | (with_reducible refine Kd.C_alloc ?_ _) | (with_reducible refine Kd.C_drewN ?_ _) | (with_reducible refine Kd.C_drew ?_)))
     (case side2 => exact (Kd.R_reads' HO789.out).2.1)
     rintro e w45 ⟨rfl, hb⟩
     refine ⟨_, rfl, ?_⟩
     replace HO785 := Aside0.mk (Kd.R_below (by (with_reducible repeat (first | apply Kd.R_alloc | apply Kd.R_drewN | apply Kd.R_drew)); exact HO785.out) hb)
     replace HO789 := Aside0.mk (Kd.R_below (by (with_reducible repeat (first | apply Kd.R_alloc | apply Kd.R_drewN | apply Kd.R_drew)); exact HO789.out) hb)
     replace BK771 := zkb BK771 hb
     replace BK772 := zkb BK772 hb
     replace BK773 := zkb BK773 hb
     replace HB := zkB HB hb
     (try clear hb)
     refine hK.out _ _ ⟨v784, .slice Ao44 y787.length co44, (by rw [ha.out]; exact putSel_upk 7 hb_ rfl rfl rfl), (zkq BK771), (zkq BK772), fun _ => (zkq BK773), zaB, fun _ => (by (with_reducible repeat (first | apply Kd.R_alloc | apply Kd.R_drewN | apply Kd.R_drew)); exact HO785.out), fun _ => (by (with_reducible repeat (first | apply Kd.R_alloc | apply Kd.R_drewN | apply Kd.R_drew)); exact HO789.out), fun h0_ => absurd ((hoff 13 (by kernel_rfl)).symm.trans h0_) (by decide)⟩
    refine steps_cons ?_ ?_
    ·rintro b a w' ⟨v784, v788, ha, Q_BK771, Q_BK772, Q_BK773, Q_HB, Q_HO785, Q_HO789, Q_BK773_e13⟩ hb_ hon hoff
     refine ⟨_, rfl, fun K hK => ?_⟩
     have e21 : a.tmps[21]? = some (.int .u64 t786) := by rw [ha]; exact putSel_on (e := (5, 21, .int .u64 t786)) 3 rfl rfl (hon 5 (by kernel_rfl)) rfl
     have e27 : a.tmps[27]? = some (.int .u64 t790) := by rw [ha]; exact putSel_on (e := (11, 27, .int .u64 t790)) 7 rfl rfl (hon 11 (by kernel_rfl)) rfl
     replace ha := Aside0.mk ha
     have BK771 := Aside0.mk Q_BK771
     have BK772 := Aside0.mk Q_BK772
     have BK773 := Aside0.mk (Q_BK773 (hoff 13 (by kernel_rfl)))
     have HB := Aside0.mk Q_HB
     have HO785 := Aside0.mk (Q_HO785 (hon 4 (by kernel_rfl)))
     have HO789 := Aside0.mk (Q_HO789 (hon 10 (by kernel_rfl)))
     refine goes_ Try.func37 (by kernel_rfl) rfl #[.int .u64 t786, .int .u64 t790] (by rfl) rfl rfl (by first | (simp only [List.map_toArray, List.map_cons, List.map_nil, Act.eval, Array.getD_eq_getD_getElem?, Option.getD_some, e21, e27]; done) | (simp only [List.map_toArray, List.map_cons, List.map_nil, Act.eval, Array.getD_eq_getD_getElem?, Option.getD_some, e21, e27]; rfl)) ?_
     with_reducible refine (span_Make.calls kj4 t786 t790 t791 t792 t793 _ A35.out).mono ?_
     rintro e w46 ⟨rfl, hb⟩
     refine ⟨_, rfl, ?_⟩
     replace HO785 := Aside0.mk (Kd.R_below (by (with_reducible repeat (first | apply Kd.R_alloc | apply Kd.R_drewN | apply Kd.R_drew)); exact HO785.out) hb)
     replace HO789 := Aside0.mk (Kd.R_below (by (with_reducible repeat (first | apply Kd.R_alloc | apply Kd.R_drewN | apply Kd.R_drew)); exact HO789.out) hb)
     replace BK771 := zkb BK771 hb
     replace BK772 := zkb BK772 hb
     replace BK773 := zkb BK773 hb
     replace HB := zkB HB hb
     (try clear hb)
     refine hK.out _ _ ⟨v784, v788, (by rw [ha.out]; exact putSel_upk 8 hb_ rfl rfl rfl), (zkq BK771), (zkq BK772), fun _ => (zkq BK773), zaB, fun _ => (by (with_reducible repeat (first | apply Kd.R_alloc | apply Kd.R_drewN | apply Kd.R_drew)); exact HO785.out), fun _ => (by (with_reducible repeat (first | apply Kd.R_alloc | apply Kd.R_drewN | apply Kd.R_drew)); exact HO789.out), fun h0_ => absurd ((hoff 13 (by kernel_rfl)).symm.trans h0_) (by decide)⟩
    refine steps_cons ?_ ?_
    ·rintro b a w' ⟨v784, v788, ha, Q_BK771, Q_BK772, Q_BK773, Q_HB, Q_HO785, Q_HO789, Q_BK773_e13⟩ hb_ hon hoff
     refine ⟨_, rfl, fun K hK => ?_⟩
     have e4 : a.tmps[4]? = some (.pointer (some ⟨gb773, 0, none⟩)) := by rw [ha]; exact (putSel_off rfl).trans rfl
     have e28 : a.tmps[28]? = some (.agg #[.bool t791, .int .u64 t792, .int .u64 t793]) := by rw [ha]; exact putSel_on (e := (12, 28, .agg #[.bool t791, .int .u64 t792, .int .u64 t793])) 8 rfl rfl (hon 12 (by kernel_rfl)) rfl
     replace ha := Aside0.mk ha
     have BK771 := Aside0.mk Q_BK771
     have BK772 := Aside0.mk Q_BK772
     have BK773 := Aside0.mk (Q_BK773 hb_)
     have HB := Aside0.mk Q_HB
     have HO785 := Aside0.mk (Q_HO785 (hon 4 (by kernel_rfl)))
     have HO789 := Aside0.mk (Q_HO789 (hon 10 (by kernel_rfl)))
     have hs47 : w'.cell? ⟨gb773, 0, none⟩ = some (.bool false) := (blk_cell BK773.out 0).trans rfl
     have hfs47 := blk_frozen BK773.out 0
     obtain ⟨_, _, _, _⟩ := zs2 NB771_773 NB772_773
     have hs48 : w'.cell? ⟨gb773, 1, none⟩ = some (.int .u64 0) := (blk_cell BK773.out 1).trans rfl
     have hfs48 := blk_frozen BK773.out 1
     obtain ⟨_, _, _, _⟩ := zs2 NB771_773 NB772_773
     have hs49 : w'.cell? ⟨gb773, 2, none⟩ = some (.int .u64 0) := (blk_cell BK773.out 2).trans rfl
     have hfs49 := blk_frozen BK773.out 2
     obtain ⟨_, _, _, _⟩ := zs2 NB771_773 NB772_773
     refine skip_ (w1 := ?_) (by rfl) rfl ?_ ?_
     rotate_left
     ·go_simp
      rfl
     refine hK.out _ _ ⟨v784, v788, (by rw [ha.out]; exact putSel_none (v := undef) rfl), (zkf (zkf (zkf (zkq BK771) NB771_773.out _) NB771_773.out _) NB771_773.out _), (zkf (zkf (zkf (zkq BK772) NB772_773.out _) NB772_773.out _) NB772_773.out _), fun h0_ => absurd ((up_self b 13).symm.trans h0_) (by decide), zaB, fun _ => (by (with_reducible repeat (first | apply Kd.R_alloc | apply Kd.R_drewN | apply Kd.R_drew)); exact Kd.R_mono (Kd.R_far (p := ⟨gb773, 2, none⟩) (Kd.R_far (p := ⟨gb773, 1, none⟩) (Kd.R_far (p := ⟨gb773, 0, none⟩) (Kd.R_types HO785.out BK773.out (by decide)) (fun _ hk => hk.2) (.bool t791)) (fun _ hk => hk.2) (.int .u64 t792)) (fun _ hk => hk.2) (.int .u64 t793)) (fun _ hk => hk.1)), fun _ => (by (with_reducible repeat (first | apply Kd.R_alloc | apply Kd.R_drewN | apply Kd.R_drew)); exact Kd.R_mono (Kd.R_far (p := ⟨gb773, 2, none⟩) (Kd.R_far (p := ⟨gb773, 1, none⟩) (Kd.R_far (p := ⟨gb773, 0, none⟩) (Kd.R_types HO789.out BK773.out (by decide)) (fun _ hk => hk.2) (.bool t791)) (fun _ hk => hk.2) (.int .u64 t792)) (fun _ hk => hk.2) (.int .u64 t793)) (fun _ hk => hk.1)), fun _ => (blk_put (cs := #[.bool t791, .int .u64 t792, .int .u64 0]) (blk_put (cs := #[.bool t791, .int .u64 0, .int .u64 0]) (blk_put (zkq BK773) 0 _ rfl) 1 _ rfl) 2 _ rfl)⟩
    exact steps_nil
   rintro b a w49 hall ⟨v784, v788, ha, Q_BK771, Q_BK772, Q_BK773, Q_HB, Q_HO785, Q_HO789, Q_BK773_e13⟩
   clear BK771 BK772 BK773 HB
   have hb1_ := hall 1 (by kernel_rfl)
   have hb3_ := hall 3 (by kernel_rfl)
   have hb4_ := hall 4 (by kernel_rfl)
   have hb5_ := hall 5 (by kernel_rfl)
   have hb7_ := hall 7 (by kernel_rfl)
   have hb9_ := hall 9 (by kernel_rfl)
   have hb10_ := hall 10 (by kernel_rfl)
   have hb11_ := hall 11 (by kernel_rfl)
   have hb12_ := hall 12 (by kernel_rfl)
   have hb13_ := hall 13 (by kernel_rfl)
   subst ha
   simp only [putSel, hb1_, hb3_, hb4_, hb5_, hb7_, hb9_, hb10_, hb11_, hb12_, hb13_, if_true, Act.put, List.setIfInBounds_toArray, List.set_cons_zero, List.set_cons_succ]
   have BK771 := Aside0.mk Q_BK771
   clear Q_BK771
   have BK772 := Aside0.mk Q_BK772
   clear Q_BK772
   clear Q_BK773
   have HB := Aside0.mk Q_HB
   clear Q_HB
   have HO785 := Aside0.mk (Q_HO785 hb4_)
   clear Q_HO785
   have HO789 := Aside0.mk (Q_HO789 hb10_)
   clear Q_HO789
   have BK773 := Aside0.mk (Q_BK773_e13 hb13_)
   clear Q_BK773_e13
   clear hall hb1_ hb3_ hb4_ hb5_ hb7_ hb9_ hb10_ hb11_ hb12_ hb13_
   try go_wp2
   refine bodyPost_ret (results_cell_row rfl _ _ gb773 43 #[.bool t791, .int .u64 t792, .int .u64 t793] (0, 0) _ rfl (zkq BK773) Try.underlying43 rfl (by kernel_rfl)) rfl ?_
   exact ⟨zaE, zaB⟩
theorem pattern_Neg.calls (k : Nat) (a0 : Int) (r : Int) (w : World) (h : pattern_Neg.f k a0 = some r) :
  Calls Try.prog 32 #[.int .u64 a0] w fun e w' => e = .returned (.int .u64 r) ∧ Drawn0 w w' := by
 have H : ((pattern_nan.f k a0).bind fun t225 => (if t225 = true then (some a0) else (some (Go.bits .xor .u64 a0 9223372036854775808)))) = some r := h
 clear h
 obtain ⟨t225, A2, H⟩ := zbs H
 try dsimp only at H
 by_cases c3 : t225 = true
 ·subst c3
  replace H := zit H
  obtain rfl := Option.some.inj H
  go_enter Try.func32, Try.ntmps32
  go_wp2_with (first | ((with_reducible refine gtc 109 rfl ?_); refine zgL 4 Try.func109 (pattern_nan.calls k a0 true _ A2.out) (h := ?_); rintro w' ⟨nd, rfl⟩))
  go_ret
  exact ⟨by first | rfl | (simp; done) | (simp [*]; done), by repeat (first | exact Drawn0.refl _ | apply Drawn0.step)⟩
 replace c3 := Bool.eq_false_iff.mpr c3
 subst c3
 replace H := zif H
 obtain rfl := Option.some.inj H
 go_enter Try.func32, Try.ntmps32
 go_wp2_with (first | ((with_reducible refine gtc 109 rfl ?_); refine zgL 4 Try.func109 (pattern_nan.calls k a0 false _ A2.out) (h := ?_); rintro w' ⟨nd, rfl⟩))
 go_ret
 exact ⟨by first | rfl | (simp; done) | (simp [*]; done), by repeat (first | exact Drawn0.refl _ | apply Drawn0.step)⟩
def span_Neg.T4 : Bool × List (List Nat × List Nat) := (true, [([], []), ([0], [0]), ([1], [1]), ([], []), ([3], [3]), ([4, 2], [4]), ([2, 5, 5], [2, 5]), ([6, 6, 0, 1, 2, 3, 4, 5, 6], [6])])
def span_Neg.B4 : List Nat := [0, 1, 3, 0, 8, 31, 63, 127]
theorem span_Neg.tab4 : rtab .any (opsOf Try.f111 4) = span_Neg.T4 := by kernel_rfl
theorem span_Neg.bits4 : waitsOk span_Neg.T4.2 span_Neg.B4 = true := by kernel_rfl
theorem span_Neg.calls (k : Nat) (a0_0 : Bool) (a0_1 : Int) (a0_2 : Int) (r1 : Bool) (r2 : Int) (r3 : Int) (w : World) (h : span_Neg.f k a0_0 a0_1 a0_2 = some (r1, r2, r3)) :
  Calls Try.prog 111 #[.agg #[.bool a0_0, .int .u64 a0_1, .int .u64 a0_2]] w fun e w' => e = .returned (.agg #[.bool r1, .int .u64 r2, .int .u64 r3]) ∧ Below w.heap.size w w' := by
 have hu43 := Try.underlying43
 have HB := Aside0.mk (Below.refl w.heap.size w)
 have H : ((span_norm.f k a0_0 a0_1 a0_2).bind fun bt796 => (if bt796.1 = true then (some (bt796.1, bt796.2.1, bt796.2.2)) else ((pattern_Neg.f k bt796.2.2).bind fun t799 => ((pattern_Neg.f k bt796.2.1).bind fun t800 => ((span_Make.f k t799 t800).bind fun bt801 => (some (bt801.1, bt801.2.1, bt801.2.2))))))) = some (r1, r2, r3) := h
 clear h
 obtain ⟨⟨t796, t797, t798⟩, A2, H⟩ := zbs H
 try dsimp only at H
 by_cases c3 : t796 = true
 ·subst c3
  replace H := zit H
  simp only [Option.some.injEq, Prod.mk.injEq] at H
  obtain ⟨rfl, rfl, rfl⟩ := H
  go_enter Try.func111, Try.ntmps111
  go_wp2_with (first | ((with_reducible refine gtd 1 rfl ?_); refine zbx 1 #[.bool a0_0, .int .u64 a0_1, .int .u64 a0_2] 43 (h := ?_); intro gb794 hg w4 hbox hb; have GW794 := zkZ hg (zaB (p := Below w.heap.size w _)); replace HB := Aside0.mk (below_step zaB hb); have BK794 := Aside0.mk (hbox); clear hb hbox hg) | ((with_reducible refine gtd 2 rfl ?_); refine zbx 2 #[.bool false, .int .u64 0, .int .u64 0] 43 (h := ?_); intro gb795 hg w5 hbox hb; have GW795 := zkz HB hg; have NB794_795 := zkl BK794 hg; have NB795_794 := zkr BK794 hg; replace BK794 := zkb BK794 hb; replace HB := zkB HB hb; have BK795 := Aside0.mk (hbox); clear hb hbox hg; obtain ⟨_, _⟩ := zsy NB794_795; obtain ⟨_, _, _, _, _, _⟩ := zq3 BK794) | ((with_reducible refine gtc 112 rfl ?_); refine zgL 4 Try.func112 (span_norm.calls k a0_0 a0_1 a0_2 true t797 t798 _ A2.out) (h := ?_); rintro w8 hb; replace BK794 := zkb BK794 hb; replace BK795 := zkb BK795 hb; replace HB := zkB HB hb; (try clear hb); obtain ⟨_, _, _, _, _, _⟩ := zq3 BK794; obtain ⟨_, _, _, _, _, _⟩ := zq3 BK795))
  refine bodyPost_ret (results_cell_row rfl _ _ gb795 43 #[.bool true, .int .u64 t797, .int .u64 t798] (0, 0) _ rfl (blk_put (cs := #[.bool true, .int .u64 t797, .int .u64 0]) (blk_put (cs := #[.bool true, .int .u64 0, .int .u64 0]) (blk_put (zkf (zkf (zkf (zkq BK795) NB795_794.out _) NB795_794.out _) NB795_794.out _) 0 _ rfl) 1 _ rfl) 2 _ rfl) Try.underlying43 rfl (by kernel_rfl)) rfl ?_
  exact ⟨zaE, zaB⟩
 replace c3 := Bool.eq_false_iff.mpr c3
 subst c3
 replace H := zif H
 obtain ⟨t799, A11, H⟩ := zbs H
 try dsimp only at H
 obtain ⟨t800, A12, H⟩ := zbs H
 try dsimp only at H
 obtain ⟨⟨t801, t802, t803⟩, A13, H⟩ := zbs H
 try dsimp only at H
 simp only [Option.some.injEq, Prod.mk.injEq] at H
 obtain ⟨rfl, rfl, rfl⟩ := H
 go_enter Try.func111, Try.ntmps111
 try go_wp2_with (first | ((with_reducible refine gtd 1 rfl ?_); refine zbx 1 #[.bool a0_0, .int .u64 a0_1, .int .u64 a0_2] 43 (h := ?_); intro gb794 hg w14 hbox hb; have GW794 := zkZ hg (zaB (p := Below w.heap.size w _)); replace HB := Aside0.mk (below_step zaB hb); have BK794 := Aside0.mk (hbox); clear hb hbox hg) | ((with_reducible refine gtd 2 rfl ?_); refine zbx 2 #[.bool false, .int .u64 0, .int .u64 0] 43 (h := ?_); intro gb795 hg w15 hbox hb; have GW795 := zkz HB hg; have NB794_795 := zkl BK794 hg; have NB795_794 := zkr BK794 hg; replace BK794 := zkb BK794 hb; replace HB := zkB HB hb; have BK795 := Aside0.mk (hbox); clear hb hbox hg; obtain ⟨_, _⟩ := zsy NB794_795; obtain ⟨_, _, _, _, _, _⟩ := zq3 BK794) | ((with_reducible refine gtc 112 rfl ?_); refine zgL 4 Try.func112 (span_norm.calls k a0_0 a0_1 a0_2 false t797 t798 _ A2.out) (h := ?_); rintro w18 hb; replace BK794 := zkb BK794 hb; replace BK795 := zkb BK795 hb; replace HB := zkB HB hb; (try clear hb); obtain ⟨_, _, _, _, _, _⟩ := zq3 BK794))
 generalize hW_ : (((w18.setCell ⟨gb794, 0, none⟩ (.bool false)).setCell ⟨gb794, 1, none⟩ (.int .u64 t797)).setCell ⟨gb794, 2, none⟩ (.int .u64 t798)) = w20
 replace BK794 := zkg hW_ (ob := .cells #[.bool false, .int .u64 t797, .int .u64 t798] 43 (0, 0)) (blk_put (cs := #[.bool false, .int .u64 t797, .int .u64 a0_2]) (blk_put (cs := #[.bool false, .int .u64 a0_1, .int .u64 a0_2]) (blk_put BK794.out 0 _ rfl) 1 _ rfl) 2 _ rfl)
 replace BK795 := zkg hW_ (zkf (zkf (zkf BK795.out NB795_794.out _) NB795_794.out _) NB795_794.out _)
 replace HB := zkG hW_ (below_set (below_set (below_set HB.out GW794.out) GW794.out) GW794.out)
 clear hW_
 replace BK794 := Aside0.mk (blk_drew BK794.out)
 replace BK795 := Aside0.mk (blk_drew BK795.out)
 replace HB := Aside0.mk (below_drew1 HB.out)
 refine start_ (n := 8) (S := fun w' => w'.cell? ⟨gb794, 0, none⟩ = some (.bool false) ∧ w'.cell? ⟨gb794, 1, none⟩ = some (.int .u64 t797) ∧ w'.cell? ⟨gb794, 2, none⟩ = some (.int .u64 t798)) (ds := []) #[false, false, false, false, false, false, false, false] (by kernel_rfl) rfl rfl (ze3 BK794) (fun hHeld => ?_); refine with_tabW span_Neg.tab4 span_Neg.bits4 (fun HT_ HW_ => ?_)
 generalize w20.drew = w21 at BK794 BK795 HB hHeld ⊢
 refine zpA 0 8 (h := ?_)
 refine zpA 3 11 (h := ?_)
 refine ztA 1 9 (h := ?_)
 refine ztA 4 12 (h := ?_)
 refine zoA 2 10 (h := fun K hK => ?_)
 refine zgA Try.func32 (pattern_Neg.calls k t798 t799 _ A11.out) (h := ?_)
 rintro w' ⟨nd, rfl⟩
 refine hK.out _ _ (ze3 BK794) (fun hHeld => ?_)
 clear hK K
 refine znA 10 (h := ?_)
 refine zoA 5 13 (h := fun K hK => ?_)
 refine zgA Try.func32 (pattern_Neg.calls k t797 t800 _ A12.out) (h := ?_)
 rintro w' ⟨nd, rfl⟩
 refine hK.out _ _ (ze3 BK794) (fun hHeld => ?_)
 clear hK K
 refine znA 13 (h := ?_)
 refine zoA 6 14 (h := fun K hK => ?_)
 refine zgA Try.func37 (span_Make.calls k t799 t800 t801 t802 t803 _ A13.out) (h := ?_)
 rintro w22 hb
 replace BK794 := zkb BK794 hb
 replace BK795 := zkb BK795 hb
 replace HB := zkB HB hb
 (try clear hb)
 refine hK.out _ _ (ze3 BK794) (fun hHeld => ?_)
 clear hK K
 refine znA 14 (h := ?_)
 refine one_ (i := 7) (N := none) #[true, true, true, true, true, true, true, true] rfl rfl (one_of HT_.out (by kernel_rfl)) (by decide) (fun K hK => ?_)
 have hs23 := zc0 BK795
 have hfs23 := blk_frozen BK795.out 0
 obtain ⟨_, _⟩ := zsy NB794_795
 have hs24 := zc1 BK795
 have hfs24 := blk_frozen BK795.out 1
 obtain ⟨_, _⟩ := zsy NB794_795
 have hs25 := zc2 BK795
 have hfs25 := blk_frozen BK795.out 2
 obtain ⟨_, _⟩ := zsy NB794_795
 refine skip_ (w1 := ?_) (by rfl) rfl ?_ ?_
 rotate_left
 ·go_simp
  rfl
 refine hK.out _ _ ⟨(zff NB794_795 (zff NB794_795 (zff NB794_795 hHeld.1))), (zff NB794_795 (zff NB794_795 (zff NB794_795 hHeld.2.1))), (zff NB794_795 (zff NB794_795 (zff NB794_795 hHeld.2.2)))⟩ (fun hHeld => ?_)
 clear hK K
 refine done_ (done_of HT_.out (by kernel_rfl)) ?_
 try go_wp2
 refine bodyPost_ret (results_cell_row rfl _ _ gb795 43 #[.bool t801, .int .u64 t802, .int .u64 t803] (0, 0) _ rfl (blk_put (cs := #[.bool t801, .int .u64 t802, .int .u64 0]) (blk_put (cs := #[.bool t801, .int .u64 0, .int .u64 0]) (blk_put (zkq BK795) 0 _ rfl) 1 _ rfl) 2 _ rfl) Try.underlying43 rfl (by kernel_rfl)) rfl ?_
 exact ⟨zaE, zaB⟩
def span_Abs.T7 : Bool × List (List Nat × List Nat) := (true, [([], []), ([0], [0]), ([1], [1]), ([], []), ([3], [3]), ([2, 4], [2, 4]), ([5, 2], [5]), ([6, 6], [6]), ([7, 7, 0, 1, 2, 3, 4, 5, 6, 7], [7])])
def span_Abs.B7 : List Nat := [0, 1, 3, 0, 8, 31, 63, 127, 255]
theorem span_Abs.tab7 : rtab .any (opsOf Try.f69 7) = span_Abs.T7 := by kernel_rfl
theorem span_Abs.bits7 : waitsOk span_Abs.T7.2 span_Abs.B7 = true := by kernel_rfl
theorem span_Abs.calls (k : Nat) (a0_0 : Bool) (a0_1 : Int) (a0_2 : Int) (r1 : Bool) (r2 : Int) (r3 : Int) (w : World) (h : span_Abs.f k a0_0 a0_1 a0_2 = some (r1, r2, r3)) :
  Calls Try.prog 69 #[.agg #[.bool a0_0, .int .u64 a0_1, .int .u64 a0_2]] w fun e w' => e = .returned (.agg #[.bool r1, .int .u64 r2, .int .u64 r3]) ∧ Below w.heap.size w w' := by
 have hu43 := Try.underlying43
 have HB := Aside0.mk (Below.refl w.heap.size w)
 have H : ((span_norm.f k a0_0 a0_1 a0_2).bind fun bt806 => (if bt806.1 = true then (span_Abs.j0 k bt806.1 bt806.1 bt806.2.1 bt806.2.2) else ((span_atMost.f k 0 bt806.2.1).bind fun t809 => (span_Abs.j0 k t809 bt806.1 bt806.2.1 bt806.2.2)))) = some (r1, r2, r3) := h
 clear h
 obtain ⟨⟨t806, t807, t808⟩, A2, H⟩ := zbs H
 try dsimp only at H
 have HC3 := Aside0.mk H
 clear H
 go_enter Try.func69, Try.ntmps69
 go_upto_if 5 with (first | ((with_reducible refine gtd 1 rfl ?_); refine zbx 1 #[.bool a0_0, .int .u64 a0_1, .int .u64 a0_2] 43 (h := ?_); intro gb804 hg w4 hbox hb; have GW804 := zkZ hg (zaB (p := Below w.heap.size w _)); replace HB := Aside0.mk (below_step zaB hb); have BK804 := Aside0.mk (hbox); clear hb hbox hg) | ((with_reducible refine gtd 2 rfl ?_); refine zbx 2 #[.bool false, .int .u64 0, .int .u64 0] 43 (h := ?_); intro gb805 hg w5 hbox hb; have GW805 := zkz HB hg; have NB804_805 := zkl BK804 hg; have NB805_804 := zkr BK804 hg; replace BK804 := zkb BK804 hb; replace HB := zkB HB hb; have BK805 := Aside0.mk (hbox); clear hb hbox hg; obtain ⟨_, _⟩ := zsy NB804_805; obtain ⟨z7_0, z7_1, z7_2, f7_0, f7_1, f7_2⟩ := zq3 BK804) | ((with_reducible refine gtc 112 rfl ?_); refine zgL 4 Try.func112 (span_norm.calls k a0_0 a0_1 a0_2 t806 t807 t808 _ A2.out) (h := ?_); rintro w8 hb; replace BK804 := zkb BK804 hb; replace BK805 := zkb BK805 hb; replace HB := zkB HB hb; (try clear hb); obtain ⟨z9_0, z9_1, z9_2, f9_0, f9_1, f9_2⟩ := zq3 BK804))
 (try simp only [Act.put, List.setIfInBounds_toArray, List.set_cons_zero, List.set_cons_succ])
 go_cut [5] (fun v5 wc => ∃ (kq : Nat) (x5_2 : Bool), v5 = .bool x5_2 ∧ Aside0 (span_Abs.j0 kq x5_2 t806 t807 t808 = some (r1, r2, r3)) ∧ Aside0 (kq ≤ k) ∧ Aside0 (wc.heap[gb804]? = some (.cells #[.bool t806, .int .u64 t807, .int .u64 t808] 43 (0, 0))) ∧ Aside0 (wc.heap[gb805]? = some (.cells #[.bool false, .int .u64 0, .int .u64 0] 43 (0, 0))) ∧ Aside0 (Below w.heap.size w wc))
 case first =>
  have H := HC3.out
  clear HC3
  by_cases c10 : t806 = true
  ·subst c10
   replace H := zit H
   have H' := Aside0.mk H
   clear H
   go_wp2
   go_meet
   case rel => exact ⟨_, (true), zrl, H', ⟨zle⟩, ⟨(blk_put (cs := #[.bool true, .int .u64 t807, .int .u64 a0_2]) (blk_put (cs := #[.bool true, .int .u64 a0_1, .int .u64 a0_2]) (blk_put (zkq BK804) 0 _ rfl) 1 _ rfl) 2 _ rfl)⟩, ⟨(zkf (zkf (zkf (zkq BK805) NB805_804.out _) NB805_804.out _) NB805_804.out _)⟩, ⟨zaB⟩⟩
  replace c10 := Bool.eq_false_iff.mpr c10
  subst c10
  replace H := zif H
  obtain ⟨t809, A11, H⟩ := zbs H
  try dsimp only at H
  have H' := Aside0.mk H
  clear H
  obtain ⟨_, _⟩ := zsy NB804_805
  obtain ⟨z13_0, z13_1, z13_2, f13_0, f13_1, f13_2⟩ := zq3 BK804
  go_wp2_with (first | ((with_reducible refine gtc 117 rfl ?_); refine zgL 10 Try.func117 (span_atMost.calls k 0 t807 t809 _ A11.out) (h := ?_); rintro w' ⟨nd, rfl⟩))
  go_meet
  case rel => exact ⟨_, (t809), zrl, H', ⟨zle⟩, ⟨(blk_put (cs := #[.bool false, .int .u64 t807, .int .u64 a0_2]) (blk_put (cs := #[.bool false, .int .u64 a0_1, .int .u64 a0_2]) (blk_put (zkq BK804) 0 _ rfl) 1 _ rfl) 2 _ rfl)⟩, ⟨(zkf (zkf (zkf (zkq BK805) NB805_804.out _) NB805_804.out _) NB805_804.out _)⟩, ⟨zaB⟩⟩
 case rest =>
  clear HC3
  try clear c1
  try clear p2
  try clear c6
  try clear c10
  try clear c11
  try clear c12
  try clear z13_0 z13_1 z13_2 f13_0 f13_1 f13_2
  try clear z7_0 z7_1 z7_2 f7_0 f7_1 f7_2
  try clear z9_0 z9_1 z9_2 f9_0 f9_1 f9_2
  obtain ⟨kq, x5_2, rfl, HA, HJ2, BK804, BK805, HB⟩ := hcut
  cases kq with
  | zero => exact absurd HA.out (by simp [span_Abs.j0])
  | succ kj2 =>
   have H := HA.out
   clear HA
   simp only [span_Abs.j0] at H
   by_cases c14 : x5_2 = true
   ·subst c14
    replace H := zit H
    simp only [Option.some.injEq, Prod.mk.injEq] at H
    obtain ⟨rfl, rfl, rfl⟩ := H
    obtain ⟨_, _⟩ := zsy NB804_805
    obtain ⟨_, _, _, _, _, _⟩ := zq3 BK804
    obtain ⟨_, _, _, _, _, _⟩ := zq3 BK805
    go_wp2
    refine bodyPost_ret (results_cell_row rfl _ _ gb805 43 #[.bool t806, .int .u64 t807, .int .u64 t808] (0, 0) _ rfl (blk_put (cs := #[.bool t806, .int .u64 t807, .int .u64 0]) (blk_put (cs := #[.bool t806, .int .u64 0, .int .u64 0]) (blk_put (zkq BK805) 0 _ rfl) 1 _ rfl) 2 _ rfl) Try.underlying43 rfl (by kernel_rfl)) rfl ?_
    exact ⟨zaE, zaB⟩
   replace c14 := Bool.eq_false_iff.mpr c14
   subst c14
   replace H := zif H
   obtain ⟨t810, A18, H⟩ := zbs H
   try dsimp only at H
   by_cases c19 : t810 = true
   ·subst c19
    replace H := zit H
    obtain ⟨⟨t811, t812, t813⟩, A20, H⟩ := zbs H
    try dsimp only at H
    simp only [Option.some.injEq, Prod.mk.injEq] at H
    obtain ⟨rfl, rfl, rfl⟩ := H
    obtain ⟨_, _⟩ := zsy NB804_805
    obtain ⟨_, _, _, _, _, _⟩ := zq3 BK804
    go_wp2_with (first | ((with_reducible refine gtc 117 rfl ?_); refine zgL 15 Try.func117 (span_atMost.calls kj2 t808 0 true _ A18.out) (h := ?_); rintro w' ⟨nd, rfl⟩; (try (rw [drewN_self wc]; generalize hq_ : World.drewN wc _ = wc; have n0_ : Aside0 (wc.heap[gb804]? = some (.cells #[.bool t806, .int .u64 t807, .int .u64 t808] 43 (0, 0))) := ⟨by rw [← hq_]; exact (zkq BK804)⟩; have n1_ : Aside0 (wc.heap[gb805]? = some (.cells #[.bool false, .int .u64 0, .int .u64 0] 43 (0, 0))) := ⟨by rw [← hq_]; exact (zkq BK805)⟩; have n2_ : Aside0 (Below w.heap.size w wc) := ⟨by rw [← hq_]; exact zaB⟩; clear BK804 BK805 HB hq_; have BK804 := n0_; have BK805 := n1_; have HB := n2_; clear n0_ n1_ n2_; have hdq804_0 := zc0 BK804; have hdq804_1 := zc1 BK804; have hdq804_2 := zc2 BK804; have hdq804_f := zfz BK804; have hdq805_0 := zc0 BK805; have hdq805_1 := zc1 BK805; have hdq805_2 := zc2 BK805; have hdq805_f := zfz BK805))) | ((with_reducible refine gtc 111 rfl ?_); refine zgL 17 Try.func111 (span_Neg.calls kj2 t806 t807 t808 t811 t812 t813 _ A20.out) (h := ?_); rintro w23 hb; replace BK804 := zkb BK804 hb; replace BK805 := zkb BK805 hb; replace HB := zkB HB hb; (try clear hb); obtain ⟨_, _, _, _, _, _⟩ := zq3 BK805))
    refine bodyPost_ret (results_cell_row rfl _ _ gb805 43 #[.bool t811, .int .u64 t812, .int .u64 t813] (0, 0) _ rfl (blk_put (cs := #[.bool t811, .int .u64 t812, .int .u64 0]) (blk_put (cs := #[.bool t811, .int .u64 0, .int .u64 0]) (blk_put (zkq BK805) 0 _ rfl) 1 _ rfl) 2 _ rfl) Try.underlying43 rfl (by kernel_rfl)) rfl ?_
    exact ⟨zaE, zaB⟩
   replace c19 := Bool.eq_false_iff.mpr c19
   subst c19
   replace H := zif H
   obtain ⟨t814, A25, H⟩ := zbs H
   try dsimp only at H
   obtain ⟨y815, hy815⟩ : ∃ y_ : List Int, y_ = (([t814, t808] : List Int)) := ⟨_, rfl⟩
   replace H : ((pattern_Max.f kj2 y815).bind fun t818 => ((span_Make.f kj2 0 t818).bind fun bt819 => (some (bt819.1, bt819.2.1, bt819.2.2)))) = some (r1, r2, r3) := by first | (rw [hy815]; with_reducible exact H) | (have H2_ := (Option.bind_some _ _).symm.trans H; rw [hy815]; with_reducible exact H2_) | (have H2_ := (Option.bind_some _ _).symm.trans H; with_reducible exact H2_) | with_reducible exact H | (rw [hy815]; exact H) | exact H
   have Ny815 := Aside0.mk hy815
   clear hy815
   obtain ⟨t818, A26, H⟩ := zbs H
   try dsimp only at H
   obtain ⟨⟨t819, t820, t821⟩, A27, H⟩ := zbs H
   try dsimp only at H
   simp only [Option.some.injEq, Prod.mk.injEq] at H
   obtain ⟨rfl, rfl, rfl⟩ := H
   obtain ⟨_, _⟩ := zsy NB804_805
   obtain ⟨_, _, _, _, _, _⟩ := zq3 BK804
   try go_wp2_with (first | ((with_reducible refine gtc 117 rfl ?_); refine zgL 15 Try.func117 (span_atMost.calls kj2 t808 0 false _ A18.out) (h := ?_); rintro w' ⟨nd, rfl⟩; (try (rw [drewN_self wc]; generalize hq_ : World.drewN wc _ = wc; have n0_ : Aside0 (wc.heap[gb804]? = some (.cells #[.bool t806, .int .u64 t807, .int .u64 t808] 43 (0, 0))) := ⟨by rw [← hq_]; exact (zkq BK804)⟩; have n1_ : Aside0 (wc.heap[gb805]? = some (.cells #[.bool false, .int .u64 0, .int .u64 0] 43 (0, 0))) := ⟨by rw [← hq_]; exact (zkq BK805)⟩; have n2_ : Aside0 (Below w.heap.size w wc) := ⟨by rw [← hq_]; exact zaB⟩; clear BK804 BK805 HB hq_; have BK804 := n0_; have BK805 := n1_; have HB := n2_; clear n0_ n1_ n2_; have hdq804_0 := zc0 BK804; have hdq804_1 := zc1 BK804; have hdq804_2 := zc2 BK804; have hdq804_f := zfz BK804; have hdq805_0 := zc0 BK805; have hdq805_1 := zc1 BK805; have hdq805_2 := zc2 BK805; have hdq805_f := zfz BK805))))
   (try (rw [drewN_self wc]; generalize hq_ : World.drewN wc _ = wc; replace BK804 := zkg hq_ (zkq BK804); replace BK805 := zkg hq_ (zkq BK805); replace HB := zkG hq_ (pw_below_drewN HB.out _); clear hq_))
   replace BK804 := Aside0.mk (blk_drew BK804.out)
   replace BK805 := Aside0.mk (blk_drew BK805.out)
   replace HB := Aside0.mk (below_drew1 HB.out)
   refine start_ (n := 9) (S := fun w' => w'.cell? ⟨gb804, 0, none⟩ = some (.bool t806) ∧ w'.cell? ⟨gb804, 1, none⟩ = some (.int .u64 t807) ∧ w'.cell? ⟨gb804, 2, none⟩ = some (.int .u64 t808)) (ds := []) #[false, false, false, false, false, false, false, false, false] (by kernel_rfl) rfl rfl (ze3 BK804) (fun hHeld => ?_); refine with_tabW span_Abs.tab7 span_Abs.bits7 (fun HT_ HW_ => ?_)
   generalize wc.drew = w30 at BK804 BK805 HB hHeld ⊢
   refine zpA 0 18 (h := ?_)
   refine zpA 3 21 (h := ?_)
   refine ztA 1 19 (h := ?_)
   refine ztA 4 22 (h := ?_)
   refine zoA 2 20 (h := fun K hK => ?_)
   refine zgA Try.func32 (pattern_Neg.calls kj2 t807 t814 _ A25.out) (h := ?_)
   rintro w' ⟨nd, rfl⟩
   refine hK.out _ _ (ze3 BK804) (fun hHeld => ?_)
   clear hK K
   refine znA 20 (h := ?_)
   refine zoA 5 23 (h := fun K hK => ?_)
   refine Kd.R_lit_step (Kd.int .u64) _ 23 ?hg (N := 23) ?hd (xs := ([t814, t808] : List Int)) (inner := [.int .u64 t814, .int .u64 t808]) (ok := fun _ => True) (okp := fun _ => True) ?hr ?hp (fun _ hk => hk) trivial (Below.refl _ _) (Nat.le_refl _) (by simp) ?_; (case hd => rfl); (case hg => rfl); (case hr => first | (go_simp; done) | (go_simp; rfl)); (case hp => exact (Reps.one (show Kd.M (Kd.int .u64) _ _ _ t814 [.int .u64 t814] from rfl) (Reps.one (show Kd.M (Kd.int .u64) _ _ _ t808 [.int .u64 t808] from rfl) (Reps.none _ _))))
   intro v816 w31 ho32 hb hg_ hnew_
   clear hg_ hnew_
   (first | rw [← Ny815.out] at ho32 | (simp only [Int.reduceToNat] at ho32; rw [← Ny815.out] at ho32))
   have HO817 := Aside0.mk (Kd.R_lower ho32 (below_size zaB))
   replace BK804 := zkb BK804 hb
   replace BK805 := zkb BK805 hb
   replace HB := zkB HB hb
   clear hb ho32
   obtain ⟨Ao33, co33, eo33⟩ := Kd.R_slice HO817.out
   (first | subst eo33 | (injection eo33 with f1_ f2_ f3_; have f4_ := f1_.symm; have f5_ := f3_.symm; clear f1_ f2_ f3_; subst f4_; subst f5_))
   refine hK.out _ _ (ze3 BK804) (fun hHeld => ?_)
   clear hK K
   refine znA 23 (h := ?_)
   refine zoA 6 24 (h := fun K hK => ?_)
   refine goes_ Try.func120 (by kernel_rfl) rfl #[.slice Ao33 y815.length co33] (by rfl) rfl rfl (by (try simp only [List.map_toArray, List.map_cons, List.map_nil]); first | done | rfl | (simp only [List.length_drop, List.length_take]; rfl)) ?_
   with_reducible refine (pattern_Max.calls kj2 _ _ y815 t818 _ ?side1 ?side2 A26.out).mono ?_
   (case side1 => repeat (first | exact (Kd.R_reads' HO817.out).2.2 | (with_reducible refine Kd.C_alloc ?_ _) | (with_reducible refine Kd.C_drewN ?_ _) | (with_reducible refine Kd.C_drew ?_)))
   (case side2 => exact (Kd.R_reads' HO817.out).2.1)
   rintro e w34 ⟨rfl, hb⟩
   refine ⟨_, rfl, ?_⟩
   replace HO817 := Aside0.mk (Kd.R_below (by (with_reducible repeat (first | apply Kd.R_alloc | apply Kd.R_drewN | apply Kd.R_drew)); exact HO817.out) hb)
   replace BK804 := zkb BK804 hb
   replace BK805 := zkb BK805 hb
   replace HB := zkB HB hb
   (try clear hb)
   refine hK.out _ _ (ze3 BK804) (fun hHeld => ?_)
   clear hK K
   refine znA 24 (h := ?_)
   refine zoA 7 25 (h := fun K hK => ?_)
   refine zgA Try.func37 (span_Make.calls kj2 0 t818 t819 t820 t821 _ A27.out) (h := ?_)
   rintro w35 hb
   replace HO817 := Aside0.mk (Kd.R_below (by (with_reducible repeat (first | apply Kd.R_alloc | apply Kd.R_drewN | apply Kd.R_drew)); exact HO817.out) hb)
   replace BK804 := zkb BK804 hb
   replace BK805 := zkb BK805 hb
   replace HB := zkB HB hb
   (try clear hb)
   refine hK.out _ _ (ze3 BK804) (fun hHeld => ?_)
   clear hK K
   refine znA 25 (h := ?_)
   refine one_ (i := 8) (N := none) #[true, true, true, true, true, true, true, true, true] rfl rfl (one_of HT_.out (by kernel_rfl)) (by decide) (fun K hK => ?_)
   have hs36 := zc0 BK805
   have hfs36 := blk_frozen BK805.out 0
   obtain ⟨_, _⟩ := zsy NB804_805
   have hs37 := zc1 BK805
   have hfs37 := blk_frozen BK805.out 1
   obtain ⟨_, _⟩ := zsy NB804_805
   have hs38 := zc2 BK805
   have hfs38 := blk_frozen BK805.out 2
   obtain ⟨_, _⟩ := zsy NB804_805
   refine skip_ (w1 := ?_) (by rfl) rfl ?_ ?_
   rotate_left
   ·go_simp
    rfl
   refine hK.out _ _ ⟨(zff NB804_805 (zff NB804_805 (zff NB804_805 hHeld.1))), (zff NB804_805 (zff NB804_805 (zff NB804_805 hHeld.2.1))), (zff NB804_805 (zff NB804_805 (zff NB804_805 hHeld.2.2)))⟩ (fun hHeld => ?_)
   clear hK K
   refine done_ (done_of HT_.out (by kernel_rfl)) ?_
   try go_wp2
   refine bodyPost_ret (results_cell_row rfl _ _ gb805 43 #[.bool t819, .int .u64 t820, .int .u64 t821] (0, 0) _ rfl (blk_put (cs := #[.bool t819, .int .u64 t820, .int .u64 0]) (blk_put (cs := #[.bool t819, .int .u64 0, .int .u64 0]) (blk_put (zkq BK805) 0 _ rfl) 1 _ rfl) 2 _ rfl) Try.underlying43 rfl (by kernel_rfl)) rfl ?_
   exact ⟨zaE, zaB⟩
theorem span_Most.calls (k : Nat) (a0_0 : Bool) (a0_1 : Int) (a0_2 : Int) (r : Int) (w : World) (h : span_Most.f k a0_0 a0_1 a0_2 = some r) :
  Calls Try.prog 50 #[.agg #[.bool a0_0, .int .u64 a0_1, .int .u64 a0_2]] w fun e w' => e = .returned (.int .u64 r) ∧ Below w.heap.size w w' := by
 have hu43 := Try.underlying43
 have hfd0_ : ∀ (b : Bool) (x y : Int) (w : World), (Instr.field 43 (.agg #[.bool b, .int .u64 x, .int .u64 y]) 0).run Try.prog w = .ok (.bool b) w := fun _ _ _ _ => by kernel_rfl
 have hfd1_ : ∀ (b : Bool) (x y : Int) (w : World), (Instr.field 43 (.agg #[.bool b, .int .u64 x, .int .u64 y]) 1).run Try.prog w = .ok (.int .u64 x) w := fun _ _ _ _ => by kernel_rfl
 have hfd2_ : ∀ (b : Bool) (x y : Int) (w : World), (Instr.field 43 (.agg #[.bool b, .int .u64 x, .int .u64 y]) 2).run Try.prog w = .ok (.int .u64 y) w := fun _ _ _ _ => by kernel_rfl
 have HB := Aside0.mk (Below.refl w.heap.size w)
 have H : ((span_Abs.f k a0_0 a0_1 a0_2).bind fun bt823 => (some bt823.2.2)) = some r := h
 clear h
 obtain ⟨⟨t823, t824, t825⟩, A2, H⟩ := zbs H
 try dsimp only at H
 obtain rfl := Option.some.inj H
 go_enter Try.func50, Try.ntmps50
 go_wp2_with (first | ((with_reducible refine gtd 1 rfl ?_); refine zbx 1 #[.bool a0_0, .int .u64 a0_1, .int .u64 a0_2] 43 (h := ?_); intro gb822 hg w3 hbox hb; have GW822 := zkZ hg (zaB (p := Below w.heap.size w _)); replace HB := Aside0.mk (below_step zaB hb); have BK822 := Aside0.mk (hbox); clear hb hbox hg; obtain ⟨_, _, _, _, _, _⟩ := zq3 BK822) | ((with_reducible refine gtc 69 rfl ?_); refine zgL 4 Try.func69 (span_Abs.calls k a0_0 a0_1 a0_2 t823 t824 t825 _ A2.out) (h := ?_); rintro w5 hb; replace BK822 := zkb BK822 hb; replace HB := zkB HB hb; (try clear hb)))
 go_ret
 exact ⟨zaE, zaB⟩
theorem pattern_Next.calls (k : Nat) (a0 : Int) (r : Int) (w : World) (h : pattern_Next.f k a0 = some r) :
  Calls Try.prog 72 #[.int .u64 a0] w fun e w' => e = .returned (.int .u64 r) ∧ Drawn0 w w' := by
 have H : ((pattern_nan.f k a0).bind fun t826 => (if t826 = true then (pattern_Next.j0 k a0 t826) else ((pattern_Inf.f k false).bind fun t827 => (pattern_Next.j0 k a0 (a0 == t827))))) = some r := h
 clear h
 obtain ⟨t826, A2, H⟩ := zbs H
 try dsimp only at H
 have HC3 := Aside0.mk H
 clear H
 go_enter Try.func72, Try.ntmps72
 go_upto_if 3 with (first | ((with_reducible refine gtc 109 rfl ?_); refine zgL 5 Try.func109 (pattern_nan.calls k a0 t826 _ A2.out) (h := ?_); rintro w' ⟨nd, rfl⟩))
 (try simp only [Act.put, List.setIfInBounds_toArray, List.set_cons_zero, List.set_cons_succ])
 go_cut [3] (fun v3 wc => ∃ (kq : Nat) (x3_2 : Bool), v3 = .bool x3_2 ∧ Aside0 (pattern_Next.j0 kq a0 x3_2 = some r) ∧ Aside0 (kq ≤ k) ∧ Drawn0 w wc)
 case first =>
  have H := HC3.out
  clear HC3
  by_cases c4 : t826 = true
  ·subst c4
   replace H := zit H
   have H' := Aside0.mk H
   clear H
   go_wp2
   go_meet
   case rel => exact ⟨_, (true), zrl, H', ⟨zle⟩, by repeat (first | exact Drawn0.refl _ | apply Drawn0.step)⟩
  replace c4 := Bool.eq_false_iff.mpr c4
  subst c4
  replace H := zif H
  obtain ⟨t827, A5, H⟩ := zbs H
  try dsimp only at H
  have H' := Aside0.mk H
  clear H
  go_wp2_with (first | ((with_reducible refine gtc 79 rfl ?_); refine zgL 7 Try.func79 (pattern_Inf.calls k false t827 _ A5.out) (h := ?_); rintro w' ⟨nd, rfl⟩))
  go_meet
  case rel => exact ⟨_, ((a0 == t827)), zrl, H', ⟨zle⟩, by repeat (first | exact Drawn0.refl _ | apply Drawn0.step)⟩
 case rest =>
  clear HC3
  try clear c1
  try clear p2
  try clear c4
  obtain ⟨kq, x3_2, rfl, HA, HJ2, ⟨mc2, rfl⟩⟩ := hcut
  cases kq with
  | zero => exact absurd HA.out (by simp [pattern_Next.j0])
  | succ kj2 =>
   have H := HA.out
   clear HA
   simp only [pattern_Next.j0] at H
   by_cases c6 : x3_2 = true
   ·subst c6
    replace H := zit H
    obtain rfl := Option.some.inj H
    go_wp2
    go_ret
    exact ⟨by first | rfl | (simp; done) | (simp [*]; done), by repeat (first | exact Drawn0.refl _ | apply Drawn0.step)⟩
   replace c6 := Bool.eq_false_iff.mpr c6
   subst c6
   replace H := zif H
   obtain ⟨t828, A7, H⟩ := zbs H
   try dsimp only at H
   by_cases c8 : t828 = 0
   ·rw [if_pos c8] at H
    have c8b0 : (t828 == 0) = true := beq_iff_eq.mpr c8
    have c8b1 : (t828 != 0) = false := bne_eq_false_iff_eq.mpr c8
    clear c8
    obtain rfl := Option.some.inj H
    go_wp2_with (first | ((with_reducible refine gtc 110 rfl ?_); refine zgL 12 Try.func110 (pattern_key.calls a0 t828 _ A7.out) (h := ?_); rintro w' ⟨nd, rfl⟩))
    go_ret
    exact ⟨by first | rfl | (simp; done) | (simp [*]; done), by repeat (first | exact Drawn0.refl _ | apply Drawn0.step)⟩
   rw [if_neg c8] at H
   have c8b0 : (t828 == 0) = false := beq_eq_false_iff_ne.mpr c8
   have c8b1 : (t828 != 0) = true := bne_iff_ne.mpr c8
   by_cases c9 : (a0 / 9223372036854775808) = 1
   ·rw [if_pos c9] at H
    have c9b0 : ((a0 / 9223372036854775808) == 1) = true := beq_iff_eq.mpr c9
    have c9b1 : ((a0 / 9223372036854775808) != 1) = false := bne_eq_false_iff_eq.mpr c9
    clear c9
    obtain rfl := Option.some.inj H
    go_wp2_with (first | ((with_reducible refine gtc 110 rfl ?_); refine zgL 12 Try.func110 (pattern_key.calls a0 t828 _ A7.out) (h := ?_); rintro w' ⟨nd, rfl⟩))
    go_ret
    exact ⟨by first | rfl | (simp; done) | (simp [*]; done), by repeat (first | exact Drawn0.refl _ | apply Drawn0.step)⟩
   rw [if_neg c9] at H
   have c9b0 : ((a0 / 9223372036854775808) == 1) = false := beq_eq_false_iff_ne.mpr c9
   have c9b1 : ((a0 / 9223372036854775808) != 1) = true := bne_iff_ne.mpr c9
   obtain rfl := Option.some.inj H
   go_wp2_with (first | ((with_reducible refine gtc 110 rfl ?_); refine zgL 12 Try.func110 (pattern_key.calls a0 t828 _ A7.out) (h := ?_); rintro w' ⟨nd, rfl⟩))
   go_ret
   exact ⟨by first | rfl | (simp; done) | (simp [*]; done), by repeat (first | exact Drawn0.refl _ | apply Drawn0.step)⟩
theorem pattern_Prev.calls (k : Nat) (a0 : Int) (r : Int) (w : World) (h : pattern_Prev.f k a0 = some r) :
  Calls Try.prog 168 #[.int .u64 a0] w fun e w' => e = .returned (.int .u64 r) ∧ Drawn0 w w' := by
 have H : ((pattern_Neg.f k a0).bind fun t829 => ((pattern_Next.f k t829).bind fun t830 => ((pattern_Neg.f k t830).bind fun t831 => (some t831)))) = some r := h
 clear h
 obtain ⟨t829, A2, H⟩ := zbs H
 try dsimp only at H
 obtain ⟨t830, A3, H⟩ := zbs H
 try dsimp only at H
 obtain ⟨t831, A4, H⟩ := zbs H
 try dsimp only at H
 obtain rfl := Option.some.inj H
 go_enter Try.func168, Try.ntmps168
 go_wp2_with (first | ((with_reducible refine gtc 32 rfl ?_); refine zgL 4 Try.func32 (pattern_Neg.calls k a0 t829 _ A2.out) (h := ?_); rintro w' ⟨nd, rfl⟩) | ((with_reducible refine gtc 72 rfl ?_); refine zgL 5 Try.func72 (pattern_Next.calls k t829 t830 _ A3.out) (h := ?_); rintro w' ⟨nd, rfl⟩) | ((with_reducible refine gtc 32 rfl ?_); refine zgL 6 Try.func32 (pattern_Neg.calls k t830 t831 _ A4.out) (h := ?_); rintro w' ⟨nd, rfl⟩))
 go_ret
 exact ⟨by first | rfl | (simp; done) | (simp [*]; done), by repeat (first | exact Drawn0.refl _ | apply Drawn0.step)⟩
theorem span_side.calls (k : Nat) (a0_0 : Bool) (a0_1 : Int) (a0_2 : Int) (a1 : Int) (a2 : Bool) (a3 : Bool) (r1 : Bool) (r2 : Int) (r3 : Int) (w : World) (h : span_side.f k a0_0 a0_1 a0_2 a1 a2 a3 = some (r1, r2, r3)) :
  Calls Try.prog 122 #[.agg #[.bool a0_0, .int .u64 a0_1, .int .u64 a0_2], .int .u64 a1, .bool a2, .bool a3] w fun e w' => e = .returned (.agg #[.bool r1, .int .u64 r2, .int .u64 r3]) ∧ Below w.heap.size w w' := by
 have hu43 := Try.underlying43
 have HB := Aside0.mk (Below.refl w.heap.size w)
 have H : ((pattern_Class.f k a1).bind fun t834 => (if a2 = true then (if a3 = true then (span_side.j0 k a1 a2 a3 (t834 != 3) (t834 != 3) a0_0 a0_1 a0_2) else (span_side.j0 k a1 a2 a3 (t834 != 3) false a0_0 a0_1 a0_2)) else (span_side.j0 k a1 a2 a3 (t834 != 3) false a0_0 a0_1 a0_2))) = some (r1, r2, r3) := h
 clear h
 obtain ⟨t834, A5, H⟩ := zbs H
 try dsimp only at H
 have HC6 := Aside0.mk H
 clear H
 go_enter Try.func122, Try.ntmps122
 go_upto_block 0 with (first | ((with_reducible refine gtd 4 rfl ?_); refine zbx 4 #[.bool a0_0, .int .u64 a0_1, .int .u64 a0_2] 43 (h := ?_); intro gb832 hg w7 hbox hb; have GW832 := zkZ hg (zaB (p := Below w.heap.size w _)); replace HB := Aside0.mk (below_step zaB hb); have BK832 := Aside0.mk (hbox); clear hb hbox hg) | ((with_reducible refine gtd 8 rfl ?_); refine zbx 8 #[.bool false, .int .u64 0, .int .u64 0] 43 (h := ?_); intro gb833 hg w8 hbox hb; have GW833 := zkz HB hg; have NB832_833 := zkl BK832 hg; have NB833_832 := zkr BK832 hg; replace BK832 := zkb BK832 hb; replace HB := zkB HB hb; have BK833 := Aside0.mk (hbox); clear hb hbox hg) | ((with_reducible refine gtc 24 rfl ?_); refine zgL 11 Try.func24 (pattern_Class.calls k a1 t834 _ A5.out) (h := ?_); rintro w' ⟨nd, rfl⟩))
 (try simp only [Act.put, List.setIfInBounds_toArray, List.set_cons_zero, List.set_cons_succ])
 go_cut [1, 9] (fun v1 v9 wc => ∃ (kq : Nat) (x1_5 : Int), v1 = .int .u64 x1_5 ∧ v9 = .bool (t834 != 3) ∧ Aside0 (span_side.j1 kq x1_5 a2 a0_0 a0_1 a0_2 = some (r1, r2, r3)) ∧ Aside0 (kq ≤ k) ∧ Aside0 (wc.heap[gb832]? = some (.cells #[.bool a0_0, .int .u64 a0_1, .int .u64 a0_2] 43 (0, 0))) ∧ Aside0 (wc.heap[gb833]? = some (.cells #[.bool false, .int .u64 0, .int .u64 0] 43 (0, 0))) ∧ Aside0 (Below w.heap.size w wc))
 case first =>
  have H := HC6.out
  clear HC6
  have HC9 := Aside0.mk H
  clear H
  go_upto_region 2 with (fail)
  go_cut [13] (fun v13 wc => ∃ (kq : Nat) (x13_8 : Bool), v13 = .bool x13_8 ∧ Aside0 (span_side.j0 kq a1 a2 a3 (t834 != 3) x13_8 a0_0 a0_1 a0_2 = some (r1, r2, r3)) ∧ Aside0 (kq ≤ k) ∧ Aside0 (wc.heap[gb832]? = some (.cells #[.bool a0_0, .int .u64 a0_1, .int .u64 a0_2] 43 (0, 0))) ∧ Aside0 (wc.heap[gb833]? = some (.cells #[.bool false, .int .u64 0, .int .u64 0] 43 (0, 0))) ∧ Aside0 (Below w.heap.size w wc))
  case first =>
   have H := HC9.out
   clear HC9
   by_cases c10 : a2 = true
   ·subst c10
    replace H := zit H
    by_cases c11 : a3 = true
    ·subst c11
     replace H := zit H
     have H' := Aside0.mk H
     clear H
     go_wp2
     go_meet
     case rel => exact ⟨_, ((t834 != 3)), zrl, H', ⟨zle⟩, ⟨zkq BK832⟩, ⟨zkq BK833⟩, ⟨zaB⟩⟩
    replace c11 := Bool.eq_false_iff.mpr c11
    subst c11
    replace H := zif H
    have H' := Aside0.mk H
    clear H
    go_wp2
    go_meet
    case rel => exact ⟨_, (false), zrl, H', ⟨zle⟩, ⟨zkq BK832⟩, ⟨zkq BK833⟩, ⟨zaB⟩⟩
   replace c10 := Bool.eq_false_iff.mpr c10
   subst c10
   replace H := zif H
   have H' := Aside0.mk H
   clear H
   go_wp2
   go_meet
   case rel => exact ⟨_, (false), zrl, H', ⟨zle⟩, ⟨zkq BK832⟩, ⟨zkq BK833⟩, ⟨zaB⟩⟩
  case rest =>
   clear HC9
   try clear c1
   try clear c2
   try clear p2
   try clear c10
   try clear c11
   obtain ⟨kq, x13_8, rfl, HA, HJ8, BK832, BK833, HB⟩ := hcut
   cases kq with
   | zero => exact absurd HA.out (by simp [span_side.j0])
   | succ kj8 =>
    have H := HA.out
    clear HA
    simp only [span_side.j0] at H
    by_cases c12 : x13_8 = true
    ·subst c12
     replace H := zit H
     obtain ⟨t835, A13, H⟩ := zbs H
     try dsimp only at H
     have H' := Aside0.mk H
     clear H
     go_wp2_with (first | ((with_reducible refine gtc 72 rfl ?_); refine zgL 22 Try.func72 (pattern_Next.calls kj8 a1 t835 _ A13.out) (h := ?_); rintro w' ⟨nd, rfl⟩))
     go_meet
     case rel => exact ⟨_, (t835), zrl, (by first | rfl | (simp [*]; done)), H', ⟨by have := HJ8.out; first | omega | exact Nat.le_refl _⟩, ⟨zkq BK832⟩, ⟨zkq BK833⟩, ⟨zaB⟩⟩
    replace c12 := Bool.eq_false_iff.mpr c12
    subst c12
    replace H := zif H
    by_cases c14 : a3 = true
    ·subst c14
     replace H := zit H
     by_cases c15 : (t834 != 3) = true
     ·rw [if_pos c15] at H
      have c15b0 : (t834 != 3) = true := c15
      (try (have c15b1 : decide (t834 = 3) = false := by simpa using c15))
      (try (have c15b2 : (t834 == 3) = false := by simpa using c15))
      (try (have c15b3 : ¬ (t834 = 3) := by simpa using c15))
      clear c15
      obtain ⟨t836, A16, H⟩ := zbs H
      try dsimp only at H
      have H' := Aside0.mk H
      clear H
      go_wp2_with (first | ((with_reducible refine gtc 168 rfl ?_); refine zgL 29 Try.func168 (pattern_Prev.calls kj8 a1 t836 _ A16.out) (h := ?_); rintro w' ⟨nd, rfl⟩))
      go_meet
      case rel => exact ⟨_, (t836), zrl, (by first | rfl | (simp [*]; done)), H', ⟨by have := HJ8.out; first | omega | exact Nat.le_refl _⟩, ⟨zkq BK832⟩, ⟨zkq BK833⟩, ⟨zaB⟩⟩
     rw [if_neg c15] at H
     have c15b0 : (t834 != 3) = false := by simpa using c15
     (try (have c15b1 : decide (t834 = 3) = true := by simpa using c15))
     (try (have c15b2 : (t834 == 3) = true := by simpa using c15))
     clear c15
     have H' := Aside0.mk H
     clear H
     go_wp2
     go_meet
     case rel => exact ⟨_, (a1), zrl, (by first | rfl | (simp [*]; done)), H', ⟨by have := HJ8.out; first | omega | exact Nat.le_refl _⟩, ⟨zkq BK832⟩, ⟨zkq BK833⟩, ⟨zaB⟩⟩
    replace c14 := Bool.eq_false_iff.mpr c14
    subst c14
    replace H := zif H
    have H' := Aside0.mk H
    clear H
    go_wp2
    go_meet
    case rel => exact ⟨_, (a1), zrl, (by first | rfl | (simp [*]; done)), H', ⟨by have := HJ8.out; first | omega | exact Nat.le_refl _⟩, ⟨zkq BK832⟩, ⟨zkq BK833⟩, ⟨zaB⟩⟩
 case rest =>
  clear HC6
  try clear c1
  try clear c2
  try clear p2
  try clear c7
  try clear c10
  try clear c11
  try clear c12
  try clear c14
  try clear c15
  try clear c15b0
  try clear c15b1
  try clear c15b2
  try clear c16
  try clear p2
  obtain ⟨kq, x1_5, rfl, rfl, HA, HJ5, BK832, BK833, HB⟩ := hcut
  cases kq with
  | zero => exact absurd HA.out (by simp [span_side.j1])
  | succ kj5 =>
   have H := HA.out
   clear HA
   simp only [span_side.j1] at H
   by_cases c17 : a2 = true
   ·subst c17
    replace H := zit H
    obtain ⟨t837, A18, H⟩ := zbs H
    try dsimp only at H
    obtain ⟨⟨t838, t839, t840⟩, A19, H⟩ := zbs H
    try dsimp only at H
    obtain ⟨⟨t841, t842, t843⟩, A20, H⟩ := zbs H
    try dsimp only at H
    simp only [Option.some.injEq, Prod.mk.injEq] at H
    obtain ⟨rfl, rfl, rfl⟩ := H
    try go_wp2
    (try (rw [drewN_self wc]; generalize hq_ : World.drewN wc _ = wc; replace BK832 := zkg hq_ (zkq BK832); replace BK833 := zkg hq_ (zkq BK833); replace HB := zkG hq_ (pw_below_drewN HB.out _); clear hq_))
    replace BK832 := Aside0.mk (blk_drew BK832.out)
    replace BK833 := Aside0.mk (blk_drew BK833.out)
    replace HB := Aside0.mk (below_drew1 HB.out)
    refine start_ (n := 6) (S := fun w' => w'.cell? ⟨gb832, 0, none⟩ = some (.bool a0_0) ∧ w'.cell? ⟨gb832, 1, none⟩ = some (.int .u64 a0_1) ∧ w'.cell? ⟨gb832, 2, none⟩ = some (.int .u64 a0_2)) (ds := []) #[false, false, false, false, false, false] (by kernel_rfl) rfl rfl (ze3 BK832) (fun hHeld => ?_)
    generalize wc.drew = w21 at BK832 BK833 HB hHeld ⊢
    refine pure_ (i := 1) (N := some 32) (v := ?_) (a' := ?_) #[false, true, false, false, false, false] rfl rfl (by kernel_rfl) (fun _ _ _ h => h) (Or.inl ⟨by rfl, ?_⟩) ?_ ?_
    rotate_left
    ·intro w'
     go_simp
     with_reducible rfl
    rotate_left
    ·simp only [Act.put, List.setIfInBounds_toArray, List.set_cons_zero, List.set_cons_succ, i64_w, i32_w]
     rfl
    refine take_ (i := 0) (N := some 31) (v := ?_) (a' := ?_) #[true, true, false, false, false, false] rfl rfl (by kernel_rfl) (fun _ _ _ h => h) (Or.inl ⟨by rfl, ?_⟩) hHeld ?_ ?_
    rotate_left
    ·rintro w' ⟨s0, s1, s2⟩
     go_simp
     with_reducible rfl
    rotate_left
    ·simp only [Act.put, List.setIfInBounds_toArray, List.set_cons_zero, List.set_cons_succ, i64_w, i32_w]
     rfl
    refine one_ (i := 2) (N := some 33) #[true, true, true, false, false, false] rfl rfl (by kernel_rfl) (by decide) (fun K hK => ?_)
    refine zgA Try.func114 (span_inf.calls kj5  t837 _ A18.out) (h := ?_)
    rintro w' ⟨nd, rfl⟩
    refine hK.out _ _ (ze3 BK832) (fun hHeld => ?_)
    clear hK K
    refine znA 33 (h := ?_)
    refine one_ (i := 3) (N := some 34) #[true, true, true, true, false, false] rfl rfl (by kernel_rfl) (by decide) (fun K hK => ?_)
    refine zgA Try.func37 (span_Make.calls kj5 x1_5 t837 t838 t839 t840 _ A19.out) (h := ?_)
    rintro w22 hb
    replace BK832 := zkb BK832 hb
    replace BK833 := zkb BK833 hb
    replace HB := zkB HB hb
    (try clear hb)
    refine hK.out _ _ (ze3 BK832) (fun hHeld => ?_)
    clear hK K
    refine znA 34 (h := ?_)
    refine one_ (i := 4) (N := some 35) #[true, true, true, true, true, false] rfl rfl (by kernel_rfl) (by decide) (fun K hK => ?_)
    refine zgA Try.func47 (span_Meet.calls kj5 a0_0 a0_1 a0_2 t838 t839 t840 t841 t842 t843 _ A20.out) (h := ?_)
    rintro w23 hb
    replace BK832 := zkb BK832 hb
    replace BK833 := zkb BK833 hb
    replace HB := zkB HB hb
    (try clear hb)
    refine hK.out _ _ (ze3 BK832) (fun hHeld => ?_)
    clear hK K
    refine znA 35 (h := ?_)
    refine one_ (i := 5) (N := none) #[true, true, true, true, true, true] rfl rfl (by kernel_rfl) (by decide) (fun K hK => ?_)
    have hs24 := zc0 BK833
    have hfs24 := blk_frozen BK833.out 0
    obtain ⟨_, _⟩ := zsy NB832_833
    have hs25 := zc1 BK833
    have hfs25 := blk_frozen BK833.out 1
    obtain ⟨_, _⟩ := zsy NB832_833
    have hs26 := zc2 BK833
    have hfs26 := blk_frozen BK833.out 2
    obtain ⟨_, _⟩ := zsy NB832_833
    refine skip_ (w1 := ?_) (by rfl) rfl ?_ ?_
    rotate_left
    ·go_simp
     rfl
    refine hK.out _ _ ⟨(zff NB832_833 (zff NB832_833 (zff NB832_833 hHeld.1))), (zff NB832_833 (zff NB832_833 (zff NB832_833 hHeld.2.1))), (zff NB832_833 (zff NB832_833 (zff NB832_833 hHeld.2.2)))⟩ (fun hHeld => ?_)
    clear hK K
    refine done_ (by kernel_rfl) ?_
    try go_wp2
    refine bodyPost_ret (results_cell_row rfl _ _ gb833 43 #[.bool t841, .int .u64 t842, .int .u64 t843] (0, 0) _ rfl (blk_put (cs := #[.bool t841, .int .u64 t842, .int .u64 0]) (blk_put (cs := #[.bool t841, .int .u64 0, .int .u64 0]) (blk_put (zkq BK833) 0 _ rfl) 1 _ rfl) 2 _ rfl) Try.underlying43 rfl (by kernel_rfl)) rfl ?_
    exact ⟨zaE, zaB⟩
   replace c17 := Bool.eq_false_iff.mpr c17
   subst c17
   replace H := zif H
   obtain ⟨t844, A27, H⟩ := zbs H
   try dsimp only at H
   obtain ⟨⟨t845, t846, t847⟩, A28, H⟩ := zbs H
   try dsimp only at H
   obtain ⟨⟨t848, t849, t850⟩, A29, H⟩ := zbs H
   try dsimp only at H
   simp only [Option.some.injEq, Prod.mk.injEq] at H
   obtain ⟨rfl, rfl, rfl⟩ := H
   try go_wp2
   (try (rw [drewN_self wc]; generalize hq_ : World.drewN wc _ = wc; replace BK832 := zkg hq_ (zkq BK832); replace BK833 := zkg hq_ (zkq BK833); replace HB := zkG hq_ (pw_below_drewN HB.out _); clear hq_))
   replace BK832 := Aside0.mk (blk_drew BK832.out)
   replace BK833 := Aside0.mk (blk_drew BK833.out)
   replace HB := Aside0.mk (below_drew1 HB.out)
   refine start_ (n := 6) (S := fun w' => w'.cell? ⟨gb832, 0, none⟩ = some (.bool a0_0) ∧ w'.cell? ⟨gb832, 1, none⟩ = some (.int .u64 a0_1) ∧ w'.cell? ⟨gb832, 2, none⟩ = some (.int .u64 a0_2)) (ds := []) #[false, false, false, false, false, false] (by kernel_rfl) rfl rfl (ze3 BK832) (fun hHeld => ?_)
   generalize wc.drew = w30 at BK832 BK833 HB hHeld ⊢
   refine pure_ (i := 2) (N := some 38) (v := ?_) (a' := ?_) #[false, false, true, false, false, false] rfl rfl (by kernel_rfl) (fun _ _ _ h => h) (Or.inl ⟨by rfl, ?_⟩) ?_ ?_
   rotate_left
   ·intro w'
    go_simp
    with_reducible rfl
   rotate_left
   ·simp only [Act.put, List.setIfInBounds_toArray, List.set_cons_zero, List.set_cons_succ, i64_w, i32_w]
    rfl
   refine take_ (i := 0) (N := some 36) (v := ?_) (a' := ?_) #[true, false, true, false, false, false] rfl rfl (by kernel_rfl) (fun _ _ _ h => h) (Or.inl ⟨by rfl, ?_⟩) hHeld ?_ ?_
   rotate_left
   ·rintro w' ⟨s0, s1, s2⟩
    go_simp
    with_reducible rfl
   rotate_left
   ·simp only [Act.put, List.setIfInBounds_toArray, List.set_cons_zero, List.set_cons_succ, i64_w, i32_w]
    rfl
   refine one_ (i := 1) (N := some 37) #[true, true, true, false, false, false] rfl rfl (by kernel_rfl) (by decide) (fun K hK => ?_)
   refine zgA Try.func113 (span_ninf.calls kj5  t844 _ A27.out) (h := ?_)
   rintro w' ⟨nd, rfl⟩
   refine hK.out _ _ (ze3 BK832) (fun hHeld => ?_)
   clear hK K
   refine znA 37 (h := ?_)
   refine one_ (i := 3) (N := some 39) #[true, true, true, true, false, false] rfl rfl (by kernel_rfl) (by decide) (fun K hK => ?_)
   refine zgA Try.func37 (span_Make.calls kj5 t844 x1_5 t845 t846 t847 _ A28.out) (h := ?_)
   rintro w31 hb
   replace BK832 := zkb BK832 hb
   replace BK833 := zkb BK833 hb
   replace HB := zkB HB hb
   (try clear hb)
   refine hK.out _ _ (ze3 BK832) (fun hHeld => ?_)
   clear hK K
   refine znA 39 (h := ?_)
   refine one_ (i := 4) (N := some 40) #[true, true, true, true, true, false] rfl rfl (by kernel_rfl) (by decide) (fun K hK => ?_)
   refine zgA Try.func47 (span_Meet.calls kj5 a0_0 a0_1 a0_2 t845 t846 t847 t848 t849 t850 _ A29.out) (h := ?_)
   rintro w32 hb
   replace BK832 := zkb BK832 hb
   replace BK833 := zkb BK833 hb
   replace HB := zkB HB hb
   (try clear hb)
   refine hK.out _ _ (ze3 BK832) (fun hHeld => ?_)
   clear hK K
   refine znA 40 (h := ?_)
   refine one_ (i := 5) (N := none) #[true, true, true, true, true, true] rfl rfl (by kernel_rfl) (by decide) (fun K hK => ?_)
   have hs33 := zc0 BK833
   have hfs33 := blk_frozen BK833.out 0
   obtain ⟨_, _⟩ := zsy NB832_833
   have hs34 := zc1 BK833
   have hfs34 := blk_frozen BK833.out 1
   obtain ⟨_, _⟩ := zsy NB832_833
   have hs35 := zc2 BK833
   have hfs35 := blk_frozen BK833.out 2
   obtain ⟨_, _⟩ := zsy NB832_833
   refine skip_ (w1 := ?_) (by rfl) rfl ?_ ?_
   rotate_left
   ·go_simp
    rfl
   refine hK.out _ _ ⟨(zff NB832_833 (zff NB832_833 (zff NB832_833 hHeld.1))), (zff NB832_833 (zff NB832_833 (zff NB832_833 hHeld.2.1))), (zff NB832_833 (zff NB832_833 (zff NB832_833 hHeld.2.2)))⟩ (fun hHeld => ?_)
   clear hK K
   refine done_ (by kernel_rfl) ?_
   try go_wp2
   refine bodyPost_ret (results_cell_row rfl _ _ gb833 43 #[.bool t848, .int .u64 t849, .int .u64 t850] (0, 0) _ rfl (blk_put (cs := #[.bool t848, .int .u64 t849, .int .u64 0]) (blk_put (cs := #[.bool t848, .int .u64 0, .int .u64 0]) (blk_put (zkq BK833) 0 _ rfl) 1 _ rfl) 2 _ rfl) Try.underlying43 rfl (by kernel_rfl)) rfl ?_
   exact ⟨zaE, zaB⟩
theorem span_without.calls (k : Nat) (a0_0 : Bool) (a0_1 : Int) (a0_2 : Int) (a1_0 : Bool) (a1_1 : Int) (a1_2 : Int) (r1 : Bool) (r2 : Int) (r3 : Int) (w : World) (h : span_without.f k a0_0 a0_1 a0_2 a1_0 a1_1 a1_2 = some (r1, r2, r3)) :
  Calls Try.prog 123 #[.agg #[.bool a0_0, .int .u64 a0_1, .int .u64 a0_2], .agg #[.bool a1_0, .int .u64 a1_1, .int .u64 a1_2]] w fun e w' => e = .returned (.agg #[.bool r1, .int .u64 r2, .int .u64 r3]) ∧ Below w.heap.size w w' := by
 have hu43 := Try.underlying43
 have HB := Aside0.mk (Below.refl w.heap.size w)
 have H : (if a1_1 = a1_2 then (if a0_1 = a1_1 then ((span_side.f k a0_0 a0_1 a0_2 a1_1 true true).bind fun bt854 => (if bt854.2.2 = a1_1 then (if bt854.1 = true then (some (bt854.1, bt854.2.1, bt854.2.2)) else ((span_side.f k bt854.1 bt854.2.1 bt854.2.2 a1_1 false true).bind fun bt857 => (some (bt857.1, bt857.2.1, bt857.2.2)))) else (some (bt854.1, bt854.2.1, bt854.2.2)))) else (if a0_2 = a1_1 then (if a0_0 = true then (some (a0_0, a0_1, a0_2)) else ((span_side.f k a0_0 a0_1 a0_2 a1_1 false true).bind fun bt860 => (some (bt860.1, bt860.2.1, bt860.2.2)))) else (some (a0_0, a0_1, a0_2)))) else (some (a0_0, a0_1, a0_2))) = some (r1, r2, r3) := h
 clear h
 by_cases c3 : a1_1 = a1_2
 ·rw [if_pos c3] at H
  have c3b0 : (a1_1 == a1_2) = true := beq_iff_eq.mpr c3
  have c3b1 : (a1_1 != a1_2) = false := bne_eq_false_iff_eq.mpr c3
  clear c3
  by_cases c4 : a0_1 = a1_1
  ·rw [if_pos c4] at H
   have c4b0 : (a0_1 == a1_1) = true := beq_iff_eq.mpr c4
   have c4b1 : (a0_1 != a1_1) = false := bne_eq_false_iff_eq.mpr c4
   clear c4
   obtain ⟨⟨t854, t855, t856⟩, A5, H⟩ := zbs H
   try dsimp only at H
   by_cases c6 : t856 = a1_1
   ·rw [if_pos c6] at H
    have c6b0 : (t856 == a1_1) = true := beq_iff_eq.mpr c6
    have c6b1 : (t856 != a1_1) = false := bne_eq_false_iff_eq.mpr c6
    clear c6
    by_cases c7 : t854 = true
    ·subst c7
     replace H := zit H
     simp only [Option.some.injEq, Prod.mk.injEq] at H
     obtain ⟨rfl, rfl, rfl⟩ := H
     go_enter Try.func123, Try.ntmps123
     go_wp2_with (first | ((with_reducible refine gtd 2 rfl ?_); refine zbx 2 #[.bool a0_0, .int .u64 a0_1, .int .u64 a0_2] 43 (h := ?_); intro gb851 hg w8 hbox hb; have GW851 := zkZ hg (zaB (p := Below w.heap.size w _)); replace HB := Aside0.mk (below_step zaB hb); have BK851 := Aside0.mk (hbox); clear hb hbox hg) | ((with_reducible refine gtd 3 rfl ?_); refine zbx 3 #[.bool a1_0, .int .u64 a1_1, .int .u64 a1_2] 43 (h := ?_); intro gb852 hg w9 hbox hb; have GW852 := zkz HB hg; have NB851_852 := zkl BK851 hg; have NB852_851 := zkr BK851 hg; replace BK851 := zkb BK851 hb; replace HB := zkB HB hb; have BK852 := Aside0.mk (hbox); clear hb hbox hg) | ((with_reducible refine gtd 4 rfl ?_); refine zbx 4 #[.bool false, .int .u64 0, .int .u64 0] 43 (h := ?_); intro gb853 hg w10 hbox hb; have GW853 := zkz HB hg; have NB851_853 := zkl BK851 hg; have NB853_851 := zkr BK851 hg; have NB852_853 := zkl BK852 hg; have NB853_852 := zkr BK852 hg; replace BK851 := zkb BK851 hb; replace BK852 := zkb BK852 hb; replace HB := zkB HB hb; have BK853 := Aside0.mk (hbox); clear hb hbox hg; obtain ⟨_, _, _, _⟩ := zs2 NB852_851 NB852_853; obtain ⟨_, _, _, _, _, _⟩ := zq3 BK852; obtain ⟨_, _⟩ := zsy NB851_853; obtain ⟨_, _, _, _, _, _⟩ := zq3 BK851) | ((with_reducible refine gtc 122 rfl ?_); refine zgL 20 Try.func122 (span_side.calls k a0_0 a0_1 a0_2 a1_1 true true true t855 t856 _ A5.out) (h := ?_); rintro w16 hb; replace BK851 := zkb BK851 hb; replace BK852 := zkb BK852 hb; replace BK853 := zkb BK853 hb; replace HB := zkB HB hb; (try clear hb); obtain ⟨_, _, _, _, _, _⟩ := zq3 BK851; obtain ⟨_, _, _, _, _, _⟩ := zq3 BK853))
     refine bodyPost_ret (results_cell_row rfl _ _ gb853 43 #[.bool true, .int .u64 t855, .int .u64 t856] (0, 0) _ rfl (blk_put (cs := #[.bool true, .int .u64 t855, .int .u64 0]) (blk_put (cs := #[.bool true, .int .u64 0, .int .u64 0]) (blk_put (zkf (zkf (zkf (zkq BK853) NB853_851.out _) NB853_851.out _) NB853_851.out _) 0 _ rfl) 1 _ rfl) 2 _ rfl) Try.underlying43 rfl (by kernel_rfl)) rfl ?_
     exact ⟨zaE, zaB⟩
    replace c7 := Bool.eq_false_iff.mpr c7
    subst c7
    replace H := zif H
    obtain ⟨⟨t857, t858, t859⟩, A19, H⟩ := zbs H
    try dsimp only at H
    simp only [Option.some.injEq, Prod.mk.injEq] at H
    obtain ⟨rfl, rfl, rfl⟩ := H
    go_enter Try.func123, Try.ntmps123
    go_wp2_with (first | ((with_reducible refine gtd 2 rfl ?_); refine zbx 2 #[.bool a0_0, .int .u64 a0_1, .int .u64 a0_2] 43 (h := ?_); intro gb851 hg w20 hbox hb; have GW851 := zkZ hg (zaB (p := Below w.heap.size w _)); replace HB := Aside0.mk (below_step zaB hb); have BK851 := Aside0.mk (hbox); clear hb hbox hg) | ((with_reducible refine gtd 3 rfl ?_); refine zbx 3 #[.bool a1_0, .int .u64 a1_1, .int .u64 a1_2] 43 (h := ?_); intro gb852 hg w21 hbox hb; have GW852 := zkz HB hg; have NB851_852 := zkl BK851 hg; have NB852_851 := zkr BK851 hg; replace BK851 := zkb BK851 hb; replace HB := zkB HB hb; have BK852 := Aside0.mk (hbox); clear hb hbox hg) | ((with_reducible refine gtd 4 rfl ?_); refine zbx 4 #[.bool false, .int .u64 0, .int .u64 0] 43 (h := ?_); intro gb853 hg w22 hbox hb; have GW853 := zkz HB hg; have NB851_853 := zkl BK851 hg; have NB853_851 := zkr BK851 hg; have NB852_853 := zkl BK852 hg; have NB853_852 := zkr BK852 hg; replace BK851 := zkb BK851 hb; replace BK852 := zkb BK852 hb; replace HB := zkB HB hb; have BK853 := Aside0.mk (hbox); clear hb hbox hg; obtain ⟨_, _, _, _⟩ := zs2 NB852_851 NB852_853; obtain ⟨_, _, _, _, _, _⟩ := zq3 BK852; obtain ⟨_, _⟩ := zsy NB851_853; obtain ⟨_, _, _, _, _, _⟩ := zq3 BK851) | ((with_reducible refine gtc 122 rfl ?_); refine zgL 20 Try.func122 (span_side.calls k a0_0 a0_1 a0_2 a1_1 true true false t855 t856 _ A5.out) (h := ?_); rintro w28 hb; replace BK851 := zkb BK851 hb; replace BK852 := zkb BK852 hb; replace BK853 := zkb BK853 hb; replace HB := zkB HB hb; (try clear hb); obtain ⟨_, _, _, _, _, _⟩ := zq3 BK851) | ((with_reducible refine gtc 122 rfl ?_); refine zgL 32 Try.func122 (span_side.calls k false t855 t856 a1_1 false true t857 t858 t859 _ A19.out) (h := ?_); rintro w30 hb; replace BK851 := Aside0.mk (blk_below (o := .cells #[.bool false, .int .u64 t855, .int .u64 t856] 43 (0, 0)) (blk_put (cs := #[.bool false, .int .u64 t855, .int .u64 a0_2]) (blk_put (cs := #[.bool false, .int .u64 a0_1, .int .u64 a0_2]) (blk_put BK851.out 0 _ rfl) 1 _ rfl) 2 _ rfl) hb); replace BK852 := Aside0.mk (blk_below (zkf (zkf (zkf BK852.out NB852_851.out _) NB852_851.out _) NB852_851.out _) hb); replace BK853 := Aside0.mk (blk_below (zkf (zkf (zkf BK853.out NB853_851.out _) NB853_851.out _) NB853_851.out _) hb); replace HB := Aside0.mk (below_step (below_set (below_set (below_set HB.out GW851.out) GW851.out) GW851.out) hb); (try clear hb); obtain ⟨_, _, _, _, _, _⟩ := zq3 BK851; obtain ⟨_, _, _, _, _, _⟩ := zq3 BK853))
    refine bodyPost_ret (results_cell_row rfl _ _ gb853 43 #[.bool t857, .int .u64 t858, .int .u64 t859] (0, 0) _ rfl (blk_put (cs := #[.bool t857, .int .u64 t858, .int .u64 0]) (blk_put (cs := #[.bool t857, .int .u64 0, .int .u64 0]) (blk_put (zkf (zkf (zkf (zkq BK853) NB853_851.out _) NB853_851.out _) NB853_851.out _) 0 _ rfl) 1 _ rfl) 2 _ rfl) Try.underlying43 rfl (by kernel_rfl)) rfl ?_
    exact ⟨zaE, zaB⟩
   rw [if_neg c6] at H
   have c6b0 : (t856 == a1_1) = false := beq_eq_false_iff_ne.mpr c6
   have c6b1 : (t856 != a1_1) = true := bne_iff_ne.mpr c6
   simp only [Option.some.injEq, Prod.mk.injEq] at H
   obtain ⟨rfl, rfl, rfl⟩ := H
   go_enter Try.func123, Try.ntmps123
   go_wp2_with (first | ((with_reducible refine gtd 2 rfl ?_); refine zbx 2 #[.bool a0_0, .int .u64 a0_1, .int .u64 a0_2] 43 (h := ?_); intro gb851 hg w33 hbox hb; have GW851 := zkZ hg (zaB (p := Below w.heap.size w _)); replace HB := Aside0.mk (below_step zaB hb); have BK851 := Aside0.mk (hbox); clear hb hbox hg) | ((with_reducible refine gtd 3 rfl ?_); refine zbx 3 #[.bool a1_0, .int .u64 a1_1, .int .u64 a1_2] 43 (h := ?_); intro gb852 hg w34 hbox hb; have GW852 := zkz HB hg; have NB851_852 := zkl BK851 hg; have NB852_851 := zkr BK851 hg; replace BK851 := zkb BK851 hb; replace HB := zkB HB hb; have BK852 := Aside0.mk (hbox); clear hb hbox hg) | ((with_reducible refine gtd 4 rfl ?_); refine zbx 4 #[.bool false, .int .u64 0, .int .u64 0] 43 (h := ?_); intro gb853 hg w35 hbox hb; have GW853 := zkz HB hg; have NB851_853 := zkl BK851 hg; have NB853_851 := zkr BK851 hg; have NB852_853 := zkl BK852 hg; have NB853_852 := zkr BK852 hg; replace BK851 := zkb BK851 hb; replace BK852 := zkb BK852 hb; replace HB := zkB HB hb; have BK853 := Aside0.mk (hbox); clear hb hbox hg; obtain ⟨_, _, _, _⟩ := zs2 NB852_851 NB852_853; obtain ⟨_, _, _, _, _, _⟩ := zq3 BK852; obtain ⟨_, _⟩ := zsy NB851_853; obtain ⟨_, _, _, _, _, _⟩ := zq3 BK851) | ((with_reducible refine gtc 122 rfl ?_); refine zgL 20 Try.func122 (span_side.calls k a0_0 a0_1 a0_2 a1_1 true true t854 t855 t856 _ A5.out) (h := ?_); rintro w41 hb; replace BK851 := zkb BK851 hb; replace BK852 := zkb BK852 hb; replace BK853 := zkb BK853 hb; replace HB := zkB HB hb; (try clear hb); obtain ⟨_, _, _, _, _, _⟩ := zq3 BK851; obtain ⟨_, _, _, _, _, _⟩ := zq3 BK853))
   refine bodyPost_ret (results_cell_row rfl _ _ gb853 43 #[.bool t854, .int .u64 t855, .int .u64 t856] (0, 0) _ rfl (blk_put (cs := #[.bool t854, .int .u64 t855, .int .u64 0]) (blk_put (cs := #[.bool t854, .int .u64 0, .int .u64 0]) (blk_put (zkf (zkf (zkf (zkq BK853) NB853_851.out _) NB853_851.out _) NB853_851.out _) 0 _ rfl) 1 _ rfl) 2 _ rfl) Try.underlying43 rfl (by kernel_rfl)) rfl ?_
   exact ⟨zaE, zaB⟩
  rw [if_neg c4] at H
  have c4b0 : (a0_1 == a1_1) = false := beq_eq_false_iff_ne.mpr c4
  have c4b1 : (a0_1 != a1_1) = true := bne_iff_ne.mpr c4
  by_cases c44 : a0_2 = a1_1
  ·rw [if_pos c44] at H
   have c44b0 : (a0_2 == a1_1) = true := beq_iff_eq.mpr c44
   have c44b1 : (a0_2 != a1_1) = false := bne_eq_false_iff_eq.mpr c44
   clear c44
   by_cases c45 : a0_0 = true
   ·subst c45
    replace H := zit H
    simp only [Option.some.injEq, Prod.mk.injEq] at H
    obtain ⟨rfl, rfl, rfl⟩ := H
    go_enter Try.func123, Try.ntmps123
    go_wp2_with (first | ((with_reducible refine gtd 2 rfl ?_); refine zbx 2 #[.bool true, .int .u64 a0_1, .int .u64 a0_2] 43 (h := ?_); intro gb851 hg w46 hbox hb; have GW851 := zkZ hg (zaB (p := Below w.heap.size w _)); replace HB := Aside0.mk (below_step zaB hb); have BK851 := Aside0.mk (hbox); clear hb hbox hg) | ((with_reducible refine gtd 3 rfl ?_); refine zbx 3 #[.bool a1_0, .int .u64 a1_1, .int .u64 a1_2] 43 (h := ?_); intro gb852 hg w47 hbox hb; have GW852 := zkz HB hg; have NB851_852 := zkl BK851 hg; have NB852_851 := zkr BK851 hg; replace BK851 := zkb BK851 hb; replace HB := zkB HB hb; have BK852 := Aside0.mk (hbox); clear hb hbox hg) | ((with_reducible refine gtd 4 rfl ?_); refine zbx 4 #[.bool false, .int .u64 0, .int .u64 0] 43 (h := ?_); intro gb853 hg w48 hbox hb; have GW853 := zkz HB hg; have NB851_853 := zkl BK851 hg; have NB853_851 := zkr BK851 hg; have NB852_853 := zkl BK852 hg; have NB853_852 := zkr BK852 hg; replace BK851 := zkb BK851 hb; replace BK852 := zkb BK852 hb; replace HB := zkB HB hb; have BK853 := Aside0.mk (hbox); clear hb hbox hg; obtain ⟨_, _, _, _⟩ := zs2 NB852_851 NB852_853; obtain ⟨_, _, _, _, _, _⟩ := zq3 BK852; obtain ⟨_, _⟩ := zsy NB851_853; obtain ⟨_, _, _, _, _, _⟩ := zq3 BK851; obtain ⟨_, _, _, _, _, _⟩ := zq3 BK853))
    refine bodyPost_ret (results_cell_row rfl _ _ gb853 43 #[.bool true, .int .u64 a0_1, .int .u64 a0_2] (0, 0) _ rfl (blk_put (cs := #[.bool true, .int .u64 a0_1, .int .u64 0]) (blk_put (cs := #[.bool true, .int .u64 0, .int .u64 0]) (blk_put (zkq BK853) 0 _ rfl) 1 _ rfl) 2 _ rfl) Try.underlying43 rfl (by kernel_rfl)) rfl ?_
    exact ⟨zaE, zaB⟩
   replace c45 := Bool.eq_false_iff.mpr c45
   subst c45
   replace H := zif H
   obtain ⟨⟨t860, t861, t862⟩, A55, H⟩ := zbs H
   try dsimp only at H
   simp only [Option.some.injEq, Prod.mk.injEq] at H
   obtain ⟨rfl, rfl, rfl⟩ := H
   go_enter Try.func123, Try.ntmps123
   go_wp2_with (first | ((with_reducible refine gtd 2 rfl ?_); refine zbx 2 #[.bool false, .int .u64 a0_1, .int .u64 a0_2] 43 (h := ?_); intro gb851 hg w56 hbox hb; have GW851 := zkZ hg (zaB (p := Below w.heap.size w _)); replace HB := Aside0.mk (below_step zaB hb); have BK851 := Aside0.mk (hbox); clear hb hbox hg) | ((with_reducible refine gtd 3 rfl ?_); refine zbx 3 #[.bool a1_0, .int .u64 a1_1, .int .u64 a1_2] 43 (h := ?_); intro gb852 hg w57 hbox hb; have GW852 := zkz HB hg; have NB851_852 := zkl BK851 hg; have NB852_851 := zkr BK851 hg; replace BK851 := zkb BK851 hb; replace HB := zkB HB hb; have BK852 := Aside0.mk (hbox); clear hb hbox hg) | ((with_reducible refine gtd 4 rfl ?_); refine zbx 4 #[.bool false, .int .u64 0, .int .u64 0] 43 (h := ?_); intro gb853 hg w58 hbox hb; have GW853 := zkz HB hg; have NB851_853 := zkl BK851 hg; have NB853_851 := zkr BK851 hg; have NB852_853 := zkl BK852 hg; have NB853_852 := zkr BK852 hg; replace BK851 := zkb BK851 hb; replace BK852 := zkb BK852 hb; replace HB := zkB HB hb; have BK853 := Aside0.mk (hbox); clear hb hbox hg; obtain ⟨_, _, _, _⟩ := zs2 NB852_851 NB852_853; obtain ⟨_, _, _, _, _, _⟩ := zq3 BK852; obtain ⟨_, _⟩ := zsy NB851_853; obtain ⟨_, _, _, _, _, _⟩ := zq3 BK851) | ((with_reducible refine gtc 122 rfl ?_); refine zgL 32 Try.func122 (span_side.calls k false a0_1 a0_2 a1_1 false true t860 t861 t862 _ A55.out) (h := ?_); rintro w64 hb; replace BK851 := zkb BK851 hb; replace BK852 := zkb BK852 hb; replace BK853 := zkb BK853 hb; replace HB := zkB HB hb; (try clear hb); obtain ⟨_, _, _, _, _, _⟩ := zq3 BK851; obtain ⟨_, _, _, _, _, _⟩ := zq3 BK853))
   refine bodyPost_ret (results_cell_row rfl _ _ gb853 43 #[.bool t860, .int .u64 t861, .int .u64 t862] (0, 0) _ rfl (blk_put (cs := #[.bool t860, .int .u64 t861, .int .u64 0]) (blk_put (cs := #[.bool t860, .int .u64 0, .int .u64 0]) (blk_put (zkf (zkf (zkf (zkq BK853) NB853_851.out _) NB853_851.out _) NB853_851.out _) 0 _ rfl) 1 _ rfl) 2 _ rfl) Try.underlying43 rfl (by kernel_rfl)) rfl ?_
   exact ⟨zaE, zaB⟩
  rw [if_neg c44] at H
  have c44b0 : (a0_2 == a1_1) = false := beq_eq_false_iff_ne.mpr c44
  have c44b1 : (a0_2 != a1_1) = true := bne_iff_ne.mpr c44
  simp only [Option.some.injEq, Prod.mk.injEq] at H
  obtain ⟨rfl, rfl, rfl⟩ := H
  go_enter Try.func123, Try.ntmps123
  go_wp2_with (first | ((with_reducible refine gtd 2 rfl ?_); refine zbx 2 #[.bool a0_0, .int .u64 a0_1, .int .u64 a0_2] 43 (h := ?_); intro gb851 hg w67 hbox hb; have GW851 := zkZ hg (zaB (p := Below w.heap.size w _)); replace HB := Aside0.mk (below_step zaB hb); have BK851 := Aside0.mk (hbox); clear hb hbox hg) | ((with_reducible refine gtd 3 rfl ?_); refine zbx 3 #[.bool a1_0, .int .u64 a1_1, .int .u64 a1_2] 43 (h := ?_); intro gb852 hg w68 hbox hb; have GW852 := zkz HB hg; have NB851_852 := zkl BK851 hg; have NB852_851 := zkr BK851 hg; replace BK851 := zkb BK851 hb; replace HB := zkB HB hb; have BK852 := Aside0.mk (hbox); clear hb hbox hg) | ((with_reducible refine gtd 4 rfl ?_); refine zbx 4 #[.bool false, .int .u64 0, .int .u64 0] 43 (h := ?_); intro gb853 hg w69 hbox hb; have GW853 := zkz HB hg; have NB851_853 := zkl BK851 hg; have NB853_851 := zkr BK851 hg; have NB852_853 := zkl BK852 hg; have NB853_852 := zkr BK852 hg; replace BK851 := zkb BK851 hb; replace BK852 := zkb BK852 hb; replace HB := zkB HB hb; have BK853 := Aside0.mk (hbox); clear hb hbox hg; obtain ⟨_, _, _, _⟩ := zs2 NB852_851 NB852_853; obtain ⟨_, _, _, _, _, _⟩ := zq3 BK852; obtain ⟨_, _⟩ := zsy NB851_853; obtain ⟨_, _, _, _, _, _⟩ := zq3 BK851; obtain ⟨_, _, _, _, _, _⟩ := zq3 BK853))
  refine bodyPost_ret (results_cell_row rfl _ _ gb853 43 #[.bool a0_0, .int .u64 a0_1, .int .u64 a0_2] (0, 0) _ rfl (blk_put (cs := #[.bool a0_0, .int .u64 a0_1, .int .u64 0]) (blk_put (cs := #[.bool a0_0, .int .u64 0, .int .u64 0]) (blk_put (zkq BK853) 0 _ rfl) 1 _ rfl) 2 _ rfl) Try.underlying43 rfl (by kernel_rfl)) rfl ?_
  exact ⟨zaE, zaB⟩
 rw [if_neg c3] at H
 have c3b0 : (a1_1 == a1_2) = false := beq_eq_false_iff_ne.mpr c3
 have c3b1 : (a1_1 != a1_2) = true := bne_iff_ne.mpr c3
 simp only [Option.some.injEq, Prod.mk.injEq] at H
 obtain ⟨rfl, rfl, rfl⟩ := H
 go_enter Try.func123, Try.ntmps123
 go_wp2_with (first | ((with_reducible refine gtd 2 rfl ?_); refine zbx 2 #[.bool a0_0, .int .u64 a0_1, .int .u64 a0_2] 43 (h := ?_); intro gb851 hg w76 hbox hb; have GW851 := zkZ hg (zaB (p := Below w.heap.size w _)); replace HB := Aside0.mk (below_step zaB hb); have BK851 := Aside0.mk (hbox); clear hb hbox hg) | ((with_reducible refine gtd 3 rfl ?_); refine zbx 3 #[.bool a1_0, .int .u64 a1_1, .int .u64 a1_2] 43 (h := ?_); intro gb852 hg w77 hbox hb; have GW852 := zkz HB hg; have NB851_852 := zkl BK851 hg; have NB852_851 := zkr BK851 hg; replace BK851 := zkb BK851 hb; replace HB := zkB HB hb; have BK852 := Aside0.mk (hbox); clear hb hbox hg) | ((with_reducible refine gtd 4 rfl ?_); refine zbx 4 #[.bool false, .int .u64 0, .int .u64 0] 43 (h := ?_); intro gb853 hg w78 hbox hb; have GW853 := zkz HB hg; have NB851_853 := zkl BK851 hg; have NB853_851 := zkr BK851 hg; have NB852_853 := zkl BK852 hg; have NB853_852 := zkr BK852 hg; replace BK851 := zkb BK851 hb; replace BK852 := zkb BK852 hb; replace HB := zkB HB hb; have BK853 := Aside0.mk (hbox); clear hb hbox hg; obtain ⟨_, _, _, _⟩ := zs2 NB852_851 NB852_853; obtain ⟨_, _, _, _, _, _⟩ := zq3 BK852; obtain ⟨_, _⟩ := zsy NB851_853; obtain ⟨_, _, _, _, _, _⟩ := zq3 BK851; obtain ⟨_, _, _, _, _, _⟩ := zq3 BK853))
 refine bodyPost_ret (results_cell_row rfl _ _ gb853 43 #[.bool a0_0, .int .u64 a0_1, .int .u64 a0_2] (0, 0) _ rfl (blk_put (cs := #[.bool a0_0, .int .u64 a0_1, .int .u64 0]) (blk_put (cs := #[.bool a0_0, .int .u64 0, .int .u64 0]) (blk_put (zkq BK853) 0 _ rfl) 1 _ rfl) 2 _ rfl) Try.underlying43 rfl (by kernel_rfl)) rfl ?_
 exact ⟨zaE, zaB⟩
def span_Test.T9 : Bool × List (List Nat × List Nat) := (true, [([], []), ([], []), ([1], [1]), ([], []), ([0, 2, 3], [0, 2, 3]), ([], []), ([], []), ([6], [6]), ([], []), ([5, 7, 8, 4], [5, 7, 8]), ([4, 9, 0, 1, 2, 3, 4], [4]), ([9, 10, 0, 1, 2, 3, 4, 5, 6, 7, 8, 9, 10], [9])])
def span_Test.B9 : List Nat := [0, 0, 2, 0, 15, 0, 0, 64, 0, 511, 1023, 2047]
theorem span_Test.tab9 : rtab .any (opsOf Try.f52 9) = span_Test.T9 := by kernel_rfl
theorem span_Test.bits9 : waitsOk span_Test.T9.2 span_Test.B9 = true := by kernel_rfl
def span_Test.T12 : Bool × List (List Nat × List Nat) := (true, [([], []), ([], []), ([1], [1]), ([], []), ([0, 2, 3], [0, 2, 3]), ([], []), ([], []), ([6], [6]), ([], []), ([5, 7, 8, 4], [5, 7, 8]), ([4, 9, 0, 1, 2, 3, 4], [4]), ([9, 10, 0, 1, 2, 3, 4, 5, 6, 7, 8, 9, 10], [9])])
def span_Test.B12 : List Nat := [0, 0, 2, 0, 15, 0, 0, 64, 0, 511, 1023, 2047]
theorem span_Test.tab12 : rtab .any (opsOf Try.f52 12) = span_Test.T12 := by kernel_rfl
theorem span_Test.bits12 : waitsOk span_Test.T12.2 span_Test.B12 = true := by kernel_rfl
def span_Test.T17 : Bool × List (List Nat × List Nat) := (true, [([], []), ([], []), ([0, 1], [0, 1]), ([], []), ([], []), ([3, 4, 2], [3, 4]), ([2, 5, 0, 1, 2], [2]), ([5, 6, 0, 1, 2, 3, 4, 5, 6], [5])])
def span_Test.B17 : List Nat := [0, 0, 3, 0, 0, 31, 63, 127]
theorem span_Test.tab17 : rtab .any (opsOf Try.f52 17) = span_Test.T17 := by kernel_rfl
theorem span_Test.bits17 : waitsOk span_Test.T17.2 span_Test.B17 = true := by kernel_rfl
theorem span_Test.calls (k : Nat) (a0 : Int) (a1_0 : Bool) (a1_1 : Int) (a1_2 : Int) (a2_0 : Bool) (a2_1 : Int) (a2_2 : Int) (r1 : Bool) (r2 : Int) (r3 : Int) (r4 : Bool) (r5 : Int) (r6 : Int) (w : World) (h : span_Test.f k a0 a1_0 a1_1 a1_2 a2_0 a2_1 a2_2 = some (r1, r2, r3, r4, r5, r6)) :
  Calls Try.prog 52 #[.int .u8 a0, .agg #[.bool a1_0, .int .u64 a1_1, .int .u64 a1_2], .agg #[.bool a2_0, .int .u64 a2_1, .int .u64 a2_2]] w fun e w' => e = .returned (.tuple #[.agg #[.bool r1, .int .u64 r2, .int .u64 r3], .agg #[.bool r4, .int .u64 r5, .int .u64 r6]]) ∧ Below w.heap.size w w' := by
 have hu43 := Try.underlying43
 have HB := Aside0.mk (Below.refl w.heap.size w)
 have H : ((span_norm.f k a1_0 a1_1 a1_2).bind fun bt867 => ((span_norm.f k a2_0 a2_1 a2_2).bind fun bt870 => (if bt867.1 = true then (span_Test.j0 k a0 true bt867.1 bt867.2.1 bt867.2.2 bt870.1 bt870.2.1 bt870.2.2) else (span_Test.j0 k a0 bt870.1 bt867.1 bt867.2.1 bt867.2.2 bt870.1 bt870.2.1 bt870.2.2)))) = some (r1, r2, r3, r4, r5, r6) := h
 clear h
 obtain ⟨⟨t867, t868, t869⟩, A4, H⟩ := zbs H
 try dsimp only at H
 obtain ⟨⟨t870, t871, t872⟩, A5, H⟩ := zbs H
 try dsimp only at H
 have HC6 := Aside0.mk H
 clear H
 go_enter Try.func52, Try.ntmps52
 try go_wp2_with (first | ((with_reducible refine gtd 4 rfl ?_); refine zbx 4 #[.bool a1_0, .int .u64 a1_1, .int .u64 a1_2] 43 (h := ?_); intro gb863 hg w7 hbox hb; have GW863 := zkZ hg (zaB (p := Below w.heap.size w _)); replace HB := Aside0.mk (below_step zaB hb); have BK863 := Aside0.mk (hbox); clear hb hbox hg) | ((with_reducible refine gtd 5 rfl ?_); refine zbx 5 #[.bool a2_0, .int .u64 a2_1, .int .u64 a2_2] 43 (h := ?_); intro gb864 hg w8 hbox hb; have GW864 := zkz HB hg; have NB863_864 := zkl BK863 hg; have NB864_863 := zkr BK863 hg; replace BK863 := zkb BK863 hb; replace HB := zkB HB hb; have BK864 := Aside0.mk (hbox); clear hb hbox hg) | ((with_reducible refine gtd 6 rfl ?_); refine zbx 6 #[.bool false, .int .u64 0, .int .u64 0] 43 (h := ?_); intro gb865 hg w9 hbox hb; have GW865 := zkz HB hg; have NB863_865 := zkl BK863 hg; have NB865_863 := zkr BK863 hg; have NB864_865 := zkl BK864 hg; have NB865_864 := zkr BK864 hg; replace BK863 := zkb BK863 hb; replace BK864 := zkb BK864 hb; replace HB := zkB HB hb; have BK865 := Aside0.mk (hbox); clear hb hbox hg) | ((with_reducible refine gtd 7 rfl ?_); refine zbx 7 #[.bool false, .int .u64 0, .int .u64 0] 43 (h := ?_); intro gb866 hg w10 hbox hb; have GW866 := zkz HB hg; have NB863_866 := zkl BK863 hg; have NB866_863 := zkr BK863 hg; have NB864_866 := zkl BK864 hg; have NB866_864 := zkr BK864 hg; have NB865_866 := zkl BK865 hg; have NB866_865 := zkr BK865 hg; replace BK863 := zkb BK863 hb; replace BK864 := zkb BK864 hb; replace BK865 := zkb BK865 hb; replace HB := zkB HB hb; have BK866 := Aside0.mk (hbox); clear hb hbox hg))
 replace BK863 := Aside0.mk (blk_drew BK863.out)
 replace BK864 := Aside0.mk (blk_drew BK864.out)
 replace BK865 := Aside0.mk (blk_drew BK865.out)
 replace BK866 := Aside0.mk (blk_drew BK866.out)
 replace HB := Aside0.mk (below_drew1 HB.out)
 refine start_ (n := 6) (S := fun w' => w'.cell? ⟨gb863, 0, none⟩ = some (.bool a1_0) ∧ w'.cell? ⟨gb863, 1, none⟩ = some (.int .u64 a1_1) ∧ w'.cell? ⟨gb863, 2, none⟩ = some (.int .u64 a1_2) ∧ w'.cell? ⟨gb864, 0, none⟩ = some (.bool a2_0) ∧ w'.cell? ⟨gb864, 1, none⟩ = some (.int .u64 a2_1) ∧ w'.cell? ⟨gb864, 2, none⟩ = some (.int .u64 a2_2)) (ds := [4, 5]) #[false, false, false, false, false, false] (by kernel_rfl) rfl rfl (zk3 BK863 (ze3 BK864)) (fun hHeld => ?_)
 generalize w10.drew = w11 at BK863 BK864 BK865 BK866 HB hHeld ⊢
 refine take_ (i := 0) (N := some 11) (v := ?_) (a' := ?_) #[true, false, false, false, false, false] rfl rfl (by kernel_rfl) (fun _ _ _ h => h) (Or.inl ⟨by rfl, ?_⟩) hHeld ?_ ?_
 rotate_left
 ·rintro w' ⟨s0, s1, s2, s3, s4, s5⟩
  go_simp
  with_reducible rfl
 rotate_left
 ·simp only [Act.put, List.setIfInBounds_toArray, List.set_cons_zero, List.set_cons_succ, i64_w, i32_w]
  rfl
 refine take_ (i := 2) (N := some 13) (v := ?_) (a' := ?_) #[true, false, true, false, false, false] rfl rfl (by kernel_rfl) (fun _ _ _ h => h) (Or.inl ⟨by rfl, ?_⟩) hHeld ?_ ?_
 rotate_left
 ·rintro w' ⟨s0, s1, s2, s3, s4, s5⟩
  go_simp
  with_reducible rfl
 rotate_left
 ·simp only [Act.put, List.setIfInBounds_toArray, List.set_cons_zero, List.set_cons_succ, i64_w, i32_w]
  rfl
 refine one_ (i := 1) (N := some 12) #[true, true, true, false, false, false] rfl rfl (by kernel_rfl) (by decide) (fun K hK => ?_)
 refine zgA Try.func112 (span_norm.calls k a1_0 a1_1 a1_2 t867 t868 t869 _ A4.out) (h := ?_)
 rintro w12 hb
 replace BK863 := zkb BK863 hb
 replace BK864 := zkb BK864 hb
 replace BK865 := zkb BK865 hb
 replace BK866 := zkb BK866 hb
 replace HB := zkB HB hb
 (try clear hb)
 refine hK.out _ _ (zk3 BK863 (ze3 BK864)) (fun hHeld => ?_)
 clear hK K
 refine znA 12 (h := ?_)
 refine one_ (i := 3) (N := some 14) #[true, true, true, true, false, false] rfl rfl (by kernel_rfl) (by decide) (fun K hK => ?_)
 refine zgA Try.func112 (span_norm.calls k a2_0 a2_1 a2_2 t870 t871 t872 _ A5.out) (h := ?_)
 rintro w13 hb
 replace BK863 := zkb BK863 hb
 replace BK864 := zkb BK864 hb
 replace BK865 := zkb BK865 hb
 replace BK866 := zkb BK866 hb
 replace HB := zkB HB hb
 (try clear hb)
 refine hK.out _ _ (zk3 BK863 (ze3 BK864)) (fun hHeld => ?_)
 clear hK K
 refine znA 14 (h := ?_)
 refine last_ (i := 4) (N := none) #[true, true, true, true, true, false] rfl rfl (by kernel_rfl) (by decide) (fun K hK => ?_)
 have hs14 := zc0 BK863
 have hfs14 := blk_frozen BK863.out 0
 obtain ⟨_, _, _, _, _, _⟩ := zs3 NB864_863 NB865_863 NB866_863
 have hs15 := zc1 BK863
 have hfs15 := blk_frozen BK863.out 1
 obtain ⟨_, _, _, _, _, _⟩ := zs3 NB864_863 NB865_863 NB866_863
 have hs16 := zc2 BK863
 have hfs16 := blk_frozen BK863.out 2
 obtain ⟨_, _, _, _, _, _⟩ := zs3 NB864_863 NB865_863 NB866_863
 refine skip_ (w1 := ?_) (by rfl) rfl ?_ ?_
 rotate_left
 ·go_simp
  rfl
 refine hK.out _ _ ?_
 clear hK K
 refine last_ (i := 5) (N := none) #[true, true, true, true, true, true] rfl rfl (by kernel_rfl) (by decide) (fun K hK => ?_)
 have hs17 := zc0 BK864
 have hfs17 := blk_frozen BK864.out 0
 obtain ⟨_, _, _, _, _, _⟩ := zs3 NB863_864 NB865_864 NB866_864
 have hs18 := zc1 BK864
 have hfs18 := blk_frozen BK864.out 1
 obtain ⟨_, _, _, _, _, _⟩ := zs3 NB863_864 NB865_864 NB866_864
 have hs19 := zc2 BK864
 have hfs19 := blk_frozen BK864.out 2
 obtain ⟨_, _, _, _, _, _⟩ := zs3 NB863_864 NB865_864 NB866_864
 refine skip_ (w1 := ?_) (by rfl) rfl ?_ ?_
 rotate_left
 ·go_simp
  rfl
 refine hK.out _ _ ?_
 clear hK K
 refine done_ (by kernel_rfl) ?_
 go_upto_region 2 with (fail)
 go_cut [20] (fun v20 wc => ∃ (kq : Nat) (x20_5 : Bool), v20 = .bool x20_5 ∧ Aside0 (span_Test.j0 kq a0 x20_5 t867 t868 t869 t870 t871 t872 = some (r1, r2, r3, r4, r5, r6)) ∧ Aside0 (kq ≤ k) ∧ Aside0 (wc.heap[gb863]? = some (.cells #[.bool t867, .int .u64 t868, .int .u64 t869] 43 (0, 0))) ∧ Aside0 (wc.heap[gb864]? = some (.cells #[.bool t870, .int .u64 t871, .int .u64 t872] 43 (0, 0))) ∧ Aside0 (wc.heap[gb865]? = some (.cells #[.bool false, .int .u64 0, .int .u64 0] 43 (0, 0))) ∧ Aside0 (wc.heap[gb866]? = some (.cells #[.bool false, .int .u64 0, .int .u64 0] 43 (0, 0))) ∧ Aside0 (Below w.heap.size w wc))
 case first =>
  have H := HC6.out
  clear HC6
  by_cases c20 : t867 = true
  ·subst c20
   replace H := zit H
   have H' := Aside0.mk H
   clear H
   obtain ⟨_, _, _, _, _, _⟩ := zs3 NB863_864 NB863_865 NB863_866
   obtain ⟨z24_0, z24_1, z24_2, f24_0, f24_1, f24_2⟩ := zq3 BK863
   go_wp2
   go_meet
   case rel => exact ⟨_, (true), zrl, H', ⟨zle⟩, ⟨(zkf (zkf (zkf (blk_put (cs := #[.bool true, .int .u64 t868, .int .u64 a1_2]) (blk_put (cs := #[.bool true, .int .u64 a1_1, .int .u64 a1_2]) (blk_put (zkq BK863) 0 _ rfl) 1 _ rfl) 2 _ rfl) NB863_864.out _) NB863_864.out _) NB863_864.out _)⟩, ⟨(blk_put (cs := #[.bool t870, .int .u64 t871, .int .u64 a2_2]) (blk_put (cs := #[.bool t870, .int .u64 a2_1, .int .u64 a2_2]) (blk_put (zkf (zkf (zkf (zkq BK864) NB864_863.out _) NB864_863.out _) NB864_863.out _) 0 _ rfl) 1 _ rfl) 2 _ rfl)⟩, ⟨(zkf (zkf (zkf (zkf (zkf (zkf (zkq BK865) NB865_863.out _) NB865_863.out _) NB865_863.out _) NB865_864.out _) NB865_864.out _) NB865_864.out _)⟩, ⟨(zkf (zkf (zkf (zkf (zkf (zkf (zkq BK866) NB866_863.out _) NB866_863.out _) NB866_863.out _) NB866_864.out _) NB866_864.out _) NB866_864.out _)⟩, ⟨zaB⟩⟩
  replace c20 := Bool.eq_false_iff.mpr c20
  subst c20
  replace H := zif H
  have H' := Aside0.mk H
  clear H
  obtain ⟨_, _, _, _, _, _⟩ := zs3 NB863_864 NB863_865 NB863_866
  obtain ⟨z28_0, z28_1, z28_2, f28_0, f28_1, f28_2⟩ := zq3 BK863
  obtain ⟨_, _, _, _⟩ := zs2 NB864_865 NB864_866
  obtain ⟨z31_0, z31_1, z31_2, f31_0, f31_1, f31_2⟩ := zq3 BK864
  go_wp2
  go_meet
  case rel => exact ⟨_, (t870), zrl, H', ⟨zle⟩, ⟨(zkf (zkf (zkf (blk_put (cs := #[.bool false, .int .u64 t868, .int .u64 a1_2]) (blk_put (cs := #[.bool false, .int .u64 a1_1, .int .u64 a1_2]) (blk_put (zkq BK863) 0 _ rfl) 1 _ rfl) 2 _ rfl) NB863_864.out _) NB863_864.out _) NB863_864.out _)⟩, ⟨(blk_put (cs := #[.bool t870, .int .u64 t871, .int .u64 a2_2]) (blk_put (cs := #[.bool t870, .int .u64 a2_1, .int .u64 a2_2]) (blk_put (zkf (zkf (zkf (zkq BK864) NB864_863.out _) NB864_863.out _) NB864_863.out _) 0 _ rfl) 1 _ rfl) 2 _ rfl)⟩, ⟨(zkf (zkf (zkf (zkf (zkf (zkf (zkq BK865) NB865_863.out _) NB865_863.out _) NB865_863.out _) NB865_864.out _) NB865_864.out _) NB865_864.out _)⟩, ⟨(zkf (zkf (zkf (zkf (zkf (zkf (zkq BK866) NB866_863.out _) NB866_863.out _) NB866_863.out _) NB866_864.out _) NB866_864.out _) NB866_864.out _)⟩, ⟨zaB⟩⟩
 case rest =>
  clear HC6
  try clear c1
  try clear c2
  try clear p2
  try clear c3
  try clear c5
  try clear c11
  try clear c20
  try clear c21
  try clear c22
  try clear c23
  try clear c25
  try clear c26
  try clear c27
  try clear c29
  try clear c30
  try clear z24_0 z24_1 z24_2 f24_0 f24_1 f24_2
  try clear z28_0 z28_1 z28_2 f28_0 f28_1 f28_2
  try clear z31_0 z31_1 z31_2 f31_0 f31_1 f31_2
  obtain ⟨kq, x20_5, rfl, HA, HJ5, BK863, BK864, BK865, BK866, HB⟩ := hcut
  cases kq with
  | zero => exact absurd HA.out (by simp [span_Test.j0])
  | succ kj5 =>
   have H := HA.out
   clear HA
   simp only [span_Test.j0] at H
   by_cases c32 : x20_5 = true
   ·subst c32
    replace H := zit H
    obtain ⟨⟨t873, t874, t875⟩, A33, H⟩ := zbs H
    try dsimp only at H
    obtain ⟨⟨t876, t877, t878⟩, A34, H⟩ := zbs H
    try dsimp only at H
    simp only [Option.some.injEq, Prod.mk.injEq] at H
    obtain ⟨rfl, rfl, rfl, rfl, rfl, rfl⟩ := H
    go_wp2_with (first | ((with_reducible refine gtc 118 rfl ?_); refine zgL 21 Try.func118 (span_none.calls  t873 t874 t875 _ A33.out) (h := ?_); rintro w35 hb; replace BK863 := zkb BK863 hb; replace BK864 := zkb BK864 hb; replace BK865 := zkb BK865 hb; replace BK866 := zkb BK866 hb; replace HB := zkB HB hb; (try clear hb)) | ((with_reducible refine gtc 118 rfl ?_); refine zgL 22 Try.func118 (span_none.calls  t876 t877 t878 _ A34.out) (h := ?_); rintro w36 hb; replace BK863 := zkb BK863 hb; replace BK864 := zkb BK864 hb; replace BK865 := zkb BK865 hb; replace BK866 := zkb BK866 hb; replace HB := zkB HB hb; (try clear hb); obtain ⟨_, _, _, _, _, _⟩ := zs3 NB865_863 NB865_864 NB865_866; obtain ⟨z40_0, z40_1, z40_2, f40_0, f40_1, f40_2⟩ := zq3 BK865; obtain ⟨_, _, _, _⟩ := zs2 NB866_863 NB866_864; obtain ⟨z43_0, z43_1, z43_2, f43_0, f43_1, f43_2⟩ := zq3 BK866))
    refine bodyPost_ret (results_cc rfl _ _ gb865 gb866 43 43 #[.bool t873, .int .u64 t874, .int .u64 t875] #[.bool t876, .int .u64 t877, .int .u64 t878] (0, 0) (0, 0) _ _ rfl (zkf (zkf (zkf (blk_put (cs := #[.bool t873, .int .u64 t874, .int .u64 0]) (blk_put (cs := #[.bool t873, .int .u64 0, .int .u64 0]) (blk_put (zkq BK865) 0 _ rfl) 1 _ rfl) 2 _ rfl) NB865_866.out _) NB865_866.out _) NB865_866.out _) Try.underlying43 rfl (by kernel_rfl) rfl (blk_put (cs := #[.bool t876, .int .u64 t877, .int .u64 0]) (blk_put (cs := #[.bool t876, .int .u64 0, .int .u64 0]) (blk_put (zkf (zkf (zkf (zkq BK866) NB866_865.out _) NB866_865.out _) NB866_865.out _) 0 _ rfl) 1 _ rfl) 2 _ rfl) Try.underlying43 rfl (by kernel_rfl)) rfl ?_
    exact ⟨zaE, zaB⟩
   replace c32 := Bool.eq_false_iff.mpr c32
   subst c32
   replace H := zif H
   have HC44 := Aside0.mk H
   clear H
   try go_wp2
   replace BK863 := Aside0.mk (blk_drew BK863.out)
   replace BK864 := Aside0.mk (blk_drew BK864.out)
   replace BK865 := Aside0.mk (blk_drew BK865.out)
   replace BK866 := Aside0.mk (blk_drew BK866.out)
   replace HB := Aside0.mk (below_drew1 HB.out)
   refine start_ (n := 6) (S := fun w' => w'.cell? ⟨gb863, 0, none⟩ = some (.bool t867) ∧ w'.cell? ⟨gb863, 1, none⟩ = some (.int .u64 t868) ∧ w'.cell? ⟨gb863, 2, none⟩ = some (.int .u64 t869) ∧ w'.cell? ⟨gb864, 0, none⟩ = some (.bool t870) ∧ w'.cell? ⟨gb864, 1, none⟩ = some (.int .u64 t871) ∧ w'.cell? ⟨gb864, 2, none⟩ = some (.int .u64 t872)) (ds := []) #[false, false, false, false, false, false] (by kernel_rfl) rfl rfl (zk3 BK863 (ze3 BK864)) (fun hHeld => ?_)
   generalize wc.drew = w45 at BK863 BK864 BK865 BK866 HB hHeld ⊢
   refine take_ (i := 0) (N := some 23) (v := ?_) (a' := ?_) #[true, false, false, false, false, false] rfl rfl (by kernel_rfl) (fun _ _ _ h => h) (Or.inl ⟨by rfl, ?_⟩) hHeld ?_ ?_
   rotate_left
   ·rintro w' ⟨s0, s1, s2, s3, s4, s5⟩
    go_simp
    with_reducible rfl
   rotate_left
   ·simp only [Act.put, List.setIfInBounds_toArray, List.set_cons_zero, List.set_cons_succ, i64_w, i32_w]
    rfl
   refine take_ (i := 1) (N := some 24) (v := ?_) (a' := ?_) #[true, true, false, false, false, false] rfl rfl (by kernel_rfl) (fun _ _ _ h => h) (Or.inl ⟨by rfl, ?_⟩) hHeld ?_ ?_
   rotate_left
   ·rintro w' ⟨s0, s1, s2, s3, s4, s5⟩
    go_simp
    with_reducible rfl
   rotate_left
   ·simp only [Act.put, List.setIfInBounds_toArray, List.set_cons_zero, List.set_cons_succ, i64_w, i32_w]
    rfl
   refine join_ (σ := Nat × Nat) 2 #[true, true, true, true, false, false] (fun s_ => [(8, .pointer (some ⟨s_.1, 0, none⟩)), (9, .pointer (some ⟨s_.2, 0, none⟩))]) (fun s_ w' => (w'.cell? ⟨gb863, 0, none⟩ = some (.bool t867) ∧ w'.cell? ⟨gb863, 1, none⟩ = some (.int .u64 t868) ∧ w'.cell? ⟨gb863, 2, none⟩ = some (.int .u64 t869) ∧ w'.cell? ⟨gb864, 0, none⟩ = some (.bool t870) ∧ w'.cell? ⟨gb864, 1, none⟩ = some (.int .u64 t871) ∧ w'.cell? ⟨gb864, 2, none⟩ = some (.int .u64 t872)) ∧ (w'.heap[gb863]? = some (.cells #[.bool t867, .int .u64 t868, .int .u64 t869] 43 (0, 0))) ∧ (w'.heap[gb864]? = some (.cells #[.bool t870, .int .u64 t871, .int .u64 t872] 43 (0, 0))) ∧ (w'.heap[gb865]? = some (.cells #[.bool false, .int .u64 0, .int .u64 0] 43 (0, 0))) ∧ (w'.heap[gb866]? = some (.cells #[.bool false, .int .u64 0, .int .u64 0] 43 (0, 0))) ∧ (w'.heap[s_.1]? = some (.cells #[.bool false, .int .u64 0, .int .u64 0] 43 (0, 0))) ∧ (w'.heap[s_.2]? = some (.cells #[.bool false, .int .u64 0, .int .u64 0] 43 (0, 0))) ∧ (w.heap.size ≤ s_.1) ∧ (w.heap.size ≤ s_.1) ∧ (gb863 ≠ s_.1) ∧ (s_.1 ≠ gb863) ∧ (gb864 ≠ s_.1) ∧ (s_.1 ≠ gb864) ∧ (gb865 ≠ s_.1) ∧ (s_.1 ≠ gb865) ∧ (gb866 ≠ s_.1) ∧ (s_.1 ≠ gb866) ∧ (s_.2 ≠ s_.1) ∧ (s_.1 ≠ s_.2) ∧ (w.heap.size ≤ s_.2) ∧ (w.heap.size ≤ s_.2) ∧ (gb863 ≠ s_.2) ∧ (s_.2 ≠ gb863) ∧ (gb864 ≠ s_.2) ∧ (s_.2 ≠ gb864) ∧ (gb865 ≠ s_.2) ∧ (s_.2 ≠ gb865) ∧ (gb866 ≠ s_.2) ∧ (s_.2 ≠ gb866) ∧ (Below w.heap.size w w')) ?_ ?_
   rotate_left
   ·intro hCont
    refine two_ (i := 2) (j := 3) (Ni := some 8) (Nj := some 9) #[true, true, true, false, false, false] #[true, true, false, true, false, false] rfl rfl rfl rfl (by kernel_rfl) (by decide) (by decide) (fun K hK => ?_) (fun K hK => ?_)
    ·skip
     refine box_step ?hg (N := 8) ?hd (cs := #[.bool false, .int .u64 0, .int .u64 0]) (t := 43) ?hr ?_; (case hd => rfl); (case hg => rfl); (case hr => first | (go_simp; done) | (go_simp; rfl))
     intro gb879 hg w46 hbox hb
     have GW879 := zkz HB hg
     have NB863_879 := zkl BK863 hg
     have NB879_863 := zkr BK863 hg
     have NB864_879 := zkl BK864 hg
     have NB879_864 := zkr BK864 hg
     have NB865_879 := zkl BK865 hg
     have NB879_865 := zkr BK865 hg
     have NB866_879 := zkl BK866 hg
     have NB879_866 := zkr BK866 hg
     replace BK863 := zkb BK863 hb
     replace BK864 := zkb BK864 hb
     replace BK865 := zkb BK865 hb
     replace BK866 := zkb BK866 hb
     replace HB := zkB HB hb
     have BK879 := Aside0.mk (hbox)
     clear hb hbox hg
     refine hK.out _ _ (zk3 BK863 (ze3 BK864)) (fun hHeld => ?_)
     clear hK K
     refine znA 8 (h := ?_)
     refine one_ (i := 3) (N := some 9) #[true, true, true, true, false, false] rfl rfl (by kernel_rfl) (by decide) (fun K hK => ?_)
     refine box_step ?hg (N := 9) ?hd (cs := #[.bool false, .int .u64 0, .int .u64 0]) (t := 43) ?hr ?_; (case hd => rfl); (case hg => rfl); (case hr => first | (go_simp; done) | (go_simp; rfl))
     intro gb880 hg w47 hbox hb
     have GW880 := zkz HB hg
     have NB863_880 := zkl BK863 hg
     have NB880_863 := zkr BK863 hg
     have NB864_880 := zkl BK864 hg
     have NB880_864 := zkr BK864 hg
     have NB865_880 := zkl BK865 hg
     have NB880_865 := zkr BK865 hg
     have NB866_880 := zkl BK866 hg
     have NB880_866 := zkr BK866 hg
     have NB879_880 := zkl BK879 hg
     have NB880_879 := zkr BK879 hg
     replace BK863 := zkb BK863 hb
     replace BK864 := zkb BK864 hb
     replace BK865 := zkb BK865 hb
     replace BK866 := zkb BK866 hb
     replace BK879 := zkb BK879 hb
     replace HB := zkB HB hb
     have BK880 := Aside0.mk (hbox)
     clear hb hbox hg
     refine hK.out _ _ (zk3 BK863 (ze3 BK864)) (fun hHeld => ?_)
     clear hK K
     refine znA 9 (h := ?_)
     exact norm_ (by simp only [putAll, Act.put, List.setIfInBounds_toArray, List.set_cons_zero, List.set_cons_succ]) (hCont (gb879, gb880) _ ⟨hHeld, (zkq BK863), (zkq BK864), (zkq BK865), (zkq BK866), (zkq BK879), (zkq BK880), GW879.out, GW879.out, NB863_879.out, NB879_863.out, NB864_879.out, NB879_864.out, NB865_879.out, NB879_865.out, NB866_879.out, NB879_866.out, NB880_879.out, NB879_880.out, GW880.out, GW880.out, NB863_880.out, NB880_863.out, NB864_880.out, NB880_864.out, NB865_880.out, NB880_865.out, NB866_880.out, NB880_866.out, zaB⟩)
    skip
    refine box_step ?hg (N := 9) ?hd (cs := #[.bool false, .int .u64 0, .int .u64 0]) (t := 43) ?hr ?_; (case hd => rfl); (case hg => rfl); (case hr => first | (go_simp; done) | (go_simp; rfl))
    intro gb880 hg w46 hbox hb
    have GW880 := zkz HB hg
    have NB863_880 := zkl BK863 hg
    have NB880_863 := zkr BK863 hg
    have NB864_880 := zkl BK864 hg
    have NB880_864 := zkr BK864 hg
    have NB865_880 := zkl BK865 hg
    have NB880_865 := zkr BK865 hg
    have NB866_880 := zkl BK866 hg
    have NB880_866 := zkr BK866 hg
    replace BK863 := zkb BK863 hb
    replace BK864 := zkb BK864 hb
    replace BK865 := zkb BK865 hb
    replace BK866 := zkb BK866 hb
    replace HB := zkB HB hb
    have BK880 := Aside0.mk (hbox)
    clear hb hbox hg
    refine hK.out _ _ (zk3 BK863 (ze3 BK864)) (fun hHeld => ?_)
    clear hK K
    refine znA 9 (h := ?_)
    refine one_ (i := 2) (N := some 8) #[true, true, true, true, false, false] rfl rfl (by kernel_rfl) (by decide) (fun K hK => ?_)
    refine box_step ?hg (N := 8) ?hd (cs := #[.bool false, .int .u64 0, .int .u64 0]) (t := 43) ?hr ?_; (case hd => rfl); (case hg => rfl); (case hr => first | (go_simp; done) | (go_simp; rfl))
    intro gb879 hg w47 hbox hb
    have GW879 := zkz HB hg
    have NB863_879 := zkl BK863 hg
    have NB879_863 := zkr BK863 hg
    have NB864_879 := zkl BK864 hg
    have NB879_864 := zkr BK864 hg
    have NB865_879 := zkl BK865 hg
    have NB879_865 := zkr BK865 hg
    have NB866_879 := zkl BK866 hg
    have NB879_866 := zkr BK866 hg
    have NB880_879 := zkl BK880 hg
    have NB879_880 := zkr BK880 hg
    replace BK863 := zkb BK863 hb
    replace BK864 := zkb BK864 hb
    replace BK865 := zkb BK865 hb
    replace BK866 := zkb BK866 hb
    replace BK880 := zkb BK880 hb
    replace HB := zkB HB hb
    have BK879 := Aside0.mk (hbox)
    clear hb hbox hg
    refine hK.out _ _ (zk3 BK863 (ze3 BK864)) (fun hHeld => ?_)
    clear hK K
    refine znA 8 (h := ?_)
    exact norm_ (by simp only [putAll, Act.put, List.setIfInBounds_toArray, List.set_cons_zero, List.set_cons_succ]) (hCont (gb879, gb880) _ ⟨hHeld, (zkq BK863), (zkq BK864), (zkq BK865), (zkq BK866), (zkq BK879), (zkq BK880), GW879.out, GW879.out, NB863_879.out, NB879_863.out, NB864_879.out, NB879_864.out, NB865_879.out, NB879_865.out, NB866_879.out, NB879_866.out, NB880_879.out, NB879_880.out, GW880.out, GW880.out, NB863_880.out, NB880_863.out, NB864_880.out, NB880_864.out, NB865_880.out, NB880_865.out, NB866_880.out, NB880_866.out, zaB⟩)
   rintro ⟨gb879, gb880⟩ w48 ⟨hS_, h0_, h1_, h2_, h3_, h4_, h5_, h6_, h7_, h8_, h9_, h10_, h11_, h12_, h13_, h14_, h15_, h16_, h17_, h18_, h19_, h20_, h21_, h22_, h23_, h24_, h25_, h26_, h27_, h28_⟩
   have n0_ : Aside0 (w48.heap[gb863]? = some (.cells #[.bool t867, .int .u64 t868, .int .u64 t869] 43 (0, 0))) := ⟨h0_⟩
   have n1_ : Aside0 (w48.heap[gb864]? = some (.cells #[.bool t870, .int .u64 t871, .int .u64 t872] 43 (0, 0))) := ⟨h1_⟩
   have n2_ : Aside0 (w48.heap[gb865]? = some (.cells #[.bool false, .int .u64 0, .int .u64 0] 43 (0, 0))) := ⟨h2_⟩
   have n3_ : Aside0 (w48.heap[gb866]? = some (.cells #[.bool false, .int .u64 0, .int .u64 0] 43 (0, 0))) := ⟨h3_⟩
   have n4_ : Aside0 (w48.heap[gb879]? = some (.cells #[.bool false, .int .u64 0, .int .u64 0] 43 (0, 0))) := ⟨h4_⟩
   have n5_ : Aside0 (w48.heap[gb880]? = some (.cells #[.bool false, .int .u64 0, .int .u64 0] 43 (0, 0))) := ⟨h5_⟩
   have n6_ : Aside0 (w.heap.size ≤ gb879) := ⟨h6_⟩
   have n7_ : Aside0 (w.heap.size ≤ gb879) := ⟨h7_⟩
   have n8_ : Aside0 (gb863 ≠ gb879) := ⟨h8_⟩
   have n9_ : Aside0 (gb879 ≠ gb863) := ⟨h9_⟩
   have n10_ : Aside0 (gb864 ≠ gb879) := ⟨h10_⟩
   have n11_ : Aside0 (gb879 ≠ gb864) := ⟨h11_⟩
   have n12_ : Aside0 (gb865 ≠ gb879) := ⟨h12_⟩
   have n13_ : Aside0 (gb879 ≠ gb865) := ⟨h13_⟩
   have n14_ : Aside0 (gb866 ≠ gb879) := ⟨h14_⟩
   have n15_ : Aside0 (gb879 ≠ gb866) := ⟨h15_⟩
   have n16_ : Aside0 (gb880 ≠ gb879) := ⟨h16_⟩
   have n17_ : Aside0 (gb879 ≠ gb880) := ⟨h17_⟩
   have n18_ : Aside0 (w.heap.size ≤ gb880) := ⟨h18_⟩
   have n19_ : Aside0 (w.heap.size ≤ gb880) := ⟨h19_⟩
   have n20_ : Aside0 (gb863 ≠ gb880) := ⟨h20_⟩
   have n21_ : Aside0 (gb880 ≠ gb863) := ⟨h21_⟩
   have n22_ : Aside0 (gb864 ≠ gb880) := ⟨h22_⟩
   have n23_ : Aside0 (gb880 ≠ gb864) := ⟨h23_⟩
   have n24_ : Aside0 (gb865 ≠ gb880) := ⟨h24_⟩
   have n25_ : Aside0 (gb880 ≠ gb865) := ⟨h25_⟩
   have n26_ : Aside0 (gb866 ≠ gb880) := ⟨h26_⟩
   have n27_ : Aside0 (gb880 ≠ gb866) := ⟨h27_⟩
   have n28_ : Aside0 (Below w.heap.size w w48) := ⟨h28_⟩
   clear BK863
   clear BK864
   clear BK865
   clear BK866
   clear HB
   clear h0_ h1_ h2_ h3_ h4_ h5_ h6_ h7_ h8_ h9_ h10_ h11_ h12_ h13_ h14_ h15_ h16_ h17_ h18_ h19_ h20_ h21_ h22_ h23_ h24_ h25_ h26_ h27_ h28_
   have BK863 := n0_
   have BK864 := n1_
   have BK865 := n2_
   have BK866 := n3_
   have BK879 := n4_
   have BK880 := n5_
   have GW879 := n6_
   have GW879 := n7_
   have NB863_879 := n8_
   have NB879_863 := n9_
   have NB864_879 := n10_
   have NB879_864 := n11_
   have NB865_879 := n12_
   have NB879_865 := n13_
   have NB866_879 := n14_
   have NB879_866 := n15_
   have NB880_879 := n16_
   have NB879_880 := n17_
   have GW880 := n18_
   have GW880 := n19_
   have NB863_880 := n20_
   have NB880_863 := n21_
   have NB864_880 := n22_
   have NB880_864 := n23_
   have NB865_880 := n24_
   have NB880_865 := n25_
   have NB866_880 := n26_
   have NB880_866 := n27_
   have HB := n28_
   clear n0_ n1_ n2_ n3_ n4_ n5_ n6_ n7_ n8_ n9_ n10_ n11_ n12_ n13_ n14_ n15_ n16_ n17_ n18_ n19_ n20_ n21_ n22_ n23_ n24_ n25_ n26_ n27_ n28_
   have hHeld : w48.cell? ⟨gb863, 0, none⟩ = some (.bool t867) ∧ w48.cell? ⟨gb863, 1, none⟩ = some (.int .u64 t868) ∧ w48.cell? ⟨gb863, 2, none⟩ = some (.int .u64 t869) ∧ w48.cell? ⟨gb864, 0, none⟩ = some (.bool t870) ∧ w48.cell? ⟨gb864, 1, none⟩ = some (.int .u64 t871) ∧ w48.cell? ⟨gb864, 2, none⟩ = some (.int .u64 t872) := hS_
   refine norm_ (a' := ?_) ?_ ?_
   rotate_left
   ·simp only [putAll, Act.put, List.setIfInBounds_toArray, List.set_cons_zero, List.set_cons_succ]
    rfl
   refine one_ (i := 4) (N := none) #[true, true, true, true, true, false] rfl rfl (by kernel_rfl) (by decide) (fun K hK => ?_)
   have hs49 := zc0 BK879
   have hfs49 := blk_frozen BK879.out 0
   obtain ⟨_, _, _, _, _, _, _, _, _, _⟩ := zs5 NB863_879 NB864_879 NB865_879 NB866_879 NB880_879
   have hs50 := zc1 BK879
   have hfs50 := blk_frozen BK879.out 1
   obtain ⟨_, _, _, _, _, _, _, _, _, _⟩ := zs5 NB863_879 NB864_879 NB865_879 NB866_879 NB880_879
   have hs51 := zc2 BK879
   have hfs51 := blk_frozen BK879.out 2
   obtain ⟨_, _, _, _, _, _, _, _, _, _⟩ := zs5 NB863_879 NB864_879 NB865_879 NB866_879 NB880_879
   refine skip_ (w1 := ?_) (by rfl) rfl ?_ ?_
   rotate_left
   ·go_simp
    rfl
   refine hK.out _ _ ⟨(zff NB863_879 (zff NB863_879 (zff NB863_879 hHeld.1))), (zff NB863_879 (zff NB863_879 (zff NB863_879 hHeld.2.1))), (zff NB863_879 (zff NB863_879 (zff NB863_879 hHeld.2.2.1))), (zff NB864_879 (zff NB864_879 (zff NB864_879 hHeld.2.2.2.1))), (zff NB864_879 (zff NB864_879 (zff NB864_879 hHeld.2.2.2.2.1))), (zff NB864_879 (zff NB864_879 (zff NB864_879 hHeld.2.2.2.2.2)))⟩ (fun hHeld => ?_)
   clear hK K
   refine one_ (i := 5) (N := none) #[true, true, true, true, true, true] rfl rfl (by kernel_rfl) (by decide) (fun K hK => ?_)
   have hs52 := zc0 BK880
   have hfs52 := blk_frozen BK880.out 0
   obtain ⟨_, _, _, _, _, _, _, _, _, _⟩ := zs5 NB863_880 NB864_880 NB865_880 NB866_880 NB879_880
   have hs53 := zc1 BK880
   have hfs53 := blk_frozen BK880.out 1
   obtain ⟨_, _, _, _, _, _, _, _, _, _⟩ := zs5 NB863_880 NB864_880 NB865_880 NB866_880 NB879_880
   have hs54 := zc2 BK880
   have hfs54 := blk_frozen BK880.out 2
   obtain ⟨_, _, _, _, _, _, _, _, _, _⟩ := zs5 NB863_880 NB864_880 NB865_880 NB866_880 NB879_880
   refine skip_ (w1 := ?_) (by rfl) rfl ?_ ?_
   rotate_left
   ·go_simp
    rfl
   refine hK.out _ _ ⟨(zff NB863_880 (zff NB863_880 (zff NB863_880 hHeld.1))), (zff NB863_880 (zff NB863_880 (zff NB863_880 hHeld.2.1))), (zff NB863_880 (zff NB863_880 (zff NB863_880 hHeld.2.2.1))), (zff NB864_880 (zff NB864_880 (zff NB864_880 hHeld.2.2.2.1))), (zff NB864_880 (zff NB864_880 (zff NB864_880 hHeld.2.2.2.2.1))), (zff NB864_880 (zff NB864_880 (zff NB864_880 hHeld.2.2.2.2.2)))⟩ (fun hHeld => ?_)
   clear hK K
   refine done_ (by kernel_rfl) ?_
   go_upto_region 5 with (fail)
   go_cut [10] (fun v10 wc => ∃ (kq : Nat) (x10_43 : Bool), v10 = .bool x10_43 ∧ Aside0 (span_Test.j1 kq a0 x10_43 t867 t868 t869 t870 t871 t872 t867 t868 t869 t870 t871 t872 = some (r1, r2, r3, r4, r5, r6)) ∧ Aside0 (kq ≤ kj5) ∧ Aside0 (wc.heap[gb863]? = some (.cells #[.bool t867, .int .u64 t868, .int .u64 t869] 43 (0, 0))) ∧ Aside0 (wc.heap[gb864]? = some (.cells #[.bool t870, .int .u64 t871, .int .u64 t872] 43 (0, 0))) ∧ Aside0 (wc.heap[gb865]? = some (.cells #[.bool false, .int .u64 0, .int .u64 0] 43 (0, 0))) ∧ Aside0 (wc.heap[gb866]? = some (.cells #[.bool false, .int .u64 0, .int .u64 0] 43 (0, 0))) ∧ Aside0 (wc.heap[gb879]? = some (.cells #[.bool t867, .int .u64 t868, .int .u64 t869] 43 (0, 0))) ∧ Aside0 (wc.heap[gb880]? = some (.cells #[.bool t870, .int .u64 t871, .int .u64 t872] 43 (0, 0))) ∧ Aside0 (Below w.heap.size w wc))
   case first =>
    have H := HC44.out
    clear HC44
    by_cases c55 : a0 = 9
    ·rw [if_pos c55] at H
     have c55b0 : (a0 == 9) = true := beq_iff_eq.mpr c55
     have c55b1 : (a0 != 9) = false := bne_eq_false_iff_eq.mpr c55
     clear c55
     (first | rw [c55b0] | (simp only [i64_w, i32_w]; rw [c55b0]) | skip)
     have H' := Aside0.mk H
     clear H
     go_wp2
     go_meet
     case rel => exact ⟨_, (true), zrl, H', ⟨by have := HJ5.out; first | omega | exact Nat.le_refl _⟩, ⟨(zkf (zkf (zkf (zkf (zkf (zkf (zkq BK863) NB863_879.out _) NB863_879.out _) NB863_879.out _) NB863_880.out _) NB863_880.out _) NB863_880.out _)⟩, ⟨(zkf (zkf (zkf (zkf (zkf (zkf (zkq BK864) NB864_879.out _) NB864_879.out _) NB864_879.out _) NB864_880.out _) NB864_880.out _) NB864_880.out _)⟩, ⟨(zkf (zkf (zkf (zkf (zkf (zkf (zkq BK865) NB865_879.out _) NB865_879.out _) NB865_879.out _) NB865_880.out _) NB865_880.out _) NB865_880.out _)⟩, ⟨(zkf (zkf (zkf (zkf (zkf (zkf (zkq BK866) NB866_879.out _) NB866_879.out _) NB866_879.out _) NB866_880.out _) NB866_880.out _) NB866_880.out _)⟩, ⟨(zkf (zkf (zkf (blk_put (cs := #[.bool t867, .int .u64 t868, .int .u64 0]) (blk_put (cs := #[.bool t867, .int .u64 0, .int .u64 0]) (blk_put (zkq BK879) 0 _ rfl) 1 _ rfl) 2 _ rfl) NB879_880.out _) NB879_880.out _) NB879_880.out _)⟩, ⟨(blk_put (cs := #[.bool t870, .int .u64 t871, .int .u64 0]) (blk_put (cs := #[.bool t870, .int .u64 0, .int .u64 0]) (blk_put (zkf (zkf (zkf (zkq BK880) NB880_879.out _) NB880_879.out _) NB880_879.out _) 0 _ rfl) 1 _ rfl) 2 _ rfl)⟩, ⟨zaB⟩⟩
    rw [if_neg c55] at H
    have c55b0 : (a0 == 9) = false := beq_eq_false_iff_ne.mpr c55
    have c55b1 : (a0 != 9) = true := bne_iff_ne.mpr c55
    (first | rw [c55b0] | (simp only [i64_w, i32_w]; rw [c55b0]) | skip)
    have H' := Aside0.mk H
    clear H
    go_wp2
    go_meet
    case rel => exact ⟨_, ((a0 == 13)), zrl, H', ⟨by have := HJ5.out; first | omega | exact Nat.le_refl _⟩, ⟨(zkf (zkf (zkf (zkf (zkf (zkf (zkq BK863) NB863_879.out _) NB863_879.out _) NB863_879.out _) NB863_880.out _) NB863_880.out _) NB863_880.out _)⟩, ⟨(zkf (zkf (zkf (zkf (zkf (zkf (zkq BK864) NB864_879.out _) NB864_879.out _) NB864_879.out _) NB864_880.out _) NB864_880.out _) NB864_880.out _)⟩, ⟨(zkf (zkf (zkf (zkf (zkf (zkf (zkq BK865) NB865_879.out _) NB865_879.out _) NB865_879.out _) NB865_880.out _) NB865_880.out _) NB865_880.out _)⟩, ⟨(zkf (zkf (zkf (zkf (zkf (zkf (zkq BK866) NB866_879.out _) NB866_879.out _) NB866_879.out _) NB866_880.out _) NB866_880.out _) NB866_880.out _)⟩, ⟨(zkf (zkf (zkf (blk_put (cs := #[.bool t867, .int .u64 t868, .int .u64 0]) (blk_put (cs := #[.bool t867, .int .u64 0, .int .u64 0]) (blk_put (zkq BK879) 0 _ rfl) 1 _ rfl) 2 _ rfl) NB879_880.out _) NB879_880.out _) NB879_880.out _)⟩, ⟨(blk_put (cs := #[.bool t870, .int .u64 t871, .int .u64 0]) (blk_put (cs := #[.bool t870, .int .u64 0, .int .u64 0]) (blk_put (zkf (zkf (zkf (zkq BK880) NB880_879.out _) NB880_879.out _) NB880_879.out _) 0 _ rfl) 1 _ rfl) 2 _ rfl)⟩, ⟨zaB⟩⟩
   case rest =>
    clear HC44
    try clear c1
    try clear c2
    try clear p2
    try clear c3
    try clear c4
    try clear c5
    try clear c11
    try clear c20
    try clear c21
    try clear c22
    try clear c23
    try clear c25
    try clear c26
    try clear c27
    try clear c29
    try clear c30
    try clear c32
    try clear c37
    try clear c38
    try clear c39
    try clear c41
    try clear c42
    try clear c55
    try clear c55b0
    try clear c55b1
    try clear z24_0 z24_1 z24_2 f24_0 f24_1 f24_2
    try clear z28_0 z28_1 z28_2 f28_0 f28_1 f28_2
    try clear z31_0 z31_1 z31_2 f31_0 f31_1 f31_2
    try clear z40_0 z40_1 z40_2 f40_0 f40_1 f40_2
    try clear z43_0 z43_1 z43_2 f43_0 f43_1 f43_2
    try clear p2
    obtain ⟨kq, x10_43, rfl, HA, HJ43, BK863, BK864, BK865, BK866, BK879, BK880, HB⟩ := hcut
    cases kq with
    | zero => exact absurd HA.out (by simp [span_Test.j1])
    | succ kj43 =>
     have H := HA.out
     clear HA
     simp only [span_Test.j1] at H
     have HC56 := Aside0.mk H
     clear H
     go_upto_block 0 with (fail)
     go_cut [] (fun wc => ∃ (kq : Nat) (x880000_55 : Bool) (x880001_55 : Int) (x880002_55 : Int) (x881000_55 : Bool) (x881001_55 : Int) (x881002_55 : Int), Aside0 (span_Test.j4 kq x880000_55 x880001_55 x880002_55 x881000_55 x881001_55 x881002_55 = some (r1, r2, r3, r4, r5, r6)) ∧ Aside0 (kq ≤ kj43) ∧ Aside0 (wc.heap[gb863]? = some (.cells #[.bool t867, .int .u64 t868, .int .u64 t869] 43 (0, 0))) ∧ Aside0 (wc.heap[gb864]? = some (.cells #[.bool t870, .int .u64 t871, .int .u64 t872] 43 (0, 0))) ∧ Aside0 (wc.heap[gb865]? = some (.cells #[.bool false, .int .u64 0, .int .u64 0] 43 (0, 0))) ∧ Aside0 (wc.heap[gb866]? = some (.cells #[.bool false, .int .u64 0, .int .u64 0] 43 (0, 0))) ∧ Aside0 (wc.heap[gb879]? = some (.cells #[.bool x880000_55, .int .u64 x880001_55, .int .u64 x880002_55] 43 (0, 0))) ∧ Aside0 (wc.heap[gb880]? = some (.cells #[.bool x881000_55, .int .u64 x881001_55, .int .u64 x881002_55] 43 (0, 0))) ∧ Aside0 (Below w.heap.size w wc))
     case first =>
      have H := HC56.out
      clear HC56
      have HC57 := Aside0.mk H
      clear H
      go_upto_if 32 with (fail)
      go_cut [32] (fun v32 wc => ∃ (kq : Nat) (x32_56 : Bool), v32 = .bool x32_56 ∧ Aside0 (span_Test.j2 kq x10_43 a0 x32_56 t867 t868 t869 t870 t871 t872 t867 t868 t869 t870 t871 t872 = some (r1, r2, r3, r4, r5, r6)) ∧ Aside0 (kq ≤ kj43) ∧ Aside0 (wc.heap[gb863]? = some (.cells #[.bool t867, .int .u64 t868, .int .u64 t869] 43 (0, 0))) ∧ Aside0 (wc.heap[gb864]? = some (.cells #[.bool t870, .int .u64 t871, .int .u64 t872] 43 (0, 0))) ∧ Aside0 (wc.heap[gb865]? = some (.cells #[.bool false, .int .u64 0, .int .u64 0] 43 (0, 0))) ∧ Aside0 (wc.heap[gb866]? = some (.cells #[.bool false, .int .u64 0, .int .u64 0] 43 (0, 0))) ∧ Aside0 (wc.heap[gb879]? = some (.cells #[.bool t867, .int .u64 t868, .int .u64 t869] 43 (0, 0))) ∧ Aside0 (wc.heap[gb880]? = some (.cells #[.bool t870, .int .u64 t871, .int .u64 t872] 43 (0, 0))) ∧ Aside0 (Below w.heap.size w wc))
      case first =>
       have H := HC57.out
       clear HC57
       by_cases c58 : a0 = 9
       ·rw [if_pos c58] at H
        have c58b0 : (a0 == 9) = true := beq_iff_eq.mpr c58
        have c58b1 : (a0 != 9) = false := bne_eq_false_iff_eq.mpr c58
        clear c58
        (first | rw [c58b0] | (simp only [i64_w, i32_w]; rw [c58b0]) | skip)
        have H' := Aside0.mk H
        clear H
        go_wp2
        go_meet
        case rel => exact ⟨_, ((a0 == 9)), zrl, H', ⟨by have := HJ5.out; have := HJ43.out; first | omega | exact Nat.le_refl _⟩, ⟨zkq BK863⟩, ⟨zkq BK864⟩, ⟨zkq BK865⟩, ⟨zkq BK866⟩, ⟨zkq BK879⟩, ⟨zkq BK880⟩, ⟨zaB⟩⟩
       rw [if_neg c58] at H
       have c58b0 : (a0 == 9) = false := beq_eq_false_iff_ne.mpr c58
       have c58b1 : (a0 != 9) = true := bne_iff_ne.mpr c58
       (first | rw [c58b0] | (simp only [i64_w, i32_w]; rw [c58b0]) | skip)
       have H' := Aside0.mk H
       clear H
       go_wp2
       go_meet
       case rel => exact ⟨_, ((a0 == 10)), zrl, H', ⟨by have := HJ5.out; have := HJ43.out; first | omega | exact Nat.le_refl _⟩, ⟨zkq BK863⟩, ⟨zkq BK864⟩, ⟨zkq BK865⟩, ⟨zkq BK866⟩, ⟨zkq BK879⟩, ⟨zkq BK880⟩, ⟨zaB⟩⟩
      case rest =>
       clear HC57
       try clear c1
       try clear c2
       try clear p2
       try clear c3
       try clear c4
       try clear c5
       try clear c11
       try clear c20
       try clear c21
       try clear c22
       try clear c23
       try clear c25
       try clear c26
       try clear c27
       try clear c29
       try clear c30
       try clear c32
       try clear c37
       try clear c38
       try clear c39
       try clear c41
       try clear c42
       try clear c55
       try clear c55b0
       try clear c55b1
       try clear c58
       try clear c58b0
       try clear c58b1
       try clear z24_0 z24_1 z24_2 f24_0 f24_1 f24_2
       try clear z28_0 z28_1 z28_2 f28_0 f28_1 f28_2
       try clear z31_0 z31_1 z31_2 f31_0 f31_1 f31_2
       try clear z40_0 z40_1 z40_2 f40_0 f40_1 f40_2
       try clear z43_0 z43_1 z43_2 f43_0 f43_1 f43_2
       try clear p2
       obtain ⟨kq, x32_56, rfl, HA, HJ56, BK863, BK864, BK865, BK866, BK879, BK880, HB⟩ := hcut
       cases kq with
       | zero => exact absurd HA.out (by simp [span_Test.j2])
       | succ kj56 =>
        have H := HA.out
        clear HA
        simp only [span_Test.j2] at H
        by_cases c59 : x32_56 = true
        ·subst c59
         replace H := zit H
         obtain ⟨⟨t881, t882, t883⟩, A60, H⟩ := zbs H
         try dsimp only at H
         obtain ⟨⟨t884, t885, t886⟩, A61, H⟩ := zbs H
         try dsimp only at H
         have H' := Aside0.mk H
         clear H
         try go_wp2
         replace BK863 := Aside0.mk (blk_drew BK863.out)
         replace BK864 := Aside0.mk (blk_drew BK864.out)
         replace BK865 := Aside0.mk (blk_drew BK865.out)
         replace BK866 := Aside0.mk (blk_drew BK866.out)
         replace BK879 := Aside0.mk (blk_drew BK879.out)
         replace BK880 := Aside0.mk (blk_drew BK880.out)
         replace HB := Aside0.mk (below_drew1 HB.out)
         refine start_ (n := 12) (S := fun w' => w'.cell? ⟨gb863, 0, none⟩ = some (.bool t867) ∧ w'.cell? ⟨gb863, 1, none⟩ = some (.int .u64 t868) ∧ w'.cell? ⟨gb863, 2, none⟩ = some (.int .u64 t869) ∧ w'.cell? ⟨gb864, 0, none⟩ = some (.bool t870) ∧ w'.cell? ⟨gb864, 1, none⟩ = some (.int .u64 t871) ∧ w'.cell? ⟨gb864, 2, none⟩ = some (.int .u64 t872)) (ds := []) #[false, false, false, false, false, false, false, false, false, false, false, false] (by kernel_rfl) rfl rfl (zk3 BK863 (ze3 BK864)) (fun hHeld => ?_); refine with_tabW span_Test.tab9 span_Test.bits9 (fun HT_ HW_ => ?_)
         generalize wc.drew = w62 at BK863 BK864 BK865 BK866 BK879 BK880 HB hHeld ⊢
         refine zpA 1 36 (h := ?_)
         refine zpA 3 38 (h := ?_)
         refine zpA 6 41 (h := ?_)
         refine zpA 8 43 (h := ?_)
         refine ztA 0 35 (h := ?_)
         refine ztA 2 37 (h := ?_)
         refine ztA 5 40 (h := ?_)
         refine ztA 7 42 (h := ?_)
         refine zoA 4 39 (h := fun K hK => ?_)
         refine zgA Try.func122 (span_side.calls kj56 t867 t868 t869 t872 false x10_43 t881 t882 t883 _ A60.out) (h := ?_)
         rintro w63 hb
         replace BK863 := zkb BK863 hb
         replace BK864 := zkb BK864 hb
         replace BK865 := zkb BK865 hb
         replace BK866 := zkb BK866 hb
         replace BK879 := zkb BK879 hb
         replace BK880 := zkb BK880 hb
         replace HB := zkB HB hb
         (try clear hb)
         refine hK.out _ _ (zk3 BK863 (ze3 BK864)) (fun hHeld => ?_)
         clear hK K
         refine znA 39 (h := ?_)
         refine zoA 9 44 (h := fun K hK => ?_)
         refine zgA Try.func122 (span_side.calls kj56 t870 t871 t872 t868 true x10_43 t884 t885 t886 _ A61.out) (h := ?_)
         rintro w64 hb
         replace BK863 := zkb BK863 hb
         replace BK864 := zkb BK864 hb
         replace BK865 := zkb BK865 hb
         replace BK866 := zkb BK866 hb
         replace BK879 := zkb BK879 hb
         replace BK880 := zkb BK880 hb
         replace HB := zkB HB hb
         (try clear hb)
         refine hK.out _ _ (zk3 BK863 (ze3 BK864)) (fun hHeld => ?_)
         clear hK K
         refine znA 44 (h := ?_)
         refine one_ (i := 10) (N := none) #[true, true, true, true, true, true, true, true, true, true, true, false] rfl rfl (one_of HT_.out (by kernel_rfl)) (by decide) (fun K hK => ?_)
         have hs65 := zc0 BK879
         have hfs65 := blk_frozen BK879.out 0
         obtain ⟨_, _, _, _, _, _, _, _, _, _⟩ := zs5 NB863_879 NB864_879 NB865_879 NB866_879 NB880_879
         have hs66 := zc1 BK879
         have hfs66 := blk_frozen BK879.out 1
         obtain ⟨_, _, _, _, _, _, _, _, _, _⟩ := zs5 NB863_879 NB864_879 NB865_879 NB866_879 NB880_879
         have hs67 := zc2 BK879
         have hfs67 := blk_frozen BK879.out 2
         obtain ⟨_, _, _, _, _, _, _, _, _, _⟩ := zs5 NB863_879 NB864_879 NB865_879 NB866_879 NB880_879
         refine skip_ (w1 := ?_) (by rfl) rfl ?_ ?_
         rotate_left
         ·go_simp
          rfl
         refine hK.out _ _ ⟨(zff NB863_879 (zff NB863_879 (zff NB863_879 hHeld.1))), (zff NB863_879 (zff NB863_879 (zff NB863_879 hHeld.2.1))), (zff NB863_879 (zff NB863_879 (zff NB863_879 hHeld.2.2.1))), (zff NB864_879 (zff NB864_879 (zff NB864_879 hHeld.2.2.2.1))), (zff NB864_879 (zff NB864_879 (zff NB864_879 hHeld.2.2.2.2.1))), (zff NB864_879 (zff NB864_879 (zff NB864_879 hHeld.2.2.2.2.2)))⟩ (fun hHeld => ?_)
         clear hK K
         refine one_ (i := 11) (N := none) #[true, true, true, true, true, true, true, true, true, true, true, true] rfl rfl (one_of HT_.out (by kernel_rfl)) (by decide) (fun K hK => ?_)
         have hs68 := zc0 BK880
         have hfs68 := blk_frozen BK880.out 0
         obtain ⟨_, _, _, _, _, _, _, _, _, _⟩ := zs5 NB863_880 NB864_880 NB865_880 NB866_880 NB879_880
         have hs69 := zc1 BK880
         have hfs69 := blk_frozen BK880.out 1
         obtain ⟨_, _, _, _, _, _, _, _, _, _⟩ := zs5 NB863_880 NB864_880 NB865_880 NB866_880 NB879_880
         have hs70 := zc2 BK880
         have hfs70 := blk_frozen BK880.out 2
         obtain ⟨_, _, _, _, _, _, _, _, _, _⟩ := zs5 NB863_880 NB864_880 NB865_880 NB866_880 NB879_880
         refine skip_ (w1 := ?_) (by rfl) rfl ?_ ?_
         rotate_left
         ·go_simp
          rfl
         refine hK.out _ _ ⟨(zff NB863_880 (zff NB863_880 (zff NB863_880 hHeld.1))), (zff NB863_880 (zff NB863_880 (zff NB863_880 hHeld.2.1))), (zff NB863_880 (zff NB863_880 (zff NB863_880 hHeld.2.2.1))), (zff NB864_880 (zff NB864_880 (zff NB864_880 hHeld.2.2.2.1))), (zff NB864_880 (zff NB864_880 (zff NB864_880 hHeld.2.2.2.2.1))), (zff NB864_880 (zff NB864_880 (zff NB864_880 hHeld.2.2.2.2.2)))⟩ (fun hHeld => ?_)
         clear hK K
         refine done_ (done_of HT_.out (by kernel_rfl)) ?_
         try go_wp2
         go_meet
         case rel => exact ⟨_, (t881), (t882), (t883), (t884), (t885), (t886), H', ⟨by have := HJ5.out; have := HJ43.out; have := HJ56.out; first | omega | exact Nat.le_refl _⟩, ⟨(zkf (zkf (zkf (zkf (zkf (zkf (zkq BK863) NB863_879.out _) NB863_879.out _) NB863_879.out _) NB863_880.out _) NB863_880.out _) NB863_880.out _)⟩, ⟨(zkf (zkf (zkf (zkf (zkf (zkf (zkq BK864) NB864_879.out _) NB864_879.out _) NB864_879.out _) NB864_880.out _) NB864_880.out _) NB864_880.out _)⟩, ⟨(zkf (zkf (zkf (zkf (zkf (zkf (zkq BK865) NB865_879.out _) NB865_879.out _) NB865_879.out _) NB865_880.out _) NB865_880.out _) NB865_880.out _)⟩, ⟨(zkf (zkf (zkf (zkf (zkf (zkf (zkq BK866) NB866_879.out _) NB866_879.out _) NB866_879.out _) NB866_880.out _) NB866_880.out _) NB866_880.out _)⟩, ⟨(zkf (zkf (zkf (blk_put (cs := #[.bool t881, .int .u64 t882, .int .u64 t869]) (blk_put (cs := #[.bool t881, .int .u64 t868, .int .u64 t869]) (blk_put (zkq BK879) 0 _ rfl) 1 _ rfl) 2 _ rfl) NB879_880.out _) NB879_880.out _) NB879_880.out _)⟩, ⟨(blk_put (cs := #[.bool t884, .int .u64 t885, .int .u64 t872]) (blk_put (cs := #[.bool t884, .int .u64 t871, .int .u64 t872]) (blk_put (zkf (zkf (zkf (zkq BK880) NB880_879.out _) NB880_879.out _) NB880_879.out _) 0 _ rfl) 1 _ rfl) 2 _ rfl)⟩, ⟨zaB⟩⟩
        replace c59 := Bool.eq_false_iff.mpr c59
        subst c59
        replace H := zif H
        have HC71 := Aside0.mk H
        clear H
        go_upto_if 45 with (fail)
        go_cut [45] (fun v45 wc => ∃ (kq : Nat) (x45_70 : Bool), v45 = .bool x45_70 ∧ Aside0 (span_Test.j3 kq x10_43 a0 x45_70 t867 t868 t869 t870 t871 t872 t867 t868 t869 t870 t871 t872 = some (r1, r2, r3, r4, r5, r6)) ∧ Aside0 (kq ≤ kj56) ∧ Aside0 (wc.heap[gb863]? = some (.cells #[.bool t867, .int .u64 t868, .int .u64 t869] 43 (0, 0))) ∧ Aside0 (wc.heap[gb864]? = some (.cells #[.bool t870, .int .u64 t871, .int .u64 t872] 43 (0, 0))) ∧ Aside0 (wc.heap[gb865]? = some (.cells #[.bool false, .int .u64 0, .int .u64 0] 43 (0, 0))) ∧ Aside0 (wc.heap[gb866]? = some (.cells #[.bool false, .int .u64 0, .int .u64 0] 43 (0, 0))) ∧ Aside0 (wc.heap[gb879]? = some (.cells #[.bool t867, .int .u64 t868, .int .u64 t869] 43 (0, 0))) ∧ Aside0 (wc.heap[gb880]? = some (.cells #[.bool t870, .int .u64 t871, .int .u64 t872] 43 (0, 0))) ∧ Aside0 (Below w.heap.size w wc))
        case first =>
         have H := HC71.out
         clear HC71
         by_cases c72 : a0 = 13
         ·rw [if_pos c72] at H
          have c72b0 : (a0 == 13) = true := beq_iff_eq.mpr c72
          have c72b1 : (a0 != 13) = false := bne_eq_false_iff_eq.mpr c72
          clear c72
          (first | rw [c72b0] | (simp only [i64_w, i32_w]; rw [c72b0]) | skip)
          have H' := Aside0.mk H
          clear H
          go_wp2
          go_meet
          case rel => exact ⟨_, ((a0 == 13)), zrl, H', ⟨by have := HJ5.out; have := HJ43.out; have := HJ56.out; first | omega | exact Nat.le_refl _⟩, ⟨zkq BK863⟩, ⟨zkq BK864⟩, ⟨zkq BK865⟩, ⟨zkq BK866⟩, ⟨zkq BK879⟩, ⟨zkq BK880⟩, ⟨zaB⟩⟩
         rw [if_neg c72] at H
         have c72b0 : (a0 == 13) = false := beq_eq_false_iff_ne.mpr c72
         have c72b1 : (a0 != 13) = true := bne_iff_ne.mpr c72
         (first | rw [c72b0] | (simp only [i64_w, i32_w]; rw [c72b0]) | skip)
         have H' := Aside0.mk H
         clear H
         go_wp2
         go_meet
         case rel => exact ⟨_, ((a0 == 14)), zrl, H', ⟨by have := HJ5.out; have := HJ43.out; have := HJ56.out; first | omega | exact Nat.le_refl _⟩, ⟨zkq BK863⟩, ⟨zkq BK864⟩, ⟨zkq BK865⟩, ⟨zkq BK866⟩, ⟨zkq BK879⟩, ⟨zkq BK880⟩, ⟨zaB⟩⟩
        case rest =>
         clear HC71
         try clear c1
         try clear c2
         try clear p2
         try clear c3
         try clear c4
         try clear c5
         try clear c7
         try clear c11
         try clear c12
         try clear c20
         try clear c21
         try clear c22
         try clear c23
         try clear c25
         try clear c26
         try clear c27
         try clear c29
         try clear c30
         try clear c32
         try clear c37
         try clear c38
         try clear c39
         try clear c41
         try clear c42
         try clear c55
         try clear c55b0
         try clear c55b1
         try clear c58
         try clear c58b0
         try clear c58b1
         try clear c59
         try clear c72
         try clear c72b0
         try clear c72b1
         try clear z24_0 z24_1 z24_2 f24_0 f24_1 f24_2
         try clear z28_0 z28_1 z28_2 f28_0 f28_1 f28_2
         try clear z31_0 z31_1 z31_2 f31_0 f31_1 f31_2
         try clear z40_0 z40_1 z40_2 f40_0 f40_1 f40_2
         try clear z43_0 z43_1 z43_2 f43_0 f43_1 f43_2
         try clear p2
         obtain ⟨kq, x45_70, rfl, HA, HJ70, BK863, BK864, BK865, BK866, BK879, BK880, HB⟩ := hcut
         cases kq with
         | zero => exact absurd HA.out (by simp [span_Test.j3])
         | succ kj70 =>
          have H := HA.out
          clear HA
          simp only [span_Test.j3] at H
          by_cases c73 : x45_70 = true
          ·subst c73
           replace H := zit H
           obtain ⟨⟨t887, t888, t889⟩, A74, H⟩ := zbs H
           try dsimp only at H
           obtain ⟨⟨t890, t891, t892⟩, A75, H⟩ := zbs H
           try dsimp only at H
           have H' := Aside0.mk H
           clear H
           try go_wp2
           replace BK863 := Aside0.mk (blk_drew BK863.out)
           replace BK864 := Aside0.mk (blk_drew BK864.out)
           replace BK865 := Aside0.mk (blk_drew BK865.out)
           replace BK866 := Aside0.mk (blk_drew BK866.out)
           replace BK879 := Aside0.mk (blk_drew BK879.out)
           replace BK880 := Aside0.mk (blk_drew BK880.out)
           replace HB := Aside0.mk (below_drew1 HB.out)
           refine start_ (n := 12) (S := fun w' => w'.cell? ⟨gb863, 0, none⟩ = some (.bool t867) ∧ w'.cell? ⟨gb863, 1, none⟩ = some (.int .u64 t868) ∧ w'.cell? ⟨gb863, 2, none⟩ = some (.int .u64 t869) ∧ w'.cell? ⟨gb864, 0, none⟩ = some (.bool t870) ∧ w'.cell? ⟨gb864, 1, none⟩ = some (.int .u64 t871) ∧ w'.cell? ⟨gb864, 2, none⟩ = some (.int .u64 t872)) (ds := []) #[false, false, false, false, false, false, false, false, false, false, false, false] (by kernel_rfl) rfl rfl (zk3 BK863 (ze3 BK864)) (fun hHeld => ?_); refine with_tabW span_Test.tab12 span_Test.bits12 (fun HT_ HW_ => ?_)
           generalize wc.drew = w76 at BK863 BK864 BK865 BK866 BK879 BK880 HB hHeld ⊢
           refine zpA 1 49 (h := ?_)
           refine zpA 3 51 (h := ?_)
           refine zpA 6 54 (h := ?_)
           refine zpA 8 56 (h := ?_)
           refine ztA 0 48 (h := ?_)
           refine ztA 2 50 (h := ?_)
           refine ztA 5 53 (h := ?_)
           refine ztA 7 55 (h := ?_)
           refine zoA 4 52 (h := fun K hK => ?_)
           refine zgA Try.func122 (span_side.calls kj70 t867 t868 t869 t871 true x10_43 t887 t888 t889 _ A74.out) (h := ?_)
           rintro w77 hb
           replace BK863 := zkb BK863 hb
           replace BK864 := zkb BK864 hb
           replace BK865 := zkb BK865 hb
           replace BK866 := zkb BK866 hb
           replace BK879 := zkb BK879 hb
           replace BK880 := zkb BK880 hb
           replace HB := zkB HB hb
           (try clear hb)
           refine hK.out _ _ (zk3 BK863 (ze3 BK864)) (fun hHeld => ?_)
           clear hK K
           refine znA 52 (h := ?_)
           refine zoA 9 57 (h := fun K hK => ?_)
           refine zgA Try.func122 (span_side.calls kj70 t870 t871 t872 t869 false x10_43 t890 t891 t892 _ A75.out) (h := ?_)
           rintro w78 hb
           replace BK863 := zkb BK863 hb
           replace BK864 := zkb BK864 hb
           replace BK865 := zkb BK865 hb
           replace BK866 := zkb BK866 hb
           replace BK879 := zkb BK879 hb
           replace BK880 := zkb BK880 hb
           replace HB := zkB HB hb
           (try clear hb)
           refine hK.out _ _ (zk3 BK863 (ze3 BK864)) (fun hHeld => ?_)
           clear hK K
           refine znA 57 (h := ?_)
           refine one_ (i := 10) (N := none) #[true, true, true, true, true, true, true, true, true, true, true, false] rfl rfl (one_of HT_.out (by kernel_rfl)) (by decide) (fun K hK => ?_)
           have hs79 := zc0 BK879
           have hfs79 := blk_frozen BK879.out 0
           obtain ⟨_, _, _, _, _, _, _, _, _, _⟩ := zs5 NB863_879 NB864_879 NB865_879 NB866_879 NB880_879
           have hs80 := zc1 BK879
           have hfs80 := blk_frozen BK879.out 1
           obtain ⟨_, _, _, _, _, _, _, _, _, _⟩ := zs5 NB863_879 NB864_879 NB865_879 NB866_879 NB880_879
           have hs81 := zc2 BK879
           have hfs81 := blk_frozen BK879.out 2
           obtain ⟨_, _, _, _, _, _, _, _, _, _⟩ := zs5 NB863_879 NB864_879 NB865_879 NB866_879 NB880_879
           refine skip_ (w1 := ?_) (by rfl) rfl ?_ ?_
           rotate_left
           ·go_simp
            rfl
           refine hK.out _ _ ⟨(zff NB863_879 (zff NB863_879 (zff NB863_879 hHeld.1))), (zff NB863_879 (zff NB863_879 (zff NB863_879 hHeld.2.1))), (zff NB863_879 (zff NB863_879 (zff NB863_879 hHeld.2.2.1))), (zff NB864_879 (zff NB864_879 (zff NB864_879 hHeld.2.2.2.1))), (zff NB864_879 (zff NB864_879 (zff NB864_879 hHeld.2.2.2.2.1))), (zff NB864_879 (zff NB864_879 (zff NB864_879 hHeld.2.2.2.2.2)))⟩ (fun hHeld => ?_)
           clear hK K
           refine one_ (i := 11) (N := none) #[true, true, true, true, true, true, true, true, true, true, true, true] rfl rfl (one_of HT_.out (by kernel_rfl)) (by decide) (fun K hK => ?_)
           have hs82 := zc0 BK880
           have hfs82 := blk_frozen BK880.out 0
           obtain ⟨_, _, _, _, _, _, _, _, _, _⟩ := zs5 NB863_880 NB864_880 NB865_880 NB866_880 NB879_880
           have hs83 := zc1 BK880
           have hfs83 := blk_frozen BK880.out 1
           obtain ⟨_, _, _, _, _, _, _, _, _, _⟩ := zs5 NB863_880 NB864_880 NB865_880 NB866_880 NB879_880
           have hs84 := zc2 BK880
           have hfs84 := blk_frozen BK880.out 2
           obtain ⟨_, _, _, _, _, _, _, _, _, _⟩ := zs5 NB863_880 NB864_880 NB865_880 NB866_880 NB879_880
           refine skip_ (w1 := ?_) (by rfl) rfl ?_ ?_
           rotate_left
           ·go_simp
            rfl
           refine hK.out _ _ ⟨(zff NB863_880 (zff NB863_880 (zff NB863_880 hHeld.1))), (zff NB863_880 (zff NB863_880 (zff NB863_880 hHeld.2.1))), (zff NB863_880 (zff NB863_880 (zff NB863_880 hHeld.2.2.1))), (zff NB864_880 (zff NB864_880 (zff NB864_880 hHeld.2.2.2.1))), (zff NB864_880 (zff NB864_880 (zff NB864_880 hHeld.2.2.2.2.1))), (zff NB864_880 (zff NB864_880 (zff NB864_880 hHeld.2.2.2.2.2)))⟩ (fun hHeld => ?_)
           clear hK K
           refine done_ (done_of HT_.out (by kernel_rfl)) ?_
           try go_wp2
           go_meet
           case rel => exact ⟨_, (t887), (t888), (t889), (t890), (t891), (t892), H', ⟨by have := HJ5.out; have := HJ43.out; have := HJ56.out; have := HJ70.out; first | omega | exact Nat.le_refl _⟩, ⟨(zkf (zkf (zkf (zkf (zkf (zkf (zkq BK863) NB863_879.out _) NB863_879.out _) NB863_879.out _) NB863_880.out _) NB863_880.out _) NB863_880.out _)⟩, ⟨(zkf (zkf (zkf (zkf (zkf (zkf (zkq BK864) NB864_879.out _) NB864_879.out _) NB864_879.out _) NB864_880.out _) NB864_880.out _) NB864_880.out _)⟩, ⟨(zkf (zkf (zkf (zkf (zkf (zkf (zkq BK865) NB865_879.out _) NB865_879.out _) NB865_879.out _) NB865_880.out _) NB865_880.out _) NB865_880.out _)⟩, ⟨(zkf (zkf (zkf (zkf (zkf (zkf (zkq BK866) NB866_879.out _) NB866_879.out _) NB866_879.out _) NB866_880.out _) NB866_880.out _) NB866_880.out _)⟩, ⟨(zkf (zkf (zkf (blk_put (cs := #[.bool t887, .int .u64 t888, .int .u64 t869]) (blk_put (cs := #[.bool t887, .int .u64 t868, .int .u64 t869]) (blk_put (zkq BK879) 0 _ rfl) 1 _ rfl) 2 _ rfl) NB879_880.out _) NB879_880.out _) NB879_880.out _)⟩, ⟨(blk_put (cs := #[.bool t890, .int .u64 t891, .int .u64 t872]) (blk_put (cs := #[.bool t890, .int .u64 t871, .int .u64 t872]) (blk_put (zkf (zkf (zkf (zkq BK880) NB880_879.out _) NB880_879.out _) NB880_879.out _) 0 _ rfl) 1 _ rfl) 2 _ rfl)⟩, ⟨zaB⟩⟩
          replace c73 := Bool.eq_false_iff.mpr c73
          subst c73
          replace H := zif H
          by_cases c85 : a0 = 11
          ·rw [if_pos c85] at H
           have c85b0 : (a0 == 11) = true := beq_iff_eq.mpr c85
           have c85b1 : (a0 != 11) = false := bne_eq_false_iff_eq.mpr c85
           clear c85
           obtain ⟨⟨t893, t894, t895⟩, A86, H⟩ := zbs H
           try dsimp only at H
           have H' := Aside0.mk H
           clear H
           obtain ⟨_, _, _, _, _, _, _, _, _, _⟩ := zs5 NB863_864 NB863_865 NB863_866 NB863_879 NB863_880
           obtain ⟨z92_0, z92_1, z92_2, f92_0, f92_1, f92_2⟩ := zq3 BK863
           obtain ⟨_, _, _, _, _, _, _, _⟩ := zs4 NB864_865 NB864_866 NB864_879 NB864_880
           obtain ⟨z97_0, z97_1, z97_2, f97_0, f97_1, f97_2⟩ := zq3 BK864
           go_wp2_with (first | ((with_reducible refine gtc 47 rfl ?_); refine zgL 62 Try.func47 (span_Meet.calls kj70 t867 t868 t869 t870 t871 t872 t893 t894 t895 _ A86.out) (h := ?_); rintro w98 hb; replace BK863 := zkb BK863 hb; replace BK864 := zkb BK864 hb; replace BK865 := zkb BK865 hb; replace BK866 := zkb BK866 hb; replace BK879 := zkb BK879 hb; replace BK880 := zkb BK880 hb; replace HB := zkB HB hb; (try clear hb); obtain ⟨_, _, _, _, _, _⟩ := zs3 NB879_865 NB879_866 NB879_880; obtain ⟨z102_0, z102_1, z102_2, f102_0, f102_1, f102_2⟩ := zq3 BK879; obtain ⟨_, _, _, _⟩ := zs2 NB880_865 NB880_866; obtain ⟨z105_0, z105_1, z105_2, f105_0, f105_1, f105_2⟩ := zq3 BK880))
           go_meet
           case rel => exact ⟨_, (t893), (t894), (t895), (t893), (t894), (t895), H', ⟨by have := HJ5.out; have := HJ43.out; have := HJ56.out; have := HJ70.out; first | omega | exact Nat.le_refl _⟩, ⟨(zkf (zkf (zkf (zkf (zkf (zkf (zkq BK863) NB863_879.out _) NB863_879.out _) NB863_879.out _) NB863_880.out _) NB863_880.out _) NB863_880.out _)⟩, ⟨(zkf (zkf (zkf (zkf (zkf (zkf (zkq BK864) NB864_879.out _) NB864_879.out _) NB864_879.out _) NB864_880.out _) NB864_880.out _) NB864_880.out _)⟩, ⟨(zkf (zkf (zkf (zkf (zkf (zkf (zkq BK865) NB865_879.out _) NB865_879.out _) NB865_879.out _) NB865_880.out _) NB865_880.out _) NB865_880.out _)⟩, ⟨(zkf (zkf (zkf (zkf (zkf (zkf (zkq BK866) NB866_879.out _) NB866_879.out _) NB866_879.out _) NB866_880.out _) NB866_880.out _) NB866_880.out _)⟩, ⟨(zkf (zkf (zkf (blk_put (cs := #[.bool t893, .int .u64 t894, .int .u64 t869]) (blk_put (cs := #[.bool t893, .int .u64 t868, .int .u64 t869]) (blk_put (zkq BK879) 0 _ rfl) 1 _ rfl) 2 _ rfl) NB879_880.out _) NB879_880.out _) NB879_880.out _)⟩, ⟨(blk_put (cs := #[.bool t893, .int .u64 t894, .int .u64 t872]) (blk_put (cs := #[.bool t893, .int .u64 t871, .int .u64 t872]) (blk_put (zkf (zkf (zkf (zkq BK880) NB880_879.out _) NB880_879.out _) NB880_879.out _) 0 _ rfl) 1 _ rfl) 2 _ rfl)⟩, ⟨zaB⟩⟩
          rw [if_neg c85] at H
          have c85b0 : (a0 == 11) = false := beq_eq_false_iff_ne.mpr c85
          have c85b1 : (a0 != 11) = true := bne_iff_ne.mpr c85
          by_cases c106 : a0 = 12
          ·rw [if_pos c106] at H
           have c106b0 : (a0 == 12) = true := beq_iff_eq.mpr c106
           have c106b1 : (a0 != 12) = false := bne_eq_false_iff_eq.mpr c106
           clear c106
           obtain ⟨⟨t896, t897, t898⟩, A107, H⟩ := zbs H
           try dsimp only at H
           obtain ⟨⟨t899, t900, t901⟩, A108, H⟩ := zbs H
           try dsimp only at H
           have H' := Aside0.mk H
           clear H
           try go_wp2
           replace BK863 := Aside0.mk (blk_drew BK863.out)
           replace BK864 := Aside0.mk (blk_drew BK864.out)
           replace BK865 := Aside0.mk (blk_drew BK865.out)
           replace BK866 := Aside0.mk (blk_drew BK866.out)
           replace BK879 := Aside0.mk (blk_drew BK879.out)
           replace BK880 := Aside0.mk (blk_drew BK880.out)
           replace HB := Aside0.mk (below_drew1 HB.out)
           refine start_ (n := 8) (S := fun w' => w'.cell? ⟨gb863, 0, none⟩ = some (.bool t867) ∧ w'.cell? ⟨gb863, 1, none⟩ = some (.int .u64 t868) ∧ w'.cell? ⟨gb863, 2, none⟩ = some (.int .u64 t869) ∧ w'.cell? ⟨gb864, 0, none⟩ = some (.bool t870) ∧ w'.cell? ⟨gb864, 1, none⟩ = some (.int .u64 t871) ∧ w'.cell? ⟨gb864, 2, none⟩ = some (.int .u64 t872)) (ds := []) #[false, false, false, false, false, false, false, false] (by kernel_rfl) rfl rfl (zk3 BK863 (ze3 BK864)) (fun hHeld => ?_); refine with_tabW span_Test.tab17 span_Test.bits17 (fun HT_ HW_ => ?_)
           generalize wc.drew = w109 at BK863 BK864 BK865 BK866 BK879 BK880 HB hHeld ⊢
           refine ztA 0 66 (h := ?_)
           refine ztA 1 67 (h := ?_)
           refine ztA 3 69 (h := ?_)
           refine ztA 4 70 (h := ?_)
           refine zoA 2 68 (h := fun K hK => ?_)
           refine zgA Try.func123 (span_without.calls kj70 t867 t868 t869 t870 t871 t872 t896 t897 t898 _ A107.out) (h := ?_)
           rintro w110 hb
           replace BK863 := zkb BK863 hb
           replace BK864 := zkb BK864 hb
           replace BK865 := zkb BK865 hb
           replace BK866 := zkb BK866 hb
           replace BK879 := zkb BK879 hb
           replace BK880 := zkb BK880 hb
           replace HB := zkB HB hb
           (try clear hb)
           refine hK.out _ _ (zk3 BK863 (ze3 BK864)) (fun hHeld => ?_)
           clear hK K
           refine znA 68 (h := ?_)
           refine zoA 5 71 (h := fun K hK => ?_)
           refine zgA Try.func123 (span_without.calls kj70 t870 t871 t872 t867 t868 t869 t899 t900 t901 _ A108.out) (h := ?_)
           rintro w111 hb
           replace BK863 := zkb BK863 hb
           replace BK864 := zkb BK864 hb
           replace BK865 := zkb BK865 hb
           replace BK866 := zkb BK866 hb
           replace BK879 := zkb BK879 hb
           replace BK880 := zkb BK880 hb
           replace HB := zkB HB hb
           (try clear hb)
           refine hK.out _ _ (zk3 BK863 (ze3 BK864)) (fun hHeld => ?_)
           clear hK K
           refine znA 71 (h := ?_)
           refine one_ (i := 6) (N := none) #[true, true, true, true, true, true, true, false] rfl rfl (one_of HT_.out (by kernel_rfl)) (by decide) (fun K hK => ?_)
           have hs112 := zc0 BK879
           have hfs112 := blk_frozen BK879.out 0
           obtain ⟨_, _, _, _, _, _, _, _, _, _⟩ := zs5 NB863_879 NB864_879 NB865_879 NB866_879 NB880_879
           have hs113 := zc1 BK879
           have hfs113 := blk_frozen BK879.out 1
           obtain ⟨_, _, _, _, _, _, _, _, _, _⟩ := zs5 NB863_879 NB864_879 NB865_879 NB866_879 NB880_879
           have hs114 := zc2 BK879
           have hfs114 := blk_frozen BK879.out 2
           obtain ⟨_, _, _, _, _, _, _, _, _, _⟩ := zs5 NB863_879 NB864_879 NB865_879 NB866_879 NB880_879
           refine skip_ (w1 := ?_) (by rfl) rfl ?_ ?_
           rotate_left
           ·go_simp
            rfl
           refine hK.out _ _ ⟨(zff NB863_879 (zff NB863_879 (zff NB863_879 hHeld.1))), (zff NB863_879 (zff NB863_879 (zff NB863_879 hHeld.2.1))), (zff NB863_879 (zff NB863_879 (zff NB863_879 hHeld.2.2.1))), (zff NB864_879 (zff NB864_879 (zff NB864_879 hHeld.2.2.2.1))), (zff NB864_879 (zff NB864_879 (zff NB864_879 hHeld.2.2.2.2.1))), (zff NB864_879 (zff NB864_879 (zff NB864_879 hHeld.2.2.2.2.2)))⟩ (fun hHeld => ?_)
           clear hK K
           refine one_ (i := 7) (N := none) #[true, true, true, true, true, true, true, true] rfl rfl (one_of HT_.out (by kernel_rfl)) (by decide) (fun K hK => ?_)
           have hs115 := zc0 BK880
           have hfs115 := blk_frozen BK880.out 0
           obtain ⟨_, _, _, _, _, _, _, _, _, _⟩ := zs5 NB863_880 NB864_880 NB865_880 NB866_880 NB879_880
           have hs116 := zc1 BK880
           have hfs116 := blk_frozen BK880.out 1
           obtain ⟨_, _, _, _, _, _, _, _, _, _⟩ := zs5 NB863_880 NB864_880 NB865_880 NB866_880 NB879_880
           have hs117 := zc2 BK880
           have hfs117 := blk_frozen BK880.out 2
           obtain ⟨_, _, _, _, _, _, _, _, _, _⟩ := zs5 NB863_880 NB864_880 NB865_880 NB866_880 NB879_880
           refine skip_ (w1 := ?_) (by rfl) rfl ?_ ?_
           rotate_left
           ·go_simp
            rfl
           refine hK.out _ _ ⟨(zff NB863_880 (zff NB863_880 (zff NB863_880 hHeld.1))), (zff NB863_880 (zff NB863_880 (zff NB863_880 hHeld.2.1))), (zff NB863_880 (zff NB863_880 (zff NB863_880 hHeld.2.2.1))), (zff NB864_880 (zff NB864_880 (zff NB864_880 hHeld.2.2.2.1))), (zff NB864_880 (zff NB864_880 (zff NB864_880 hHeld.2.2.2.2.1))), (zff NB864_880 (zff NB864_880 (zff NB864_880 hHeld.2.2.2.2.2)))⟩ (fun hHeld => ?_)
           clear hK K
           refine done_ (done_of HT_.out (by kernel_rfl)) ?_
           try go_wp2
           go_meet
           case rel => exact ⟨_, (t896), (t897), (t898), (t899), (t900), (t901), H', ⟨by have := HJ5.out; have := HJ43.out; have := HJ56.out; have := HJ70.out; first | omega | exact Nat.le_refl _⟩, ⟨(zkf (zkf (zkf (zkf (zkf (zkf (zkq BK863) NB863_879.out _) NB863_879.out _) NB863_879.out _) NB863_880.out _) NB863_880.out _) NB863_880.out _)⟩, ⟨(zkf (zkf (zkf (zkf (zkf (zkf (zkq BK864) NB864_879.out _) NB864_879.out _) NB864_879.out _) NB864_880.out _) NB864_880.out _) NB864_880.out _)⟩, ⟨(zkf (zkf (zkf (zkf (zkf (zkf (zkq BK865) NB865_879.out _) NB865_879.out _) NB865_879.out _) NB865_880.out _) NB865_880.out _) NB865_880.out _)⟩, ⟨(zkf (zkf (zkf (zkf (zkf (zkf (zkq BK866) NB866_879.out _) NB866_879.out _) NB866_879.out _) NB866_880.out _) NB866_880.out _) NB866_880.out _)⟩, ⟨(zkf (zkf (zkf (blk_put (cs := #[.bool t896, .int .u64 t897, .int .u64 t869]) (blk_put (cs := #[.bool t896, .int .u64 t868, .int .u64 t869]) (blk_put (zkq BK879) 0 _ rfl) 1 _ rfl) 2 _ rfl) NB879_880.out _) NB879_880.out _) NB879_880.out _)⟩, ⟨(blk_put (cs := #[.bool t899, .int .u64 t900, .int .u64 t872]) (blk_put (cs := #[.bool t899, .int .u64 t871, .int .u64 t872]) (blk_put (zkf (zkf (zkf (zkq BK880) NB880_879.out _) NB880_879.out _) NB880_879.out _) 0 _ rfl) 1 _ rfl) 2 _ rfl)⟩, ⟨zaB⟩⟩
          rw [if_neg c106] at H
          have c106b0 : (a0 == 12) = false := beq_eq_false_iff_ne.mpr c106
          have c106b1 : (a0 != 12) = true := bne_iff_ne.mpr c106
          have H' := Aside0.mk H
          clear H
          go_wp2
          go_meet
          case rel => exact ⟨_, (t867), (t868), (t869), (t870), (t871), (t872), H', ⟨by have := HJ5.out; have := HJ43.out; have := HJ56.out; have := HJ70.out; first | omega | exact Nat.le_refl _⟩, ⟨zkq BK863⟩, ⟨zkq BK864⟩, ⟨zkq BK865⟩, ⟨zkq BK866⟩, ⟨zkq BK879⟩, ⟨zkq BK880⟩, ⟨zaB⟩⟩
     case rest =>
      clear HC56
      try clear c1
      try clear p2
      try clear c4
      try clear c7
      try clear c8
      try clear c9
      try clear c10
      try clear c12
      try clear c47
      try clear c73
      try clear c85
      try clear c85b0
      try clear c85b1
      try clear c87
      try clear c88
      try clear c89
      try clear c90
      try clear c91
      try clear c93
      try clear c94
      try clear c95
      try clear c96
      try clear c99
      try clear c100
      try clear c101
      try clear c103
      try clear c104
      try clear c106
      try clear c106b0
      try clear c106b1
      try clear z102_0 z102_1 z102_2 f102_0 f102_1 f102_2
      try clear z105_0 z105_1 z105_2 f105_0 f105_1 f105_2
      try clear z92_0 z92_1 z92_2 f92_0 f92_1 f92_2
      try clear z97_0 z97_1 z97_2 f97_0 f97_1 f97_2
      try clear f24_0
      try clear f24_1
      try clear f24_2
      try clear f28_0
      try clear f28_1
      try clear f28_2
      try clear f31_0
      try clear f31_1
      try clear f31_2
      try clear f40_0
      try clear f40_1
      try clear f40_2
      try clear f43_0
      try clear f43_1
      try clear f43_2
      try clear p2
      obtain ⟨kq, x880000_55, x880001_55, x880002_55, x881000_55, x881001_55, x881002_55, HA, HJ55, BK863, BK864, BK865, BK866, BK879, BK880, HB⟩ := hcut
      cases kq with
      | zero => exact absurd HA.out (by simp [span_Test.j4])
      | succ kj55 =>
       have H := HA.out
       clear HA
       simp only [span_Test.j4] at H
       have HC118 := Aside0.mk H
       clear H
       go_upto_region 18 with (fail)
       go_cut [77] (fun v77 wc => ∃ (kq : Nat) (x77_117 : Bool), v77 = .bool x77_117 ∧ Aside0 (span_Test.j5 kq x77_117 x880000_55 x880001_55 x880002_55 x881000_55 x881001_55 x881002_55 = some (r1, r2, r3, r4, r5, r6)) ∧ Aside0 (kq ≤ kj55) ∧ Aside0 (wc.heap[gb863]? = some (.cells #[.bool t867, .int .u64 t868, .int .u64 t869] 43 (0, 0))) ∧ Aside0 (wc.heap[gb864]? = some (.cells #[.bool t870, .int .u64 t871, .int .u64 t872] 43 (0, 0))) ∧ Aside0 (wc.heap[gb865]? = some (.cells #[.bool false, .int .u64 0, .int .u64 0] 43 (0, 0))) ∧ Aside0 (wc.heap[gb866]? = some (.cells #[.bool false, .int .u64 0, .int .u64 0] 43 (0, 0))) ∧ Aside0 (wc.heap[gb879]? = some (.cells #[.bool x880000_55, .int .u64 x880001_55, .int .u64 x880002_55] 43 (0, 0))) ∧ Aside0 (wc.heap[gb880]? = some (.cells #[.bool x881000_55, .int .u64 x881001_55, .int .u64 x881002_55] 43 (0, 0))) ∧ Aside0 (Below w.heap.size w wc))
       case first =>
        have H := HC118.out
        clear HC118
        by_cases c119 : x880000_55 = true
        ·subst c119
         replace H := zit H
         have H' := Aside0.mk H
         clear H
         obtain ⟨_, _, _, _, _, _, _, _, _, _⟩ := zs5 NB879_863 NB879_864 NB879_865 NB879_866 NB879_880
         obtain ⟨z125_0, z125_1, z125_2, f125_0, f125_1, f125_2⟩ := zq3 BK879
         go_wp2
         go_meet
         case rel => exact ⟨_, (true), zrl, H', ⟨by have := HJ5.out; have := HJ43.out; have := HJ55.out; first | omega | exact Nat.le_refl _⟩, ⟨zkq BK863⟩, ⟨zkq BK864⟩, ⟨zkq BK865⟩, ⟨zkq BK866⟩, ⟨zkq BK879⟩, ⟨zkq BK880⟩, ⟨zaB⟩⟩
        replace c119 := Bool.eq_false_iff.mpr c119
        subst c119
        replace H := zif H
        have H' := Aside0.mk H
        clear H
        obtain ⟨_, _, _, _, _, _, _, _, _, _⟩ := zs5 NB879_863 NB879_864 NB879_865 NB879_866 NB879_880
        obtain ⟨z131_0, z131_1, z131_2, f131_0, f131_1, f131_2⟩ := zq3 BK879
        obtain ⟨_, _, _, _, _, _, _, _⟩ := zs4 NB880_863 NB880_864 NB880_865 NB880_866
        obtain ⟨z136_0, z136_1, z136_2, f136_0, f136_1, f136_2⟩ := zq3 BK880
        go_wp2
        go_meet
        case rel => exact ⟨_, (x881000_55), zrl, H', ⟨by have := HJ5.out; have := HJ43.out; have := HJ55.out; first | omega | exact Nat.le_refl _⟩, ⟨zkq BK863⟩, ⟨zkq BK864⟩, ⟨zkq BK865⟩, ⟨zkq BK866⟩, ⟨zkq BK879⟩, ⟨zkq BK880⟩, ⟨zaB⟩⟩
       case rest =>
        clear HC118
        try clear c1
        try clear p2
        try clear c4
        try clear c7
        try clear c8
        try clear c9
        try clear c10
        try clear c11
        try clear c12
        try clear c13
        try clear c47
        try clear c73
        try clear c85
        try clear c85b0
        try clear c85b1
        try clear c87
        try clear c88
        try clear c89
        try clear c90
        try clear c91
        try clear c93
        try clear c94
        try clear c95
        try clear c96
        try clear c99
        try clear c100
        try clear c101
        try clear c103
        try clear c104
        try clear c106
        try clear c106b0
        try clear c106b1
        try clear c119
        try clear c120
        try clear c121
        try clear c122
        try clear c123
        try clear c124
        try clear c126
        try clear c127
        try clear c128
        try clear c129
        try clear c130
        try clear c132
        try clear c133
        try clear c134
        try clear c135
        try clear z102_0 z102_1 z102_2 f102_0 f102_1 f102_2
        try clear z105_0 z105_1 z105_2 f105_0 f105_1 f105_2
        try clear z125_0 z125_1 z125_2 f125_0 f125_1 f125_2
        try clear z131_0 z131_1 z131_2 f131_0 f131_1 f131_2
        try clear z136_0 z136_1 z136_2 f136_0 f136_1 f136_2
        try clear z92_0 z92_1 z92_2 f92_0 f92_1 f92_2
        try clear z97_0 z97_1 z97_2 f97_0 f97_1 f97_2
        try clear f24_0
        try clear f24_1
        try clear f24_2
        try clear f28_0
        try clear f28_1
        try clear f28_2
        try clear f31_0
        try clear f31_1
        try clear f31_2
        try clear f40_0
        try clear f40_1
        try clear f40_2
        try clear f43_0
        try clear f43_1
        try clear f43_2
        try clear p2
        obtain ⟨kq, x77_117, rfl, HA, HJ117, BK863, BK864, BK865, BK866, BK879, BK880, HB⟩ := hcut
        cases kq with
        | zero => exact absurd HA.out (by simp [span_Test.j5])
        | succ kj117 =>
         have H := HA.out
         clear HA
         simp only [span_Test.j5] at H
         by_cases c137 : x77_117 = true
         ·subst c137
          replace H := zit H
          obtain ⟨⟨t902, t903, t904⟩, A138, H⟩ := zbs H
          try dsimp only at H
          obtain ⟨⟨t905, t906, t907⟩, A139, H⟩ := zbs H
          try dsimp only at H
          simp only [Option.some.injEq, Prod.mk.injEq] at H
          obtain ⟨rfl, rfl, rfl, rfl, rfl, rfl⟩ := H
          go_wp2_with (first | ((with_reducible refine gtc 118 rfl ?_); refine zgL 78 Try.func118 (span_none.calls  t902 t903 t904 _ A138.out) (h := ?_); rintro w140 hb; replace BK863 := zkb BK863 hb; replace BK864 := zkb BK864 hb; replace BK865 := zkb BK865 hb; replace BK866 := zkb BK866 hb; replace BK879 := zkb BK879 hb; replace BK880 := zkb BK880 hb; replace HB := zkB HB hb; (try clear hb)) | ((with_reducible refine gtc 118 rfl ?_); refine zgL 79 Try.func118 (span_none.calls  t905 t906 t907 _ A139.out) (h := ?_); rintro w141 hb; replace BK863 := zkb BK863 hb; replace BK864 := zkb BK864 hb; replace BK865 := zkb BK865 hb; replace BK866 := zkb BK866 hb; replace BK879 := zkb BK879 hb; replace BK880 := zkb BK880 hb; replace HB := zkB HB hb; (try clear hb); obtain ⟨_, _, _, _, _, _, _, _, _, _⟩ := zs5 NB865_863 NB865_864 NB865_866 NB865_879 NB865_880; obtain ⟨_, _, _, _, _, _⟩ := zq3 BK865; obtain ⟨_, _, _, _, _, _, _, _⟩ := zs4 NB866_863 NB866_864 NB866_879 NB866_880; obtain ⟨_, _, _, _, _, _⟩ := zq3 BK866))
          refine bodyPost_ret (results_cc rfl _ _ gb865 gb866 43 43 #[.bool t902, .int .u64 t903, .int .u64 t904] #[.bool t905, .int .u64 t906, .int .u64 t907] (0, 0) (0, 0) _ _ rfl (zkf (zkf (zkf (blk_put (cs := #[.bool t902, .int .u64 t903, .int .u64 0]) (blk_put (cs := #[.bool t902, .int .u64 0, .int .u64 0]) (blk_put (zkq BK865) 0 _ rfl) 1 _ rfl) 2 _ rfl) NB865_866.out _) NB865_866.out _) NB865_866.out _) Try.underlying43 rfl (by kernel_rfl) rfl (blk_put (cs := #[.bool t905, .int .u64 t906, .int .u64 0]) (blk_put (cs := #[.bool t905, .int .u64 0, .int .u64 0]) (blk_put (zkf (zkf (zkf (zkq BK866) NB866_865.out _) NB866_865.out _) NB866_865.out _) 0 _ rfl) 1 _ rfl) 2 _ rfl) Try.underlying43 rfl (by kernel_rfl)) rfl ?_
          exact ⟨zaE, zaB⟩
         replace c137 := Bool.eq_false_iff.mpr c137
         subst c137
         replace H := zif H
         simp only [Option.some.injEq, Prod.mk.injEq] at H
         obtain ⟨rfl, rfl, rfl, rfl, rfl, rfl⟩ := H
         try go_wp2
         replace BK863 := Aside0.mk (blk_drew BK863.out)
         replace BK864 := Aside0.mk (blk_drew BK864.out)
         replace BK865 := Aside0.mk (blk_drew BK865.out)
         replace BK866 := Aside0.mk (blk_drew BK866.out)
         replace BK879 := Aside0.mk (blk_drew BK879.out)
         replace BK880 := Aside0.mk (blk_drew BK880.out)
         replace HB := Aside0.mk (below_drew1 HB.out)
         refine start_ (n := 4) (S := fun w' => w'.cell? ⟨gb879, 0, none⟩ = some (.bool x880000_55) ∧ w'.cell? ⟨gb879, 1, none⟩ = some (.int .u64 x880001_55) ∧ w'.cell? ⟨gb879, 2, none⟩ = some (.int .u64 x880002_55) ∧ w'.cell? ⟨gb880, 0, none⟩ = some (.bool x881000_55) ∧ w'.cell? ⟨gb880, 1, none⟩ = some (.int .u64 x881001_55) ∧ w'.cell? ⟨gb880, 2, none⟩ = some (.int .u64 x881002_55)) (ds := []) #[false, false, false, false] (by kernel_rfl) rfl rfl (zk3 BK879 (ze3 BK880)) (fun hHeld => ?_)
         generalize wc.drew = w153 at BK863 BK864 BK865 BK866 BK879 BK880 HB hHeld ⊢
         refine take_ (i := 0) (N := some 80) (v := ?_) (a' := ?_) #[true, false, false, false] rfl rfl (by kernel_rfl) (fun _ _ _ h => h) (Or.inl ⟨by rfl, ?_⟩) hHeld ?_ ?_
         rotate_left
         ·rintro w' ⟨s0, s1, s2, s3, s4, s5⟩
          go_simp
          with_reducible rfl
         rotate_left
         ·simp only [Act.put, List.setIfInBounds_toArray, List.set_cons_zero, List.set_cons_succ, i64_w, i32_w]
          rfl
         refine take_ (i := 1) (N := some 81) (v := ?_) (a' := ?_) #[true, true, false, false] rfl rfl (by kernel_rfl) (fun _ _ _ h => h) (Or.inl ⟨by rfl, ?_⟩) hHeld ?_ ?_
         rotate_left
         ·rintro w' ⟨s0, s1, s2, s3, s4, s5⟩
          go_simp
          with_reducible rfl
         rotate_left
         ·simp only [Act.put, List.setIfInBounds_toArray, List.set_cons_zero, List.set_cons_succ, i64_w, i32_w]
          rfl
         refine one_ (i := 2) (N := none) #[true, true, true, false] rfl rfl (by kernel_rfl) (by decide) (fun K hK => ?_)
         have hs154 := zc0 BK865
         have hfs154 := blk_frozen BK865.out 0
         obtain ⟨_, _, _, _, _, _, _, _, _, _⟩ := zs5 NB863_865 NB864_865 NB866_865 NB879_865 NB880_865
         have hs155 := zc1 BK865
         have hfs155 := blk_frozen BK865.out 1
         obtain ⟨_, _, _, _, _, _, _, _, _, _⟩ := zs5 NB863_865 NB864_865 NB866_865 NB879_865 NB880_865
         have hs156 := zc2 BK865
         have hfs156 := blk_frozen BK865.out 2
         obtain ⟨_, _, _, _, _, _, _, _, _, _⟩ := zs5 NB863_865 NB864_865 NB866_865 NB879_865 NB880_865
         refine skip_ (w1 := ?_) (by rfl) rfl ?_ ?_
         rotate_left
         ·go_simp
          rfl
         refine hK.out _ _ ⟨(zff NB879_865 (zff NB879_865 (zff NB879_865 hHeld.1))), (zff NB879_865 (zff NB879_865 (zff NB879_865 hHeld.2.1))), (zff NB879_865 (zff NB879_865 (zff NB879_865 hHeld.2.2.1))), (zff NB880_865 (zff NB880_865 (zff NB880_865 hHeld.2.2.2.1))), (zff NB880_865 (zff NB880_865 (zff NB880_865 hHeld.2.2.2.2.1))), (zff NB880_865 (zff NB880_865 (zff NB880_865 hHeld.2.2.2.2.2)))⟩ (fun hHeld => ?_)
         clear hK K
         refine one_ (i := 3) (N := none) #[true, true, true, true] rfl rfl (by kernel_rfl) (by decide) (fun K hK => ?_)
         have hs157 := zc0 BK866
         have hfs157 := blk_frozen BK866.out 0
         obtain ⟨_, _, _, _, _, _, _, _, _, _⟩ := zs5 NB863_866 NB864_866 NB865_866 NB879_866 NB880_866
         have hs158 := zc1 BK866
         have hfs158 := blk_frozen BK866.out 1
         obtain ⟨_, _, _, _, _, _, _, _, _, _⟩ := zs5 NB863_866 NB864_866 NB865_866 NB879_866 NB880_866
         have hs159 := zc2 BK866
         have hfs159 := blk_frozen BK866.out 2
         obtain ⟨_, _, _, _, _, _, _, _, _, _⟩ := zs5 NB863_866 NB864_866 NB865_866 NB879_866 NB880_866
         refine skip_ (w1 := ?_) (by rfl) rfl ?_ ?_
         rotate_left
         ·go_simp
          rfl
         refine hK.out _ _ ⟨(zff NB879_866 (zff NB879_866 (zff NB879_866 hHeld.1))), (zff NB879_866 (zff NB879_866 (zff NB879_866 hHeld.2.1))), (zff NB879_866 (zff NB879_866 (zff NB879_866 hHeld.2.2.1))), (zff NB880_866 (zff NB880_866 (zff NB880_866 hHeld.2.2.2.1))), (zff NB880_866 (zff NB880_866 (zff NB880_866 hHeld.2.2.2.2.1))), (zff NB880_866 (zff NB880_866 (zff NB880_866 hHeld.2.2.2.2.2)))⟩ (fun hHeld => ?_)
         clear hK K
         refine done_ (by kernel_rfl) ?_
         try go_wp2
         refine bodyPost_ret (results_cc rfl _ _ gb865 gb866 43 43 #[.bool x880000_55, .int .u64 x880001_55, .int .u64 x880002_55] #[.bool x881000_55, .int .u64 x881001_55, .int .u64 x881002_55] (0, 0) (0, 0) _ _ rfl (zkf (zkf (zkf (blk_put (cs := #[.bool x880000_55, .int .u64 x880001_55, .int .u64 0]) (blk_put (cs := #[.bool x880000_55, .int .u64 0, .int .u64 0]) (blk_put (zkq BK865) 0 _ rfl) 1 _ rfl) 2 _ rfl) NB865_866.out _) NB865_866.out _) NB865_866.out _) Try.underlying43 rfl (by kernel_rfl) rfl (blk_put (cs := #[.bool x881000_55, .int .u64 x881001_55, .int .u64 0]) (blk_put (cs := #[.bool x881000_55, .int .u64 0, .int .u64 0]) (blk_put (zkf (zkf (zkf (zkq BK866) NB866_865.out _) NB866_865.out _) NB866_865.out _) 0 _ rfl) 1 _ rfl) 2 _ rfl) Try.underlying43 rfl (by kernel_rfl)) rfl ?_
         exact ⟨zaE, zaB⟩
theorem span_outer.calls (k : Nat) (a0 : Int) (a1 : Int) (r1 : Bool) (r2 : Int) (r3 : Int) (w : World) (h : span_outer.f k a0 a1 = some (r1, r2, r3)) :
  Calls Try.prog 172 #[.int .u64 a0, .int .u64 a1] w fun e w' => e = .returned (.agg #[.bool r1, .int .u64 r2, .int .u64 r3]) ∧ Below w.heap.size w w' := by
 have hu43 := Try.underlying43
 have HB := Aside0.mk (Below.refl w.heap.size w)
 have H : ((span_inf.f k).bind fun t909 => (if a0 = t909 then ((pattern_Prev.f k a0).bind fun t910 => ((span_Make.f k t910 a1).bind fun bt911 => (some (bt911.1, bt911.2.1, bt911.2.2)))) else ((span_ninf.f k).bind fun t914 => (if a1 = t914 then ((pattern_Next.f k a1).bind fun t915 => ((span_Make.f k a0 t915).bind fun bt916 => (some (bt916.1, bt916.2.1, bt916.2.2)))) else ((span_Make.f k a0 a1).bind fun bt919 => (some (bt919.1, bt919.2.1, bt919.2.2))))))) = some (r1, r2, r3) := h
 clear h
 obtain ⟨t909, A3, H⟩ := zbs H
 try dsimp only at H
 by_cases c4 : a0 = t909
 ·rw [if_pos c4] at H
  have c4b0 : (a0 == t909) = true := beq_iff_eq.mpr c4
  have c4b1 : (a0 != t909) = false := bne_eq_false_iff_eq.mpr c4
  clear c4
  obtain ⟨t910, A5, H⟩ := zbs H
  try dsimp only at H
  obtain ⟨⟨t911, t912, t913⟩, A6, H⟩ := zbs H
  try dsimp only at H
  simp only [Option.some.injEq, Prod.mk.injEq] at H
  obtain ⟨rfl, rfl, rfl⟩ := H
  go_enter Try.func172, Try.ntmps172
  go_wp2_with (first | ((with_reducible refine gtd 4 rfl ?_); refine zbx 4 #[.bool false, .int .u64 0, .int .u64 0] 43 (h := ?_); intro gb908 hg w7 hbox hb; have GW908 := zkZ hg (zaB (p := Below w.heap.size w _)); replace HB := Aside0.mk (below_step zaB hb); have BK908 := Aside0.mk (hbox); clear hb hbox hg) | ((with_reducible refine gtc 114 rfl ?_); refine zgL 7 Try.func114 (span_inf.calls k  t909 _ A3.out) (h := ?_); rintro w' ⟨nd, rfl⟩; (try (rw [drewN_self w7]; generalize hq_ : World.drewN w7 _ = w7; have n0_ : Aside0 (w7.heap[gb908]? = some (.cells #[.bool false, .int .u64 0, .int .u64 0] 43 (0, 0))) := ⟨by rw [← hq_]; exact (zkq BK908)⟩; have n1_ : Aside0 (Below w.heap.size w w7) := ⟨by rw [← hq_]; exact zaB⟩; clear BK908 HB hq_; have BK908 := n0_; have HB := n1_; clear n0_ n1_))) | ((with_reducible refine gtc 168 rfl ?_); refine zgL 10 Try.func168 (pattern_Prev.calls k a0 t910 _ A5.out) (h := ?_); rintro w' ⟨nd, rfl⟩; (try (rw [drewN_self w7]; generalize hq_ : World.drewN w7 _ = w7; have n0_ : Aside0 (w7.heap[gb908]? = some (.cells #[.bool false, .int .u64 0, .int .u64 0] 43 (0, 0))) := ⟨by rw [← hq_]; exact (zkq BK908)⟩; have n1_ : Aside0 (Below w.heap.size w w7) := ⟨by rw [← hq_]; exact zaB⟩; clear BK908 HB hq_; have BK908 := n0_; have HB := n1_; clear n0_ n1_))) | ((with_reducible refine gtc 37 rfl ?_); refine zgL 19 Try.func37 (span_Make.calls k t910 a1 t911 t912 t913 _ A6.out) (h := ?_); rintro w8 hb; replace BK908 := zkb BK908 hb; replace HB := zkB HB hb; (try clear hb); obtain ⟨_, _, _, _, _, _⟩ := zq3 BK908))
  refine bodyPost_ret (results_cell_row rfl _ _ gb908 43 #[.bool t911, .int .u64 t912, .int .u64 t913] (0, 0) _ rfl (blk_put (cs := #[.bool t911, .int .u64 t912, .int .u64 0]) (blk_put (cs := #[.bool t911, .int .u64 0, .int .u64 0]) (blk_put (zkq BK908) 0 _ rfl) 1 _ rfl) 2 _ rfl) Try.underlying43 rfl (by kernel_rfl)) rfl ?_
  exact ⟨zaE, zaB⟩
 rw [if_neg c4] at H
 have c4b0 : (a0 == t909) = false := beq_eq_false_iff_ne.mpr c4
 have c4b1 : (a0 != t909) = true := bne_iff_ne.mpr c4
 obtain ⟨t914, A10, H⟩ := zbs H
 try dsimp only at H
 by_cases c11 : a1 = t914
 ·rw [if_pos c11] at H
  have c11b0 : (a1 == t914) = true := beq_iff_eq.mpr c11
  have c11b1 : (a1 != t914) = false := bne_eq_false_iff_eq.mpr c11
  clear c11
  obtain ⟨t915, A12, H⟩ := zbs H
  try dsimp only at H
  obtain ⟨⟨t916, t917, t918⟩, A13, H⟩ := zbs H
  try dsimp only at H
  simp only [Option.some.injEq, Prod.mk.injEq] at H
  obtain ⟨rfl, rfl, rfl⟩ := H
  go_enter Try.func172, Try.ntmps172
  go_wp2_with (first | ((with_reducible refine gtd 4 rfl ?_); refine zbx 4 #[.bool false, .int .u64 0, .int .u64 0] 43 (h := ?_); intro gb908 hg w14 hbox hb; have GW908 := zkZ hg (zaB (p := Below w.heap.size w _)); replace HB := Aside0.mk (below_step zaB hb); have BK908 := Aside0.mk (hbox); clear hb hbox hg) | ((with_reducible refine gtc 114 rfl ?_); refine zgL 7 Try.func114 (span_inf.calls k  t909 _ A3.out) (h := ?_); rintro w' ⟨nd, rfl⟩; (try (rw [drewN_self w14]; generalize hq_ : World.drewN w14 _ = w14; have n0_ : Aside0 (w14.heap[gb908]? = some (.cells #[.bool false, .int .u64 0, .int .u64 0] 43 (0, 0))) := ⟨by rw [← hq_]; exact (zkq BK908)⟩; have n1_ : Aside0 (Below w.heap.size w w14) := ⟨by rw [← hq_]; exact zaB⟩; clear BK908 HB hq_; have BK908 := n0_; have HB := n1_; clear n0_ n1_))) | ((with_reducible refine gtc 113 rfl ?_); refine zgL 13 Try.func113 (span_ninf.calls k  t914 _ A10.out) (h := ?_); rintro w' ⟨nd, rfl⟩; (try (rw [drewN_self w14]; generalize hq_ : World.drewN w14 _ = w14; have n0_ : Aside0 (w14.heap[gb908]? = some (.cells #[.bool false, .int .u64 0, .int .u64 0] 43 (0, 0))) := ⟨by rw [← hq_]; exact (zkq BK908)⟩; have n1_ : Aside0 (Below w.heap.size w w14) := ⟨by rw [← hq_]; exact zaB⟩; clear BK908 HB hq_; have BK908 := n0_; have HB := n1_; clear n0_ n1_))) | ((with_reducible refine gtc 72 rfl ?_); refine zgL 16 Try.func72 (pattern_Next.calls k a1 t915 _ A12.out) (h := ?_); rintro w' ⟨nd, rfl⟩; (try (rw [drewN_self w14]; generalize hq_ : World.drewN w14 _ = w14; have n0_ : Aside0 (w14.heap[gb908]? = some (.cells #[.bool false, .int .u64 0, .int .u64 0] 43 (0, 0))) := ⟨by rw [← hq_]; exact (zkq BK908)⟩; have n1_ : Aside0 (Below w.heap.size w w14) := ⟨by rw [← hq_]; exact zaB⟩; clear BK908 HB hq_; have BK908 := n0_; have HB := n1_; clear n0_ n1_))) | ((with_reducible refine gtc 37 rfl ?_); refine zgL 19 Try.func37 (span_Make.calls k a0 t915 t916 t917 t918 _ A13.out) (h := ?_); rintro w15 hb; replace BK908 := zkb BK908 hb; replace HB := zkB HB hb; (try clear hb); obtain ⟨_, _, _, _, _, _⟩ := zq3 BK908))
  refine bodyPost_ret (results_cell_row rfl _ _ gb908 43 #[.bool t916, .int .u64 t917, .int .u64 t918] (0, 0) _ rfl (blk_put (cs := #[.bool t916, .int .u64 t917, .int .u64 0]) (blk_put (cs := #[.bool t916, .int .u64 0, .int .u64 0]) (blk_put (zkq BK908) 0 _ rfl) 1 _ rfl) 2 _ rfl) Try.underlying43 rfl (by kernel_rfl)) rfl ?_
  exact ⟨zaE, zaB⟩
 rw [if_neg c11] at H
 have c11b0 : (a1 == t914) = false := beq_eq_false_iff_ne.mpr c11
 have c11b1 : (a1 != t914) = true := bne_iff_ne.mpr c11
 obtain ⟨⟨t919, t920, t921⟩, A17, H⟩ := zbs H
 try dsimp only at H
 simp only [Option.some.injEq, Prod.mk.injEq] at H
 obtain ⟨rfl, rfl, rfl⟩ := H
 go_enter Try.func172, Try.ntmps172
 go_wp2_with (first | ((with_reducible refine gtd 4 rfl ?_); refine zbx 4 #[.bool false, .int .u64 0, .int .u64 0] 43 (h := ?_); intro gb908 hg w18 hbox hb; have GW908 := zkZ hg (zaB (p := Below w.heap.size w _)); replace HB := Aside0.mk (below_step zaB hb); have BK908 := Aside0.mk (hbox); clear hb hbox hg) | ((with_reducible refine gtc 114 rfl ?_); refine zgL 7 Try.func114 (span_inf.calls k  t909 _ A3.out) (h := ?_); rintro w' ⟨nd, rfl⟩; (try (rw [drewN_self w18]; generalize hq_ : World.drewN w18 _ = w18; have n0_ : Aside0 (w18.heap[gb908]? = some (.cells #[.bool false, .int .u64 0, .int .u64 0] 43 (0, 0))) := ⟨by rw [← hq_]; exact (zkq BK908)⟩; have n1_ : Aside0 (Below w.heap.size w w18) := ⟨by rw [← hq_]; exact zaB⟩; clear BK908 HB hq_; have BK908 := n0_; have HB := n1_; clear n0_ n1_))) | ((with_reducible refine gtc 113 rfl ?_); refine zgL 13 Try.func113 (span_ninf.calls k  t914 _ A10.out) (h := ?_); rintro w' ⟨nd, rfl⟩; (try (rw [drewN_self w18]; generalize hq_ : World.drewN w18 _ = w18; have n0_ : Aside0 (w18.heap[gb908]? = some (.cells #[.bool false, .int .u64 0, .int .u64 0] 43 (0, 0))) := ⟨by rw [← hq_]; exact (zkq BK908)⟩; have n1_ : Aside0 (Below w.heap.size w w18) := ⟨by rw [← hq_]; exact zaB⟩; clear BK908 HB hq_; have BK908 := n0_; have HB := n1_; clear n0_ n1_))) | ((with_reducible refine gtc 37 rfl ?_); refine zgL 19 Try.func37 (span_Make.calls k a0 a1 t919 t920 t921 _ A17.out) (h := ?_); rintro w19 hb; replace BK908 := zkb BK908 hb; replace HB := zkB HB hb; (try clear hb); obtain ⟨_, _, _, _, _, _⟩ := zq3 BK908))
 refine bodyPost_ret (results_cell_row rfl _ _ gb908 43 #[.bool t919, .int .u64 t920, .int .u64 t921] (0, 0) _ rfl (blk_put (cs := #[.bool t919, .int .u64 t920, .int .u64 0]) (blk_put (cs := #[.bool t919, .int .u64 0, .int .u64 0]) (blk_put (zkq BK908) 0 _ rfl) 1 _ rfl) 2 _ rfl) Try.underlying43 rfl (by kernel_rfl)) rfl ?_
 exact ⟨zaE, zaB⟩
theorem pattern_Quiet.calls  (r : Int) (w : World) (h : pattern_Quiet.f  = some r) :
  Calls Try.prog 81 #[] w fun e w' => e = .returned (.int .u64 r) ∧ Drawn0 w w' := by
 have H : (some 9221120237041090560) = some r := h
 clear h
 obtain rfl := Option.some.inj H
 go_enter Try.func81, Try.ntmps81
 go_wp2
 go_ret
 exact ⟨by first | rfl | (simp; done) | (simp [*]; done), by repeat (first | exact Drawn0.refl _ | apply Drawn0.step)⟩
theorem pattern_Split.calls (k : Nat) (a0 : Int) (r1 : Int) (r2 : Int) (w : World) (h : pattern_Split.f k a0 = some (r1, r2)) :
  Calls Try.prog 140 #[.int .u64 a0] w fun e w' => e = .returned (.tuple #[.int .u64 r1, .int .i64 r2]) ∧ Drawn0 w w' := by
 have H : ((pattern_Parts.f a0).bind fun bt104 => ((pattern_Class.f k a0).bind fun t107 => (if t107 = 2 then (some (Go.bits .or .u64 4503599627370496 bt104.2.2, wrap64 (bt104.2.1 - 1075))) else (if t107 = 1 then (some (bt104.2.2, (-1074))) else (some (0, 0)))))) = some (r1, r2) := h
 clear h
 obtain ⟨⟨t104, t105, t106⟩, A2, H⟩ := zbs H
 try dsimp only at H
 obtain ⟨t107, A3, H⟩ := zbs H
 try dsimp only at H
 by_cases c4 : t107 = 2
 ·rw [if_pos c4] at H
  have c4b0 : (t107 == 2) = true := beq_iff_eq.mpr c4
  have c4b1 : (t107 != 2) = false := bne_eq_false_iff_eq.mpr c4
  clear c4
  simp only [Option.some.injEq, Prod.mk.injEq] at H
  obtain ⟨rfl, rfl⟩ := H
  go_enter Try.func140, Try.ntmps140
  go_wp2_with (first | ((with_reducible refine gtc 98 rfl ?_); refine zgL 9 Try.func98 (pattern_Parts.calls a0 t104 t105 t106 _ A2.out) (h := ?_); rintro w' ⟨nd, rfl⟩) | ((with_reducible refine gtc 24 rfl ?_); refine zgL 14 Try.func24 (pattern_Class.calls k a0 t107 _ A3.out) (h := ?_); rintro w' ⟨nd, rfl⟩))
  go_ret2
  exact ⟨by first | rfl | (simp; done) | (simp [*]; done), by repeat (first | exact Drawn0.refl _ | apply Drawn0.step)⟩
 rw [if_neg c4] at H
 have c4b0 : (t107 == 2) = false := beq_eq_false_iff_ne.mpr c4
 have c4b1 : (t107 != 2) = true := bne_iff_ne.mpr c4
 by_cases c5 : t107 = 1
 ·rw [if_pos c5] at H
  have c5b0 : (t107 == 1) = true := beq_iff_eq.mpr c5
  have c5b1 : (t107 != 1) = false := bne_eq_false_iff_eq.mpr c5
  clear c5
  simp only [Option.some.injEq, Prod.mk.injEq] at H
  obtain ⟨rfl, rfl⟩ := H
  go_enter Try.func140, Try.ntmps140
  go_wp2_with (first | ((with_reducible refine gtc 98 rfl ?_); refine zgL 9 Try.func98 (pattern_Parts.calls a0 t104 t105 t106 _ A2.out) (h := ?_); rintro w' ⟨nd, rfl⟩) | ((with_reducible refine gtc 24 rfl ?_); refine zgL 14 Try.func24 (pattern_Class.calls k a0 t107 _ A3.out) (h := ?_); rintro w' ⟨nd, rfl⟩))
  go_ret2
  exact ⟨by first | rfl | (simp; done) | (simp [*]; done), by repeat (first | exact Drawn0.refl _ | apply Drawn0.step)⟩
 rw [if_neg c5] at H
 have c5b0 : (t107 == 1) = false := beq_eq_false_iff_ne.mpr c5
 have c5b1 : (t107 != 1) = true := bne_iff_ne.mpr c5
 simp only [Option.some.injEq, Prod.mk.injEq] at H
 obtain ⟨rfl, rfl⟩ := H
 go_enter Try.func140, Try.ntmps140
 go_wp2_with (first | ((with_reducible refine gtc 98 rfl ?_); refine zgL 9 Try.func98 (pattern_Parts.calls a0 t104 t105 t106 _ A2.out) (h := ?_); rintro w' ⟨nd, rfl⟩) | ((with_reducible refine gtc 24 rfl ?_); refine zgL 14 Try.func24 (pattern_Class.calls k a0 t107 _ A3.out) (h := ?_); rintro w' ⟨nd, rfl⟩))
 go_ret2
 exact ⟨by first | rfl | (simp; done) | (simp [*]; done), by repeat (first | exact Drawn0.refl _ | apply Drawn0.step)⟩
theorem soft_of.calls (k : Nat) (a0 : Int) (r1 : Int) (r2 : Int) (r3 : Bool) (r4 : Int) (r5 : Int) (w : World) (h : soft_of.f k a0 = some (r1, r2, r3, r4, r5)) :
  Calls Try.prog 82 #[.int .u64 a0] w fun e w' => e = .returned (.agg #[.int .u64 r1, .int .u8 r2, .bool r3, .int .u64 r4, .int .i64 r5]) ∧ Below w.heap.size w w' := by
 have hu88 := Try.underlying88
 have HB := Aside0.mk (Below.refl w.heap.size w)
 have H : ((pattern_Split.f k a0).bind fun bt109 => ((pattern_Class.f k a0).bind fun t111 => (some (a0, t111, ((a0 / 9223372036854775808) == 1), bt109.1, bt109.2)))) = some (r1, r2, r3, r4, r5) := h
 clear h
 obtain ⟨⟨t109, t110⟩, A2, H⟩ := zbs H
 try dsimp only at H
 obtain ⟨t111, A3, H⟩ := zbs H
 try dsimp only at H
 simp only [Option.some.injEq, Prod.mk.injEq] at H
 obtain ⟨rfl, rfl, rfl, rfl, rfl⟩ := H
 go_enter Try.func82, Try.ntmps82
 go_wp2_with (first | ((with_reducible refine gtd 2 rfl ?_); refine zbx 2 #[.int .u64 0, .int .u8 0, .bool false, .int .u64 0, .int .i64 0] 88 (h := ?_); intro gb108 hg w4 hbox hb; have GW108 := zkZ hg (zaB (p := Below w.heap.size w _)); replace HB := Aside0.mk (below_step zaB hb); have BK108 := Aside0.mk (hbox); clear hb hbox hg) | ((with_reducible refine gtc 140 rfl ?_); refine zgL 7 Try.func140 (pattern_Split.calls k a0 t109 t110 _ A2.out) (h := ?_); rintro w' ⟨nd, rfl⟩; (try (rw [drewN_self w4]; generalize hq_ : World.drewN w4 _ = w4; have n0_ : Aside0 (w4.heap[gb108]? = some (.cells #[.int .u64 0, .int .u8 0, .bool false, .int .u64 0, .int .i64 0] 88 (0, 0))) := ⟨by rw [← hq_]; exact (zkq BK108)⟩; have n1_ : Aside0 (Below w.heap.size w w4) := ⟨by rw [← hq_]; exact zaB⟩; clear BK108 HB hq_; have BK108 := n0_; have HB := n1_; clear n0_ n1_))) | ((with_reducible refine gtc 24 rfl ?_); refine zgL 12 Try.func24 (pattern_Class.calls k a0 t111 _ A3.out) (h := ?_); rintro w' ⟨nd, rfl⟩; (try (rw [drewN_self w4]; generalize hq_ : World.drewN w4 _ = w4; have n0_ : Aside0 (w4.heap[gb108]? = some (.cells #[.int .u64 0, .int .u8 0, .bool false, .int .u64 0, .int .i64 0] 88 (0, 0))) := ⟨by rw [← hq_]; exact (zkq BK108)⟩; have n1_ : Aside0 (Below w.heap.size w w4) := ⟨by rw [← hq_]; exact zaB⟩; clear BK108 HB hq_; have BK108 := n0_; have HB := n1_; clear n0_ n1_)); obtain ⟨_, _, _, _, _, _, _, _, _, _⟩ := zq5 BK108))
 refine bodyPost_ret (results_cell_row rfl _ _ gb108 88 #[.int .u64 a0, .int .u8 t111, .bool ((a0 / 9223372036854775808) == 1), .int .u64 t109, .int .i64 t110] (0, 0) _ rfl (blk_put (cs := #[.int .u64 a0, .int .u8 t111, .bool ((a0 / 9223372036854775808) == 1), .int .u64 t109, .int .i64 0]) (blk_put (cs := #[.int .u64 a0, .int .u8 t111, .bool ((a0 / 9223372036854775808) == 1), .int .u64 0, .int .i64 0]) (blk_put (cs := #[.int .u64 a0, .int .u8 t111, .bool false, .int .u64 0, .int .i64 0]) (blk_put (cs := #[.int .u64 a0, .int .u8 0, .bool false, .int .u64 0, .int .i64 0]) (blk_put (zkq BK108) 0 _ rfl) 1 _ rfl) 2 _ rfl) 3 _ rfl) 4 _ rfl) Try.underlying88 rfl (by kernel_rfl)) rfl ?_
 exact ⟨zaE, zaB⟩
theorem soft_either.calls (a0_0 : Int) (a0_1 : Int) (a0_2 : Bool) (a0_3 : Int) (a0_4 : Int) (a1_0 : Int) (a1_1 : Int) (a1_2 : Bool) (a1_3 : Int) (a1_4 : Int) (a2 : Int) (r : Bool) (w : World) (h : soft_either.f a0_0 a0_1 a0_2 a0_3 a0_4 a1_0 a1_1 a1_2 a1_3 a1_4 a2 = some r) :
  Calls Try.prog 83 #[.agg #[.int .u64 a0_0, .int .u8 a0_1, .bool a0_2, .int .u64 a0_3, .int .i64 a0_4], .agg #[.int .u64 a1_0, .int .u8 a1_1, .bool a1_2, .int .u64 a1_3, .int .i64 a1_4], .int .u8 a2] w fun e w' => e = .returned (.bool r) ∧ Below w.heap.size w w' := by
 have hu88 := Try.underlying88
 have HB := Aside0.mk (Below.refl w.heap.size w)
 have H : (if a0_1 = a2 then (some true) else (some (a1_1 == a2))) = some r := h
 clear h
 by_cases c4 : a0_1 = a2
 ·rw [if_pos c4] at H
  have c4b0 : (a0_1 == a2) = true := beq_iff_eq.mpr c4
  have c4b1 : (a0_1 != a2) = false := bne_eq_false_iff_eq.mpr c4
  clear c4
  obtain rfl := Option.some.inj H
  go_enter Try.func83, Try.ntmps83
  go_wp2_with (first | ((with_reducible refine gtd 3 rfl ?_); refine zbx 3 #[.int .u64 a0_0, .int .u8 a0_1, .bool a0_2, .int .u64 a0_3, .int .i64 a0_4] 88 (h := ?_); intro gb112 hg w5 hbox hb; have GW112 := zkZ hg (zaB (p := Below w.heap.size w _)); replace HB := Aside0.mk (below_step zaB hb); have BK112 := Aside0.mk (hbox); clear hb hbox hg) | ((with_reducible refine gtd 4 rfl ?_); refine zbx 4 #[.int .u64 a1_0, .int .u8 a1_1, .bool a1_2, .int .u64 a1_3, .int .i64 a1_4] 88 (h := ?_); intro gb113 hg w6 hbox hb; have GW113 := zkz HB hg; have NB112_113 := zkl BK112 hg; have NB113_112 := zkr BK112 hg; replace BK112 := zkb BK112 hb; replace HB := zkB HB hb; have BK113 := Aside0.mk (hbox); clear hb hbox hg; obtain ⟨_, _⟩ := zsy NB112_113; obtain ⟨_, _, _, _, _, _, _, _, _, _⟩ := zq5 BK112))
  go_ret
  exact ⟨zaE, zaB⟩
 rw [if_neg c4] at H
 have c4b0 : (a0_1 == a2) = false := beq_eq_false_iff_ne.mpr c4
 have c4b1 : (a0_1 != a2) = true := bne_iff_ne.mpr c4
 obtain rfl := Option.some.inj H
 go_enter Try.func83, Try.ntmps83
 go_wp2_with (first | ((with_reducible refine gtd 3 rfl ?_); refine zbx 3 #[.int .u64 a0_0, .int .u8 a0_1, .bool a0_2, .int .u64 a0_3, .int .i64 a0_4] 88 (h := ?_); intro gb112 hg w9 hbox hb; have GW112 := zkZ hg (zaB (p := Below w.heap.size w _)); replace HB := Aside0.mk (below_step zaB hb); have BK112 := Aside0.mk (hbox); clear hb hbox hg) | ((with_reducible refine gtd 4 rfl ?_); refine zbx 4 #[.int .u64 a1_0, .int .u8 a1_1, .bool a1_2, .int .u64 a1_3, .int .i64 a1_4] 88 (h := ?_); intro gb113 hg w10 hbox hb; have GW113 := zkz HB hg; have NB112_113 := zkl BK112 hg; have NB113_112 := zkr BK112 hg; replace BK112 := zkb BK112 hb; replace HB := zkB HB hb; have BK113 := Aside0.mk (hbox); clear hb hbox hg; obtain ⟨_, _⟩ := zsy NB112_113; obtain ⟨_, _, _, _, _, _, _, _, _, _⟩ := zq5 BK112; obtain ⟨_, _, _, _, _, _, _, _, _, _⟩ := zq5 BK113))
 go_ret
 exact ⟨zaE, zaB⟩
theorem soft_invalid.calls  (r1 : Int) (r2 : Int) (w : World) (h : soft_invalid.f  = some (r1, r2)) :
  Calls Try.prog 84 #[] w fun e w' => e = .returned (.tuple #[.int .u64 r1, .int .u8 r2]) ∧ Drawn0 w w' := by
 have H : ((pattern_Quiet.f).bind fun t114 => (some (t114, 16))) = some (r1, r2) := h
 clear h
 obtain ⟨t114, A1, H⟩ := zbs H
 try dsimp only at H
 simp only [Option.some.injEq, Prod.mk.injEq] at H
 obtain ⟨rfl, rfl⟩ := H
 go_enter Try.func84, Try.ntmps84
 go_wp2_with (first | ((with_reducible refine gtc 81 rfl ?_); refine zgL 2 Try.func81 (pattern_Quiet.calls  t114 _ A1.out) (h := ?_); rintro w' ⟨nd, rfl⟩))
 go_ret2
 exact ⟨by first | rfl | (simp; done) | (simp [*]; done), by repeat (first | exact Drawn0.refl _ | apply Drawn0.step)⟩
theorem bits_Len64.calls (a0 : Int) (r : Int) (w : World) (h : bits_Len64.f a0 = some r) :
  Calls Try.prog 161 #[.int .u64 a0] w fun e w' => e = .returned (.int .i64 r) ∧ Drawn0 w w' := by
 unfold bits_Len64.f at h
 split at h
 ·rename_i g
  obtain rfl := Option.some.inj h
  exact (Try.bits_Len64 a0 w g.1 g.2).mono fun e w' ⟨h1, h2⟩ => ⟨h1, h2 ▸ Drawn0.refl _⟩
 cases h
theorem wide_U128_Len.calls (a0_0 : Int) (a0_1 : Int) (r : Int) (w : World) (h : wide_U128_Len.f a0_0 a0_1 = some r) :
  Calls Try.prog 103 #[.agg #[.int .u64 a0_0, .int .u64 a0_1]] w fun e w' => e = .returned (.int .i64 r) ∧ Below w.heap.size w w' := by
 have hu109 := Try.underlying109
 have HB := Aside0.mk (Below.refl w.heap.size w)
 have H : (if a0_0 > 0 then ((bits_Len64.f a0_0).bind fun t118 => (some (wrap64 (64 + t118)))) else ((bits_Len64.f a0_1).bind fun t119 => (some t119))) = some r := h
 clear h
 by_cases c2 : a0_0 > 0
 ·rw [if_pos c2] at H
  have c2b0 : decide (0 < a0_0) = true := decide_eq_true c2
  clear c2
  obtain ⟨t118, A3, H⟩ := zbs H
  try dsimp only at H
  obtain rfl := Option.some.inj H
  go_enter Try.func103, Try.ntmps103
  go_wp2_with (first | ((with_reducible refine gtd 1 rfl ?_); refine zbx 1 #[.int .u64 a0_0, .int .u64 a0_1] 109 (h := ?_); intro gb117 hg w4 hbox hb; have GW117 := zkZ hg (zaB (p := Below w.heap.size w _)); replace HB := Aside0.mk (below_step zaB hb); have BK117 := Aside0.mk (hbox); clear hb hbox hg; obtain ⟨_, _, _, _⟩ := zq2 BK117) | ((with_reducible refine gtc 161 rfl ?_); refine zgL 8 Try.func161 (bits_Len64.calls a0_0 t118 _ A3.out) (h := ?_); rintro w' ⟨nd, rfl⟩))
  go_ret
  exact ⟨zaE, zaB⟩
 rw [if_neg c2] at H
 have c2b0 : decide (0 < a0_0) = false := decide_eq_false c2
 clear c2
 obtain ⟨t119, A6, H⟩ := zbs H
 try dsimp only at H
 obtain rfl := Option.some.inj H
 go_enter Try.func103, Try.ntmps103
 go_wp2_with (first | ((with_reducible refine gtd 1 rfl ?_); refine zbx 1 #[.int .u64 a0_0, .int .u64 a0_1] 109 (h := ?_); intro gb117 hg w7 hbox hb; have GW117 := zkZ hg (zaB (p := Below w.heap.size w _)); replace HB := Aside0.mk (below_step zaB hb); have BK117 := Aside0.mk (hbox); clear hb hbox hg; obtain ⟨_, _, _, _⟩ := zq2 BK117) | ((with_reducible refine gtc 161 rfl ?_); refine zgL 12 Try.func161 (bits_Len64.calls a0_1 t119 _ A6.out) (h := ?_); rintro w' ⟨nd, rfl⟩))
 go_ret
 exact ⟨zaE, zaB⟩
theorem eqA109 (d : Nat) (w : World) (x0 y0 : Int) (x1 y1 : Int) :
  (Op.equalIn (d + 2) 109 (.agg #[.int .u64 x0, .int .u64 x1]) (.agg #[.int .u64 y0, .int .u64 y1])).run Try.prog w = .ok (x0 == y0 && (x1 == y1)) w := by
 refine eqA_of Try.underlying109 (by kernel_rfl) ?_
 refine eqf_cons (by rfl) (by go_simp; rfl) (by go_simp; rfl) (by go_simp) ?_
 exact eqf_last (by rfl) (by go_simp; rfl) (by go_simp; rfl) (by go_simp)
end Go.Proofs.Ytmadjhmecfbcmaa.F
end
section
namespace Go.Proofs.Ytmadjhmecfbcmaa.F
open Go.RowKit Go.Proofs.YtmadjhmecfbcmaaW.PrintWords Go.Proofs.YtmadjhmecfbcmaaW.PrintLast Go.Proofs.YtmadjhmecfbcmaaW.PrintMore
attribute [local go_sem] max2_int min2_int max_two min_two max_three min_three max_four min_four
set_option linter.unusedVariables false
set_option linter.unusedSimpArgs false
set_option maxHeartbeats 8000000
set_option maxRecDepth 100000
attribute [local go_sem high] eqA109
def wide_U128_Shl.T8 : Bool × List (List Nat × List Nat) := (true, [([], []), ([0], [0]), ([], []), ([1, 2], [1, 2]), ([], []), ([4], [4]), ([], []), ([6], [6]), ([5, 7], [5, 7]), ([3, 8], [3, 8]), ([], []), ([10], [10]), ([], []), ([11, 12], [11, 12]), ([9, 13], [9, 13]), ([14, 0, 1, 2, 3, 4, 5, 6, 7, 8, 9, 10, 11, 12, 13, 14], [14])])
def wide_U128_Shl.B8 : List Nat := [0, 1, 0, 7, 0, 16, 0, 64, 240, 511, 0, 1024, 0, 7168, 16383, 32767]
theorem wide_U128_Shl.tab8 : rtab .any (opsOf Try.f106 8) = wide_U128_Shl.T8 := by kernel_rfl
theorem wide_U128_Shl.bits8 : waitsOk wide_U128_Shl.T8.2 wide_U128_Shl.B8 = true := by kernel_rfl
theorem wide_U128_Shl.calls (k : Nat) (a0_0 : Int) (a0_1 : Int) (a1 : Int) (r1 : Int) (r2 : Int) (w : World) (h : wide_U128_Shl.f k a0_0 a0_1 a1 = some (r1, r2)) :
  Calls Try.prog 106 #[.agg #[.int .u64 a0_0, .int .u64 a0_1], .int .i64 a1] w fun e w' => e = .returned (.agg #[.int .u64 r1, .int .u64 r2]) ∧ Below w.heap.size w w' := by
 have hu109 := Try.underlying109
 have HB := Aside0.mk (Below.refl w.heap.size w)
 have H : (wide_U128_Shl.l0 k a1 a0_0 a0_1) = some (r1, r2) := h
 clear h
 have H' := Aside0.mk H
 clear H
 go_enter Try.func106, Try.ntmps106
 go_wp2_with (first | ((with_reducible refine gtd 2 rfl ?_); refine zbx 2 #[.int .u64 a0_0, .int .u64 a0_1] 109 (h := ?_); intro gb120 hg w3 hbox hb; have GW120 := zkZ hg (zaB (p := Below w.heap.size w _)); replace HB := Aside0.mk (below_step zaB hb); have BK120 := Aside0.mk (hbox); clear hb hbox hg) | ((with_reducible refine gtd 4 rfl ?_); refine zbx 4 #[.int .u64 0, .int .u64 0] 109 (h := ?_); intro gb121 hg w4 hbox hb; have GW121 := zkz HB hg; have NB120_121 := zkl BK120 hg; have NB121_120 := zkr BK120 hg; replace BK120 := zkb BK120 hb; replace HB := zkB HB hb; have BK121 := Aside0.mk (hbox); clear hb hbox hg))
 (try simp only [Act.put, List.setIfInBounds_toArray, List.set_cons_zero, List.set_cons_succ])
 go_loopg [1] k (fun kq v1 w' => ∃ (x1_1 : Int) (x121000_1 : Int) (x121001_1 : Int) (x122000_1 : Int) (x122001_1 : Int), v1 = .int .i64 x1_1 ∧ Aside0 (wide_U128_Shl.l0 kq x1_1 x121000_1 x121001_1 = some (r1, r2)) ∧ Aside0 (kq ≤ k) ∧ Aside0 (w'.heap[gb120]? = some (.cells #[.int .u64 x121000_1, .int .u64 x121001_1] 109 (0, 0))) ∧ Aside0 (w'.heap[gb121]? = some (.cells #[.int .u64 x122000_1, .int .u64 x122001_1] 109 (0, 0))) ∧ Aside0 (Below w.heap.size w w'))
 case atStart => exact ⟨(a1), (a0_0), (a0_1), (0), (0), zrl, H', ⟨Nat.le_refl _⟩, ⟨zkq BK120⟩, ⟨zkq BK121⟩, ⟨zaB⟩⟩
 case round =>
  clear H'
  try clear c1
  try clear p2
  obtain ⟨x1_1, x121000_1, x121001_1, x122000_1, x122001_1, rfl, HA, HK1, BK120, BK121, HB⟩ := hrel
  cases gk with
  | zero => exact absurd HA.out (by simp [wide_U128_Shl.l0])
  | succ k1 =>
   have H := HA.out
   clear HA
   simp only [wide_U128_Shl.l0] at H
   by_cases c5 : x1_1 ≥ 64
   ·rw [if_pos c5] at H
    have c5b0 : decide (64 ≤ x1_1) = true := decide_eq_true c5
    clear c5
    by_cases c6 : (x121001_1 == 0) = true
    ·rw [if_pos c6] at H
     have c6b0 : (x121001_1 == 0) = true := c6
     (try (have c6b1 : decide (x121001_1 = 0) = true := by simpa using c6))
     (try (have c6b2 : (x121001_1 == 0) = true := by simpa using c6))
     clear c6
     simp only [Option.some.injEq, Prod.mk.injEq] at H
     obtain ⟨rfl, rfl⟩ := H
     obtain ⟨_, _⟩ := zsy NB120_121
     obtain ⟨_, _, _, _⟩ := zq2 BK120
     obtain ⟨_, _, _, _⟩ := zq2 BK121
     go_wp2
     refine bodyPost_ret (results_cell_row rfl _ _ gb121 109 #[.int .u64 x121001_1, .int .u64 0] (0, 0) _ rfl (blk_put (cs := #[.int .u64 x121001_1, .int .u64 x122001_1]) (blk_put (zkf (zkf (zkq BK121) NB121_120.out _) NB121_120.out _) 0 _ rfl) 1 _ rfl) Try.underlying109 rfl (by kernel_rfl)) rfl ?_
     exact ⟨zaE, zaB⟩
    rw [if_neg c6] at H
    have c6b0 : (x121001_1 == 0) = false := by simpa using c6
    (try (have c6b1 : decide (x121001_1 = 0) = false := by simpa using c6))
    (try (have c6b2 : (x121001_1 == 0) = false := by simpa using c6))
    (try (have c6b3 : ¬ (x121001_1 = 0) := by simpa using c6))
    clear c6
    have H' := Aside0.mk H
    clear H
    obtain ⟨_, _⟩ := zsy NB120_121
    obtain ⟨_, _, _, _⟩ := zq2 BK120
    go_wp2
    go_roundg k1
    case measure => have := HK1.out; omega
    case rel => exact ⟨(wrap64 (x1_1 - 64)), (x121001_1), (0), (x122000_1), (x122001_1), zrl, H', ⟨by have := HK1.out; omega⟩, ⟨(blk_put (cs := #[.int .u64 x121001_1, .int .u64 x121001_1]) (blk_put (zkq BK120) 0 _ rfl) 1 _ rfl)⟩, ⟨(zkf (zkf (zkq BK121) NB121_120.out _) NB121_120.out _)⟩, ⟨zaB⟩⟩
   rw [if_neg c5] at H
   have c5b0 : decide (64 ≤ x1_1) = false := decide_eq_false c5
   clear c5
   by_cases c12 : x1_1 ≤ 0
   ·rw [if_pos c12] at H
    have c12b0 : decide (x1_1 ≤ 0) = true := decide_eq_true c12
    clear c12
    simp only [Option.some.injEq, Prod.mk.injEq] at H
    obtain ⟨rfl, rfl⟩ := H
    obtain ⟨_, _⟩ := zsy NB120_121
    obtain ⟨_, _, _, _⟩ := zq2 BK120
    obtain ⟨_, _, _, _⟩ := zq2 BK121
    go_wp2
    refine bodyPost_ret (results_cell_row rfl _ _ gb121 109 #[.int .u64 x121000_1, .int .u64 x121001_1] (0, 0) _ rfl (blk_put (cs := #[.int .u64 x121000_1, .int .u64 x122001_1]) (blk_put (zkq BK121) 0 _ rfl) 1 _ rfl) Try.underlying109 rfl (by kernel_rfl)) rfl ?_
    exact ⟨zaE, zaB⟩
   rw [if_neg c12] at H
   have c12b0 : decide (x1_1 ≤ 0) = false := decide_eq_false c12
   clear c12
   by_cases c16 : 0 ≤ x1_1
   ·rw [if_pos c16] at H
    have c16b0 := eq_true c16
    have c16b1 : decide (0 ≤ x1_1) = true := decide_eq_true c16
    clear c16
    obtain ⟨ji17, hji17⟩ : ∃ j_ : Int, (shl .u64 x121000_1 x1_1) = j_ := ⟨_, rfl⟩
    replace H : (if 0 ≤ (wrap64 (64 - x1_1)) then (some (Go.bits .or .u64 (ji17) (shr .u64 x121001_1 (wrap64 (64 - x1_1))), shl .u64 x121001_1 x1_1)) else (none)) = some (r1, r2) := by first | (rw [hji17] at H; exact H) | (simp only [hji17] at H ⊢; exact H)
    have hji17_ : (IntKind.u64.wrap (x121000_1 * 2 ^ min x1_1.toNat 64)) = ji17 := hji17
    have hji17z : x1_1 ≤ 64 → (IntKind.u64.wrap (x121000_1 * 2 ^ x1_1.toNat)) = ji17 := shl_small hji17
    obtain ⟨ji18, hji18⟩ : ∃ j_ : Int, (wrap64 (64 - x1_1)) = j_ := ⟨_, rfl⟩
    replace H : (if 0 ≤ (ji18) then (some (Go.bits .or .u64 (ji17) (shr .u64 x121001_1 (ji18)), shl .u64 x121001_1 x1_1)) else (none)) = some (r1, r2) := by first | (rw [hji18] at H; exact H) | (simp only [hji18] at H ⊢; exact H)
    have hji18w : (IntKind.i64.wrap (64 - x1_1)) = ji18 := (i64_w _).trans hji18
    by_cases c19 : 0 ≤ (ji18)
    ·rw [if_pos c19] at H
     have c19b0 := eq_true c19
     have c19b1 : decide (0 ≤ (ji18)) = true := decide_eq_true c19
     clear c19
     obtain ⟨ji20, hji20⟩ : ∃ j_ : Int, (shr .u64 x121001_1 (ji18)) = j_ := ⟨_, rfl⟩
     replace H : (some (Go.bits .or .u64 (ji17) (ji20), shl .u64 x121001_1 x1_1)) = some (r1, r2) := by first | (rw [hji20] at H; exact H) | (simp only [hji20] at H ⊢; exact H)
     have hji20_ : (x121001_1 / 2 ^ min (ji18).toNat 64) = ji20 := hji20
     have hji20z : (ji18) ≤ 64 → (x121001_1 / 2 ^ (ji18).toNat) = ji20 := shr_small hji20
     have c21b0 := eq_true (of_decide_eq_true (by first | (with_reducible assumption) | assumption) : 0 ≤ x1_1)
     obtain ⟨ji22, hji22⟩ : ∃ j_ : Int, (shl .u64 x121001_1 x1_1) = j_ := ⟨_, rfl⟩
     replace H : (some (Go.bits .or .u64 (ji17) (ji20), ji22)) = some (r1, r2) := by first | (rw [hji22] at H; exact H) | (simp only [hji22] at H ⊢; exact H)
     have hji22_ : (IntKind.u64.wrap (x121001_1 * 2 ^ min x1_1.toNat 64)) = ji22 := hji22
     have hji22z : x1_1 ≤ 64 → (IntKind.u64.wrap (x121001_1 * 2 ^ x1_1.toNat)) = ji22 := shl_small hji22
     simp only [Option.some.injEq, Prod.mk.injEq] at H
     obtain ⟨rfl, rfl⟩ := H
     try go_wp2
     replace BK120 := Aside0.mk (blk_drew BK120.out)
     replace BK121 := Aside0.mk (blk_drew BK121.out)
     replace HB := Aside0.mk (below_drew1 HB.out)
     refine start_ (n := 16) (S := fun w' => w'.cell? ⟨gb120, 0, none⟩ = some (.int .u64 x121000_1) ∧ w'.cell? ⟨gb120, 1, none⟩ = some (.int .u64 x121001_1)) (ds := []) #[false, false, false, false, false, false, false, false, false, false, false, false, false, false, false, false] (by kernel_rfl) rfl rfl (ze2 BK120) (fun hHeld => ?_); refine with_tabW wide_U128_Shl.tab8 wide_U128_Shl.bits8 (fun HT_ HW_ => ?_)
     generalize wr.drew = w23 at BK120 BK121 HB hHeld ⊢
     refine zpA 0 19 (h := ?_)
     refine zpA 2 21 (h := ?_)
     refine zpA 4 23 (h := ?_)
     refine zpA 6 25 (h := ?_)
     refine zpA 7 26 (h := ?_)
     refine zpA 10 29 (h := ?_)
     refine zpA 12 31 (h := ?_)
     refine ztA 1 20 (h := ?_)
     refine zpA 3 22 (h := ?_)
     refine ztA 5 24 (h := ?_)
     refine zpA 8 27 (h := ?_)
     refine zpA 9 28 (h := ?_)
     refine ztA 11 30 (h := ?_)
     refine zpA 13 32 (h := ?_)
     refine zpA 14 33 (h := ?_)
     refine one_ (i := 15) (N := none) #[true, true, true, true, true, true, true, true, true, true, true, true, true, true, true, true] rfl rfl (one_of HT_.out (by kernel_rfl)) (by decide) (fun K hK => ?_)
     have hs24 := zc0 BK121
     have hfs24 := blk_frozen BK121.out 0
     obtain ⟨_, _⟩ := zsy NB120_121
     have hs25 := zc1 BK121
     have hfs25 := blk_frozen BK121.out 1
     obtain ⟨_, _⟩ := zsy NB120_121
     refine skip_ (w1 := ?_) (by rfl) rfl ?_ ?_
     rotate_left
     ·go_simp
      rfl
     refine hK.out _ _ ⟨(zff NB120_121 (zff NB120_121 hHeld.1)), (zff NB120_121 (zff NB120_121 hHeld.2))⟩ (fun hHeld => ?_)
     clear hK K
     refine done_ (done_of HT_.out (by kernel_rfl)) ?_
     try go_wp2
     refine bodyPost_ret (results_cell_row rfl _ _ gb121 109 #[.int .u64 (Go.bits .or .u64 (ji17) (ji20)), .int .u64 ji22] (0, 0) _ rfl (blk_put (cs := #[.int .u64 (Go.bits .or .u64 (ji17) (ji20)), .int .u64 x122001_1]) (blk_put (zkq BK121) 0 _ rfl) 1 _ rfl) Try.underlying109 rfl (by kernel_rfl)) rfl ?_
     exact ⟨by first | rfl | (simp [errW_none, errW_some] <;> rfl) | (simp only [← hji17, ← hji18, ← hji20, ← hji22]; first | rfl | (simp [errW_none, errW_some] <;> rfl)) | (simp [*, errW_none, errW_some] <;> rfl), zaB⟩
    rw [if_neg c19] at H
    exact absurd H (by simp)
   rw [if_neg c16] at H
   exact absurd H (by simp)
def wide_U128_Shr.T10 : Bool × List (List Nat × List Nat) := (true, [([], []), ([0], [0]), ([], []), ([1, 2], [1, 2]), ([], []), ([4], [4]), ([], []), ([5, 6], [5, 6]), ([], []), ([8], [8]), ([], []), ([10], [10]), ([9, 11], [9, 11]), ([7, 12], [7, 12]), ([3, 13], [3, 13]), ([], []), ([15], [15]), ([16], [16]), ([17, 16], [16, 17]), ([16], [16]), ([19, 16], [16, 19]), ([18, 20, 16], [16, 18, 20]), ([21, 16], [16, 21]), ([16, 22], [16, 22]), ([14, 16, 0, 1, 2, 3, 4, 5, 6, 7, 8, 9, 10, 11, 12, 13, 14], [14]), ([23, 24, 0, 1, 2, 3, 4, 5, 6, 7, 8, 9, 10, 11, 12, 13, 14, 15, 16, 17, 18, 19, 20, 21, 22, 23, 24], [23])])
def wide_U128_Shr.B10 : List Nat := [0, 1, 0, 7, 0, 16, 0, 112, 0, 256, 0, 1024, 3840, 8176, 16383, 0, 32768, 98304, 229376, 98304, 622592, 2064384, 4161536, 8355840, 131071, 33554431]
theorem wide_U128_Shr.tab10 : rtab .any (opsOf Try.f151 10) = wide_U128_Shr.T10 := by kernel_rfl
theorem wide_U128_Shr.bits10 : waitsOk wide_U128_Shr.T10.2 wide_U128_Shr.B10 = true := by kernel_rfl
theorem wide_U128_Shr.calls (k : Nat) (a0_0 : Int) (a0_1 : Int) (a1 : Int) (r1 : Int) (r2 : Int) (r3 : Bool) (w : World) (h : wide_U128_Shr.f k a0_0 a0_1 a1 = some (r1, r2, r3)) :
  Calls Try.prog 151 #[.agg #[.int .u64 a0_0, .int .u64 a0_1], .int .i64 a1] w fun e w' => e = .returned (.tuple #[.agg #[.int .u64 r1, .int .u64 r2], .bool r3]) ∧ Below w.heap.size w w' := by
 have hu109 := Try.underlying109
 have HB := Aside0.mk (Below.refl w.heap.size w)
 have H : (wide_U128_Shr.l0 k a1 false a0_0 a0_1) = some (r1, r2, r3) := h
 clear h
 have H' := Aside0.mk H
 clear H
 go_enter Try.func151, Try.ntmps151
 go_wp2_with (first | ((with_reducible refine gtd 2 rfl ?_); refine zbx 2 #[.int .u64 a0_0, .int .u64 a0_1] 109 (h := ?_); intro gb122 hg w3 hbox hb; have GW122 := zkZ hg (zaB (p := Below w.heap.size w _)); replace HB := Aside0.mk (below_step zaB hb); have BK122 := Aside0.mk (hbox); clear hb hbox hg) | ((with_reducible refine gtd 4 rfl ?_); refine zbx 4 #[.int .u64 0, .int .u64 0] 109 (h := ?_); intro gb123 hg w4 hbox hb; have GW123 := zkz HB hg; have NB122_123 := zkl BK122 hg; have NB123_122 := zkr BK122 hg; replace BK122 := zkb BK122 hb; replace HB := zkB HB hb; have BK123 := Aside0.mk (hbox); clear hb hbox hg))
 (try simp only [Act.put, List.setIfInBounds_toArray, List.set_cons_zero, List.set_cons_succ])
 go_loopg [1, 6] k (fun kq v1 v6 w' => ∃ (x1_1 : Int) (x6_1 : Bool) (x123000_1 : Int) (x123001_1 : Int) (x124000_1 : Int) (x124001_1 : Int), v1 = .int .i64 x1_1 ∧ v6 = .bool x6_1 ∧ Aside0 (wide_U128_Shr.l0 kq x1_1 x6_1 x123000_1 x123001_1 = some (r1, r2, r3)) ∧ Aside0 (kq ≤ k) ∧ Aside0 (w'.heap[gb122]? = some (.cells #[.int .u64 x123000_1, .int .u64 x123001_1] 109 (0, 0))) ∧ Aside0 (w'.heap[gb123]? = some (.cells #[.int .u64 x124000_1, .int .u64 x124001_1] 109 (0, 0))) ∧ Aside0 (Below w.heap.size w w'))
 case atStart => exact ⟨(a1), (false), (a0_0), (a0_1), (0), (0), zrl, zrl, H', ⟨Nat.le_refl _⟩, ⟨zkq BK122⟩, ⟨zkq BK123⟩, ⟨zaB⟩⟩
 case round =>
  clear H'
  try clear c1
  try clear p2
  obtain ⟨x1_1, x6_1, x123000_1, x123001_1, x124000_1, x124001_1, rfl, rfl, HA, HK1, BK122, BK123, HB⟩ := hrel
  cases gk with
  | zero => exact absurd HA.out (by simp [wide_U128_Shr.l0])
  | succ k1 =>
   have H := HA.out
   clear HA
   simp only [wide_U128_Shr.l0] at H
   by_cases c5 : x1_1 ≥ 64
   ·rw [if_pos c5] at H
    have c5b0 : decide (64 ≤ x1_1) = true := decide_eq_true c5
    clear c5
    by_cases c6 : x6_1 = true
    ·subst c6
     replace H := zit H
     by_cases c7 : (x123000_1 == 0) = true
     ·rw [if_pos c7] at H
      have c7b0 : (x123000_1 == 0) = true := c7
      (try (have c7b1 : decide (x123000_1 = 0) = true := by simpa using c7))
      (try (have c7b2 : (x123000_1 == 0) = true := by simpa using c7))
      clear c7
      simp only [Option.some.injEq, Prod.mk.injEq] at H
      obtain ⟨rfl, rfl, rfl⟩ := H
      obtain ⟨_, _⟩ := zsy NB122_123
      obtain ⟨_, _, _, _⟩ := zq2 BK122
      obtain ⟨_, _, _, _⟩ := zq2 BK123
      go_wp2
      refine bodyPost_ret (results_ct rfl _ _ gb123 109 #[.int .u64 0, .int .u64 x123000_1] (0, 0) _ rfl (blk_put (cs := #[.int .u64 0, .int .u64 x124001_1]) (blk_put (zkf (zkf (zkq BK123) NB123_122.out _) NB123_122.out _) 0 _ rfl) 1 _ rfl) Try.underlying109 rfl (by kernel_rfl)) rfl ?_
      exact ⟨zaE, zaB⟩
     rw [if_neg c7] at H
     have c7b0 : (x123000_1 == 0) = false := by simpa using c7
     (try (have c7b1 : decide (x123000_1 = 0) = false := by simpa using c7))
     (try (have c7b2 : (x123000_1 == 0) = false := by simpa using c7))
     (try (have c7b3 : ¬ (x123000_1 = 0) := by simpa using c7))
     clear c7
     have H' := Aside0.mk H
     clear H
     obtain ⟨_, _⟩ := zsy NB122_123
     obtain ⟨_, _, _, _⟩ := zq2 BK122
     go_wp2
     go_roundg k1
     case measure => have := HK1.out; omega
     case rel => exact ⟨(wrap64 (x1_1 - 64)), (true), (0), (x123000_1), (x124000_1), (x124001_1), zrl, zrl, H', ⟨by have := HK1.out; omega⟩, ⟨(blk_put (cs := #[.int .u64 0, .int .u64 x123001_1]) (blk_put (zkq BK122) 0 _ rfl) 1 _ rfl)⟩, ⟨(zkf (zkf (zkq BK123) NB123_122.out _) NB123_122.out _)⟩, ⟨zaB⟩⟩
    replace c6 := Bool.eq_false_iff.mpr c6
    subst c6
    replace H := zif H
    by_cases c13 : (x123000_1 == 0) = true
    ·rw [if_pos c13] at H
     have c13b0 : (x123000_1 == 0) = true := c13
     (try (have c13b1 : decide (x123000_1 = 0) = true := by simpa using c13))
     (try (have c13b2 : (x123000_1 == 0) = true := by simpa using c13))
     clear c13
     simp only [Option.some.injEq, Prod.mk.injEq] at H
     obtain ⟨rfl, rfl, rfl⟩ := H
     obtain ⟨_, _⟩ := zsy NB122_123
     obtain ⟨_, _, _, _⟩ := zq2 BK122
     obtain ⟨_, _, _, _⟩ := zq2 BK123
     go_wp2
     refine bodyPost_ret (results_ct rfl _ _ gb123 109 #[.int .u64 0, .int .u64 x123000_1] (0, 0) _ rfl (blk_put (cs := #[.int .u64 0, .int .u64 x124001_1]) (blk_put (zkf (zkf (zkq BK123) NB123_122.out _) NB123_122.out _) 0 _ rfl) 1 _ rfl) Try.underlying109 rfl (by kernel_rfl)) rfl ?_
     exact ⟨zaE, zaB⟩
    rw [if_neg c13] at H
    have c13b0 : (x123000_1 == 0) = false := by simpa using c13
    (try (have c13b1 : decide (x123000_1 = 0) = false := by simpa using c13))
    (try (have c13b2 : (x123000_1 == 0) = false := by simpa using c13))
    (try (have c13b3 : ¬ (x123000_1 = 0) := by simpa using c13))
    clear c13
    have H' := Aside0.mk H
    clear H
    obtain ⟨_, _⟩ := zsy NB122_123
    obtain ⟨_, _, _, _⟩ := zq2 BK122
    go_wp2
    go_roundg k1
    case measure => have := HK1.out; omega
    case rel => exact ⟨(wrap64 (x1_1 - 64)), ((x123001_1 != 0)), (0), (x123000_1), (x124000_1), (x124001_1), zrl, zrl, H', ⟨by have := HK1.out; omega⟩, ⟨(blk_put (cs := #[.int .u64 0, .int .u64 x123001_1]) (blk_put (zkq BK122) 0 _ rfl) 1 _ rfl)⟩, ⟨(zkf (zkf (zkq BK123) NB123_122.out _) NB123_122.out _)⟩, ⟨zaB⟩⟩
   rw [if_neg c5] at H
   have c5b0 : decide (64 ≤ x1_1) = false := decide_eq_false c5
   clear c5
   by_cases c19 : x1_1 ≤ 0
   ·rw [if_pos c19] at H
    have c19b0 : decide (x1_1 ≤ 0) = true := decide_eq_true c19
    clear c19
    simp only [Option.some.injEq, Prod.mk.injEq] at H
    obtain ⟨rfl, rfl, rfl⟩ := H
    obtain ⟨_, _⟩ := zsy NB122_123
    obtain ⟨_, _, _, _⟩ := zq2 BK122
    obtain ⟨_, _, _, _⟩ := zq2 BK123
    go_wp2
    refine bodyPost_ret (results_ct rfl _ _ gb123 109 #[.int .u64 x123000_1, .int .u64 x123001_1] (0, 0) _ rfl (blk_put (cs := #[.int .u64 x123000_1, .int .u64 x124001_1]) (blk_put (zkq BK123) 0 _ rfl) 1 _ rfl) Try.underlying109 rfl (by kernel_rfl)) rfl ?_
    exact ⟨zaE, zaB⟩
   rw [if_neg c19] at H
   have c19b0 : decide (x1_1 ≤ 0) = false := decide_eq_false c19
   clear c19
   by_cases c23 : 0 ≤ x1_1
   ·rw [if_pos c23] at H
    have c23b0 := eq_true c23
    have c23b1 : decide (0 ≤ x1_1) = true := decide_eq_true c23
    clear c23
    obtain ⟨ji24, hji24⟩ : ∃ j_ : Int, (shr .u64 x123000_1 x1_1) = j_ := ⟨_, rfl⟩
    replace H : (if 0 ≤ (wrap64 (64 - x1_1)) then (if x6_1 = true then (some (ji24, Go.bits .or .u64 (shr .u64 x123001_1 x1_1) (shl .u64 x123000_1 (wrap64 (64 - x1_1))), true)) else (some (ji24, Go.bits .or .u64 (shr .u64 x123001_1 x1_1) (shl .u64 x123000_1 (wrap64 (64 - x1_1))), ((shl .u64 x123001_1 (wrap64 (64 - x1_1))) != 0)))) else (none)) = some (r1, r2, r3) := by first | (rw [hji24] at H; exact H) | (simp only [hji24] at H ⊢; exact H)
    have hji24_ : (x123000_1 / 2 ^ min x1_1.toNat 64) = ji24 := hji24
    have hji24z : x1_1 ≤ 64 → (x123000_1 / 2 ^ x1_1.toNat) = ji24 := shr_small hji24
    have c25b0 := eq_true (of_decide_eq_true (by first | (with_reducible assumption) | assumption) : 0 ≤ x1_1)
    obtain ⟨ji26, hji26⟩ : ∃ j_ : Int, (shr .u64 x123001_1 x1_1) = j_ := ⟨_, rfl⟩
    replace H : (if 0 ≤ (wrap64 (64 - x1_1)) then (if x6_1 = true then (some (ji24, Go.bits .or .u64 (ji26) (shl .u64 x123000_1 (wrap64 (64 - x1_1))), true)) else (some (ji24, Go.bits .or .u64 (ji26) (shl .u64 x123000_1 (wrap64 (64 - x1_1))), ((shl .u64 x123001_1 (wrap64 (64 - x1_1))) != 0)))) else (none)) = some (r1, r2, r3) := by first | (rw [hji26] at H; exact H) | (simp only [hji26] at H ⊢; exact H)
    have hji26_ : (x123001_1 / 2 ^ min x1_1.toNat 64) = ji26 := hji26
    have hji26z : x1_1 ≤ 64 → (x123001_1 / 2 ^ x1_1.toNat) = ji26 := shr_small hji26
    obtain ⟨ji27, hji27⟩ : ∃ j_ : Int, (wrap64 (64 - x1_1)) = j_ := ⟨_, rfl⟩
    replace H : (if 0 ≤ (ji27) then (if x6_1 = true then (some (ji24, Go.bits .or .u64 (ji26) (shl .u64 x123000_1 (ji27)), true)) else (some (ji24, Go.bits .or .u64 (ji26) (shl .u64 x123000_1 (ji27)), ((shl .u64 x123001_1 (ji27)) != 0)))) else (none)) = some (r1, r2, r3) := by first | (rw [hji27] at H; exact H) | (simp only [hji27] at H ⊢; exact H)
    have hji27w : (IntKind.i64.wrap (64 - x1_1)) = ji27 := (i64_w _).trans hji27
    by_cases c28 : 0 ≤ (ji27)
    ·rw [if_pos c28] at H
     have c28b0 := eq_true c28
     have c28b1 : decide (0 ≤ (ji27)) = true := decide_eq_true c28
     clear c28
     obtain ⟨ji29, hji29⟩ : ∃ j_ : Int, (shl .u64 x123000_1 (ji27)) = j_ := ⟨_, rfl⟩
     replace H : (if x6_1 = true then (some (ji24, Go.bits .or .u64 (ji26) (ji29), true)) else (some (ji24, Go.bits .or .u64 (ji26) (ji29), ((shl .u64 x123001_1 (ji27)) != 0)))) = some (r1, r2, r3) := by first | (rw [hji29] at H; exact H) | (simp only [hji29] at H ⊢; exact H)
     have hji29_ : (IntKind.u64.wrap (x123000_1 * 2 ^ min (ji27).toNat 64)) = ji29 := hji29
     have hji29z : (ji27) ≤ 64 → (IntKind.u64.wrap (x123000_1 * 2 ^ (ji27).toNat)) = ji29 := shl_small hji29
     by_cases c30 : x6_1 = true
     ·subst c30
      replace H := zit H
      simp only [Option.some.injEq, Prod.mk.injEq] at H
      obtain ⟨rfl, rfl, rfl⟩ := H
      try go_wp2
      replace BK122 := Aside0.mk (blk_drew BK122.out)
      replace BK123 := Aside0.mk (blk_drew BK123.out)
      replace HB := Aside0.mk (below_drew1 HB.out)
      refine start_ (n := 26) (S := fun w' => w'.cell? ⟨gb122, 0, none⟩ = some (.int .u64 x123000_1) ∧ w'.cell? ⟨gb122, 1, none⟩ = some (.int .u64 x123001_1)) (ds := []) #[false, false, false, false, false, false, false, false, false, false, false, false, false, false, false, false, false, false, false, false, false, false, false, false, false, false] (by kernel_rfl) rfl rfl (ze2 BK122) (fun hHeld => ?_); refine with_tabW wide_U128_Shr.tab10 wide_U128_Shr.bits10 (fun HT_ HW_ => ?_)
      generalize wr.drew = w31 at BK122 BK123 HB hHeld ⊢
      refine zpA 0 29 (h := ?_)
      refine zpA 2 31 (h := ?_)
      refine zpA 4 33 (h := ?_)
      refine zpA 6 35 (h := ?_)
      refine zpA 8 37 (h := ?_)
      refine zpA 10 39 (h := ?_)
      refine zpA 11 40 (h := ?_)
      refine zpA 15 44 (h := ?_)
      refine zpA 16 45 (h := ?_)
      refine zpU 17 46 (h := ?_)
      refine zpU 18 47 (h := ?_)
      refine zpU 19 48 (h := ?_)
      refine zpU 20 49 (h := ?_)
      refine zpU 21 50 (h := ?_)
      refine zpU 22 51 (h := ?_)
      refine zpA 23 52 (h := ?_)
      refine ztA 1 30 (h := ?_)
      refine zpA 3 32 (h := ?_)
      refine ztA 5 34 (h := ?_)
      refine zpA 7 36 (h := ?_)
      refine ztA 9 38 (h := ?_)
      refine zpA 12 41 (h := ?_)
      refine zpA 13 42 (h := ?_)
      refine zpA 14 43 (h := ?_)
      refine one_ (i := 24) (N := none) #[true, true, true, true, true, true, true, true, true, true, true, true, true, true, true, true, true, true, true, true, true, true, true, true, true, false] rfl rfl (one_of HT_.out (by kernel_rfl)) (by decide) (fun K hK => ?_)
      have hs32 := zc0 BK123
      have hfs32 := blk_frozen BK123.out 0
      obtain ⟨_, _⟩ := zsy NB122_123
      have hs33 := zc1 BK123
      have hfs33 := blk_frozen BK123.out 1
      obtain ⟨_, _⟩ := zsy NB122_123
      refine skip_ (w1 := ?_) (by rfl) rfl ?_ ?_
      rotate_left
      ·go_simp
       rfl
      refine hK.out _ _ ⟨(zff NB122_123 (zff NB122_123 hHeld.1)), (zff NB122_123 (zff NB122_123 hHeld.2))⟩ (fun hHeld => ?_)
      clear hK K
      refine zpA 25 5 (h := ?_)
      refine done_ (done_of HT_.out (by kernel_rfl)) ?_
      try go_wp2
      refine bodyPost_ret (results_ct rfl _ _ gb123 109 #[.int .u64 ji24, .int .u64 (Go.bits .or .u64 (ji26) (ji29))] (0, 0) _ rfl (blk_put (cs := #[.int .u64 ji24, .int .u64 x124001_1]) (blk_put (zkq BK123) 0 _ rfl) 1 _ rfl) Try.underlying109 rfl (by kernel_rfl)) rfl ?_
      exact ⟨by first | rfl | (simp [errW_none, errW_some] <;> rfl) | (simp only [← hji24, ← hji26, ← hji27, ← hji29]; first | rfl | (simp [errW_none, errW_some] <;> rfl)) | (simp [*, errW_none, errW_some] <;> rfl), zaB⟩
     replace c30 := Bool.eq_false_iff.mpr c30
     subst c30
     replace H := zif H
     have c34b0 := eq_true (of_decide_eq_true (by first | (with_reducible assumption) | assumption) : 0 ≤ (ji27))
     obtain ⟨ji35, hji35⟩ : ∃ j_ : Int, (shl .u64 x123001_1 (ji27)) = j_ := ⟨_, rfl⟩
     replace H : (some (ji24, Go.bits .or .u64 (ji26) (ji29), ((ji35) != 0))) = some (r1, r2, r3) := by first | (rw [hji35] at H; exact H) | (simp only [hji35] at H ⊢; exact H)
     have hji35_ : (IntKind.u64.wrap (x123001_1 * 2 ^ min (ji27).toNat 64)) = ji35 := hji35
     have hji35z : (ji27) ≤ 64 → (IntKind.u64.wrap (x123001_1 * 2 ^ (ji27).toNat)) = ji35 := shl_small hji35
     simp only [Option.some.injEq, Prod.mk.injEq] at H
     obtain ⟨rfl, rfl, rfl⟩ := H
     try go_wp2
     replace BK122 := Aside0.mk (blk_drew BK122.out)
     replace BK123 := Aside0.mk (blk_drew BK123.out)
     replace HB := Aside0.mk (below_drew1 HB.out)
     refine start_ (n := 26) (S := fun w' => w'.cell? ⟨gb122, 0, none⟩ = some (.int .u64 x123000_1) ∧ w'.cell? ⟨gb122, 1, none⟩ = some (.int .u64 x123001_1)) (ds := []) #[false, false, false, false, false, false, false, false, false, false, false, false, false, false, false, false, false, false, false, false, false, false, false, false, false, false] (by kernel_rfl) rfl rfl (ze2 BK122) (fun hHeld => ?_); refine with_tabW wide_U128_Shr.tab10 wide_U128_Shr.bits10 (fun HT_ HW_ => ?_)
     generalize wr.drew = w36 at BK122 BK123 HB hHeld ⊢
     refine zpA 0 29 (h := ?_)
     refine zpA 2 31 (h := ?_)
     refine zpA 4 33 (h := ?_)
     refine zpA 6 35 (h := ?_)
     refine zpA 8 37 (h := ?_)
     refine zpA 10 39 (h := ?_)
     refine zpA 11 40 (h := ?_)
     refine zpA 15 44 (h := ?_)
     refine zpA 16 45 (h := ?_)
     refine zpA 17 46 (h := ?_)
     refine zpA 19 48 (h := ?_)
     refine zpA 20 49 (h := ?_)
     refine ztA 1 30 (h := ?_)
     refine zpA 3 32 (h := ?_)
     refine ztA 5 34 (h := ?_)
     refine zpA 7 36 (h := ?_)
     refine ztA 9 38 (h := ?_)
     refine zpA 12 41 (h := ?_)
     refine zpA 13 42 (h := ?_)
     refine zpA 14 43 (h := ?_)
     refine ztA 18 47 (h := ?_)
     refine zpA 21 50 (h := ?_)
     refine zpA 22 51 (h := ?_)
     refine zpA 23 52 (h := ?_)
     refine one_ (i := 24) (N := none) #[true, true, true, true, true, true, true, true, true, true, true, true, true, true, true, true, true, true, true, true, true, true, true, true, true, false] rfl rfl (one_of HT_.out (by kernel_rfl)) (by decide) (fun K hK => ?_)
     have hs37 := zc0 BK123
     have hfs37 := blk_frozen BK123.out 0
     obtain ⟨_, _⟩ := zsy NB122_123
     have hs38 := zc1 BK123
     have hfs38 := blk_frozen BK123.out 1
     obtain ⟨_, _⟩ := zsy NB122_123
     refine skip_ (w1 := ?_) (by rfl) rfl ?_ ?_
     rotate_left
     ·go_simp
      rfl
     refine hK.out _ _ ⟨(zff NB122_123 (zff NB122_123 hHeld.1)), (zff NB122_123 (zff NB122_123 hHeld.2))⟩ (fun hHeld => ?_)
     clear hK K
     refine zpA 25 5 (h := ?_)
     refine done_ (done_of HT_.out (by kernel_rfl)) ?_
     try go_wp2
     refine bodyPost_ret (results_ct rfl _ _ gb123 109 #[.int .u64 ji24, .int .u64 (Go.bits .or .u64 (ji26) (ji29))] (0, 0) _ rfl (blk_put (cs := #[.int .u64 ji24, .int .u64 x124001_1]) (blk_put (zkq BK123) 0 _ rfl) 1 _ rfl) Try.underlying109 rfl (by kernel_rfl)) rfl ?_
     exact ⟨by first | rfl | (simp [errW_none, errW_some] <;> rfl) | (simp only [← hji24, ← hji26, ← hji27, ← hji29, ← hji35]; first | rfl | (simp [errW_none, errW_some] <;> rfl)) | (simp [*, errW_none, errW_some] <;> rfl), zaB⟩
    rw [if_neg c28] at H
    exact absurd H (by simp)
   rw [if_neg c23] at H
   exact absurd H (by simp)
end Go.Proofs.Ytmadjhmecfbcmaa.F
end
section
namespace Go.Proofs.Ytmadjhmecfbcmaa.F
open Go.RowKit Go.Proofs.YtmadjhmecfbcmaaW.PrintWords Go.Proofs.YtmadjhmecfbcmaaW.PrintLast Go.Proofs.YtmadjhmecfbcmaaW.PrintMore
attribute [local go_sem] max2_int min2_int max_two min_two max_three min_three max_four min_four
set_option linter.unusedVariables false
set_option linter.unusedSimpArgs false
set_option maxHeartbeats 8000000
set_option maxRecDepth 100000
theorem round_number_away.calls (a0_0 : Bool) (a0_1 : Int) (a0_2 : Int) (a0_3 : Int) (a0_4 : Bool) (a1 : Int) (r : Bool) (w : World) (h : round_number_away.f a0_0 a0_1 a0_2 a0_3 a0_4 a1 = some r) :
  Calls Try.prog 200 #[.agg #[.bool a0_0, .int .u64 a0_1, .int .u64 a0_2, .int .i64 a0_3, .bool a0_4], .int .u8 a1] w fun e w' => e = .returned (.bool r) ∧ Below w.heap.size w w' := by
 have hu151 := Try.underlying151
 have HB := Aside0.mk (Below.refl w.heap.size w)
 have H : (if a1 = 1 then (if a0_0 = true then (if a1 = 2 then (some a0_0) else (some false)) else (some true)) else (if a1 = 2 then (some a0_0) else (some false))) = some r := h
 clear h
 by_cases c3 : a1 = 1
 ·rw [if_pos c3] at H
  have c3b0 : (a1 == 1) = true := beq_iff_eq.mpr c3
  have c3b1 : (a1 != 1) = false := bne_eq_false_iff_eq.mpr c3
  clear c3
  by_cases c4 : a0_0 = true
  ·subst c4
   replace H := zit H
   by_cases c5 : a1 = 2
   ·rw [if_pos c5] at H
    have c5b0 : (a1 == 2) = true := beq_iff_eq.mpr c5
    have c5b1 : (a1 != 2) = false := bne_eq_false_iff_eq.mpr c5
    clear c5
    obtain rfl := Option.some.inj H
    go_enter Try.func200, Try.ntmps200
    go_wp2_with (first | ((with_reducible refine gtd 2 rfl ?_); refine zbx 2 #[.bool true, .int .u64 a0_1, .int .u64 a0_2, .int .i64 a0_3, .bool a0_4] 151 (h := ?_); intro gb124 hg w6 hbox hb; have GW124 := zkZ hg (zaB (p := Below w.heap.size w _)); replace HB := Aside0.mk (below_step zaB hb); have BK124 := Aside0.mk (hbox); clear hb hbox hg; obtain ⟨_, _, _, _, _, _, _, _, _, _⟩ := zq5 BK124))
    go_ret
    exact ⟨zaE, zaB⟩
   rw [if_neg c5] at H
   have c5b0 : (a1 == 2) = false := beq_eq_false_iff_ne.mpr c5
   have c5b1 : (a1 != 2) = true := bne_iff_ne.mpr c5
   obtain rfl := Option.some.inj H
   go_enter Try.func200, Try.ntmps200
   go_wp2_with (first | ((with_reducible refine gtd 2 rfl ?_); refine zbx 2 #[.bool true, .int .u64 a0_1, .int .u64 a0_2, .int .i64 a0_3, .bool a0_4] 151 (h := ?_); intro gb124 hg w8 hbox hb; have GW124 := zkZ hg (zaB (p := Below w.heap.size w _)); replace HB := Aside0.mk (below_step zaB hb); have BK124 := Aside0.mk (hbox); clear hb hbox hg; obtain ⟨_, _, _, _, _, _, _, _, _, _⟩ := zq5 BK124))
   go_ret
   exact ⟨zaE, zaB⟩
  replace c4 := Bool.eq_false_iff.mpr c4
  subst c4
  replace H := zif H
  obtain rfl := Option.some.inj H
  go_enter Try.func200, Try.ntmps200
  go_wp2_with (first | ((with_reducible refine gtd 2 rfl ?_); refine zbx 2 #[.bool false, .int .u64 a0_1, .int .u64 a0_2, .int .i64 a0_3, .bool a0_4] 151 (h := ?_); intro gb124 hg w10 hbox hb; have GW124 := zkZ hg (zaB (p := Below w.heap.size w _)); replace HB := Aside0.mk (below_step zaB hb); have BK124 := Aside0.mk (hbox); clear hb hbox hg; obtain ⟨_, _, _, _, _, _, _, _, _, _⟩ := zq5 BK124))
  go_ret
  exact ⟨zaE, zaB⟩
 rw [if_neg c3] at H
 have c3b0 : (a1 == 1) = false := beq_eq_false_iff_ne.mpr c3
 have c3b1 : (a1 != 1) = true := bne_iff_ne.mpr c3
 by_cases c12 : a1 = 2
 ·rw [if_pos c12] at H
  have c12b0 : (a1 == 2) = true := beq_iff_eq.mpr c12
  have c12b1 : (a1 != 2) = false := bne_eq_false_iff_eq.mpr c12
  clear c12
  obtain rfl := Option.some.inj H
  go_enter Try.func200, Try.ntmps200
  go_wp2_with (first | ((with_reducible refine gtd 2 rfl ?_); refine zbx 2 #[.bool a0_0, .int .u64 a0_1, .int .u64 a0_2, .int .i64 a0_3, .bool a0_4] 151 (h := ?_); intro gb124 hg w13 hbox hb; have GW124 := zkZ hg (zaB (p := Below w.heap.size w _)); replace HB := Aside0.mk (below_step zaB hb); have BK124 := Aside0.mk (hbox); clear hb hbox hg; obtain ⟨_, _, _, _, _, _, _, _, _, _⟩ := zq5 BK124))
  go_ret
  exact ⟨zaE, zaB⟩
 rw [if_neg c12] at H
 have c12b0 : (a1 == 2) = false := beq_eq_false_iff_ne.mpr c12
 have c12b1 : (a1 != 2) = true := bne_iff_ne.mpr c12
 obtain rfl := Option.some.inj H
 go_enter Try.func200, Try.ntmps200
 go_wp2_with (first | ((with_reducible refine gtd 2 rfl ?_); refine zbx 2 #[.bool a0_0, .int .u64 a0_1, .int .u64 a0_2, .int .i64 a0_3, .bool a0_4] 151 (h := ?_); intro gb124 hg w15 hbox hb; have GW124 := zkZ hg (zaB (p := Below w.heap.size w _)); replace HB := Aside0.mk (below_step zaB hb); have BK124 := Aside0.mk (hbox); clear hb hbox hg))
 go_ret
 exact ⟨zaE, zaB⟩
theorem round_number_towards.calls (a0_0 : Bool) (a0_1 : Int) (a0_2 : Int) (a0_3 : Int) (a0_4 : Bool) (a1 : Int) (r : Bool) (w : World) (h : round_number_towards.f a0_0 a0_1 a0_2 a0_3 a0_4 a1 = some r) :
  Calls Try.prog 201 #[.agg #[.bool a0_0, .int .u64 a0_1, .int .u64 a0_2, .int .i64 a0_3, .bool a0_4], .int .u8 a1] w fun e w' => e = .returned (.bool r) ∧ Below w.heap.size w w' := by
 have hu151 := Try.underlying151
 have HB := Aside0.mk (Below.refl w.heap.size w)
 have H : (if a1 = 1 then (if a0_0 = true then (some true) else (if a1 = 2 then (some (!a0_0)) else (some false))) else (if a1 = 2 then (some (!a0_0)) else (some false))) = some r := h
 clear h
 by_cases c3 : a1 = 1
 ·rw [if_pos c3] at H
  have c3b0 : (a1 == 1) = true := beq_iff_eq.mpr c3
  have c3b1 : (a1 != 1) = false := bne_eq_false_iff_eq.mpr c3
  clear c3
  by_cases c4 : a0_0 = true
  ·subst c4
   replace H := zit H
   obtain rfl := Option.some.inj H
   go_enter Try.func201, Try.ntmps201
   go_wp2_with (first | ((with_reducible refine gtd 2 rfl ?_); refine zbx 2 #[.bool true, .int .u64 a0_1, .int .u64 a0_2, .int .i64 a0_3, .bool a0_4] 151 (h := ?_); intro gb125 hg w5 hbox hb; have GW125 := zkZ hg (zaB (p := Below w.heap.size w _)); replace HB := Aside0.mk (below_step zaB hb); have BK125 := Aside0.mk (hbox); clear hb hbox hg; obtain ⟨_, _, _, _, _, _, _, _, _, _⟩ := zq5 BK125))
   go_ret
   exact ⟨zaE, zaB⟩
  replace c4 := Bool.eq_false_iff.mpr c4
  subst c4
  replace H := zif H
  by_cases c7 : a1 = 2
  ·rw [if_pos c7] at H
   have c7b0 : (a1 == 2) = true := beq_iff_eq.mpr c7
   have c7b1 : (a1 != 2) = false := bne_eq_false_iff_eq.mpr c7
   clear c7
   obtain rfl := Option.some.inj H
   go_enter Try.func201, Try.ntmps201
   go_wp2_with (first | ((with_reducible refine gtd 2 rfl ?_); refine zbx 2 #[.bool false, .int .u64 a0_1, .int .u64 a0_2, .int .i64 a0_3, .bool a0_4] 151 (h := ?_); intro gb125 hg w8 hbox hb; have GW125 := zkZ hg (zaB (p := Below w.heap.size w _)); replace HB := Aside0.mk (below_step zaB hb); have BK125 := Aside0.mk (hbox); clear hb hbox hg; obtain ⟨_, _, _, _, _, _, _, _, _, _⟩ := zq5 BK125))
   go_ret
   exact ⟨zaE, zaB⟩
  rw [if_neg c7] at H
  have c7b0 : (a1 == 2) = false := beq_eq_false_iff_ne.mpr c7
  have c7b1 : (a1 != 2) = true := bne_iff_ne.mpr c7
  obtain rfl := Option.some.inj H
  go_enter Try.func201, Try.ntmps201
  go_wp2_with (first | ((with_reducible refine gtd 2 rfl ?_); refine zbx 2 #[.bool false, .int .u64 a0_1, .int .u64 a0_2, .int .i64 a0_3, .bool a0_4] 151 (h := ?_); intro gb125 hg w10 hbox hb; have GW125 := zkZ hg (zaB (p := Below w.heap.size w _)); replace HB := Aside0.mk (below_step zaB hb); have BK125 := Aside0.mk (hbox); clear hb hbox hg; obtain ⟨_, _, _, _, _, _, _, _, _, _⟩ := zq5 BK125))
  go_ret
  exact ⟨zaE, zaB⟩
 rw [if_neg c3] at H
 have c3b0 : (a1 == 1) = false := beq_eq_false_iff_ne.mpr c3
 have c3b1 : (a1 != 1) = true := bne_iff_ne.mpr c3
 by_cases c12 : a1 = 2
 ·rw [if_pos c12] at H
  have c12b0 : (a1 == 2) = true := beq_iff_eq.mpr c12
  have c12b1 : (a1 != 2) = false := bne_eq_false_iff_eq.mpr c12
  clear c12
  obtain rfl := Option.some.inj H
  go_enter Try.func201, Try.ntmps201
  go_wp2_with (first | ((with_reducible refine gtd 2 rfl ?_); refine zbx 2 #[.bool a0_0, .int .u64 a0_1, .int .u64 a0_2, .int .i64 a0_3, .bool a0_4] 151 (h := ?_); intro gb125 hg w13 hbox hb; have GW125 := zkZ hg (zaB (p := Below w.heap.size w _)); replace HB := Aside0.mk (below_step zaB hb); have BK125 := Aside0.mk (hbox); clear hb hbox hg; obtain ⟨_, _, _, _, _, _, _, _, _, _⟩ := zq5 BK125))
  go_ret
  exact ⟨zaE, zaB⟩
 rw [if_neg c12] at H
 have c12b0 : (a1 == 2) = false := beq_eq_false_iff_ne.mpr c12
 have c12b1 : (a1 != 2) = true := bne_iff_ne.mpr c12
 obtain rfl := Option.some.inj H
 go_enter Try.func201, Try.ntmps201
 go_wp2_with (first | ((with_reducible refine gtd 2 rfl ?_); refine zbx 2 #[.bool a0_0, .int .u64 a0_1, .int .u64 a0_2, .int .i64 a0_3, .bool a0_4] 151 (h := ?_); intro gb125 hg w15 hbox hb; have GW125 := zkZ hg (zaB (p := Below w.heap.size w _)); replace HB := Aside0.mk (below_step zaB hb); have BK125 := Aside0.mk (hbox); clear hb hbox hg))
 go_ret
 exact ⟨zaE, zaB⟩
theorem round_number_up.calls (a0_0 : Bool) (a0_1 : Int) (a0_2 : Int) (a0_3 : Int) (a0_4 : Bool) (a1 : Int) (a2 : Bool) (a3 : Bool) (a4 : Bool) (r : Bool) (w : World) (h : round_number_up.f a0_0 a0_1 a0_2 a0_3 a0_4 a1 a2 a3 a4 = some r) :
  Calls Try.prog 184 #[.agg #[.bool a0_0, .int .u64 a0_1, .int .u64 a0_2, .int .i64 a0_3, .bool a0_4], .int .u8 a1, .bool a2, .bool a3, .bool a4] w fun e w' => e = .returned (.bool r) ∧ Below w.heap.size w w' := by
 have hu151 := Try.underlying151
 have HB := Aside0.mk (Below.refl w.heap.size w)
 have H : ((round_number_away.f a0_0 a0_1 a0_2 a0_3 a0_4 a1).bind fun t127 => (if t127 = true then (if a3 = true then (some true) else (some a4)) else ((round_number_towards.f a0_0 a0_1 a0_2 a0_3 a0_4 a1).bind fun t128 => (if t128 = true then (some false) else (if a3 = true then (if a4 = true then (some true) else (some a2)) else (some false)))))) = some r := h
 clear h
 obtain ⟨t127, A6, H⟩ := zbs H
 try dsimp only at H
 by_cases c7 : t127 = true
 ·subst c7
  replace H := zit H
  by_cases c8 : a3 = true
  ·subst c8
   replace H := zit H
   obtain rfl := Option.some.inj H
   go_enter Try.func184, Try.ntmps184
   go_wp2_with (first | ((with_reducible refine gtd 5 rfl ?_); refine zbx 5 #[.bool a0_0, .int .u64 a0_1, .int .u64 a0_2, .int .i64 a0_3, .bool a0_4] 151 (h := ?_); intro gb126 hg w9 hbox hb; have GW126 := zkZ hg (zaB (p := Below w.heap.size w _)); replace HB := Aside0.mk (below_step zaB hb); have BK126 := Aside0.mk (hbox); clear hb hbox hg; obtain ⟨_, _, _, _, _, _, _, _, _, _⟩ := zq5 BK126) | ((with_reducible refine gtc 200 rfl ?_); refine zgL 14 Try.func200 (round_number_away.calls a0_0 a0_1 a0_2 a0_3 a0_4 a1 true _ A6.out) (h := ?_); rintro w11 hb; replace BK126 := zkb BK126 hb; replace HB := zkB HB hb; (try clear hb)))
   go_ret
   exact ⟨zaE, zaB⟩
  replace c8 := Bool.eq_false_iff.mpr c8
  subst c8
  replace H := zif H
  obtain rfl := Option.some.inj H
  go_enter Try.func184, Try.ntmps184
  go_wp2_with (first | ((with_reducible refine gtd 5 rfl ?_); refine zbx 5 #[.bool a0_0, .int .u64 a0_1, .int .u64 a0_2, .int .i64 a0_3, .bool a0_4] 151 (h := ?_); intro gb126 hg w12 hbox hb; have GW126 := zkZ hg (zaB (p := Below w.heap.size w _)); replace HB := Aside0.mk (below_step zaB hb); have BK126 := Aside0.mk (hbox); clear hb hbox hg; obtain ⟨_, _, _, _, _, _, _, _, _, _⟩ := zq5 BK126) | ((with_reducible refine gtc 200 rfl ?_); refine zgL 14 Try.func200 (round_number_away.calls a0_0 a0_1 a0_2 a0_3 a0_4 a1 true _ A6.out) (h := ?_); rintro w14 hb; replace BK126 := zkb BK126 hb; replace HB := zkB HB hb; (try clear hb)))
  go_ret
  exact ⟨zaE, zaB⟩
 replace c7 := Bool.eq_false_iff.mpr c7
 subst c7
 replace H := zif H
 obtain ⟨t128, A15, H⟩ := zbs H
 try dsimp only at H
 by_cases c16 : t128 = true
 ·subst c16
  replace H := zit H
  obtain rfl := Option.some.inj H
  go_enter Try.func184, Try.ntmps184
  go_wp2_with (first | ((with_reducible refine gtd 5 rfl ?_); refine zbx 5 #[.bool a0_0, .int .u64 a0_1, .int .u64 a0_2, .int .i64 a0_3, .bool a0_4] 151 (h := ?_); intro gb126 hg w17 hbox hb; have GW126 := zkZ hg (zaB (p := Below w.heap.size w _)); replace HB := Aside0.mk (below_step zaB hb); have BK126 := Aside0.mk (hbox); clear hb hbox hg; obtain ⟨_, _, _, _, _, _, _, _, _, _⟩ := zq5 BK126) | ((with_reducible refine gtc 200 rfl ?_); refine zgL 14 Try.func200 (round_number_away.calls a0_0 a0_1 a0_2 a0_3 a0_4 a1 false _ A6.out) (h := ?_); rintro w19 hb; replace BK126 := zkb BK126 hb; replace HB := zkB HB hb; (try clear hb); obtain ⟨_, _, _, _, _, _, _, _, _, _⟩ := zq5 BK126) | ((with_reducible refine gtc 201 rfl ?_); refine zgL 22 Try.func201 (round_number_towards.calls a0_0 a0_1 a0_2 a0_3 a0_4 a1 true _ A15.out) (h := ?_); rintro w21 hb; replace BK126 := zkb BK126 hb; replace HB := zkB HB hb; (try clear hb)))
  go_ret
  exact ⟨zaE, zaB⟩
 replace c16 := Bool.eq_false_iff.mpr c16
 subst c16
 replace H := zif H
 by_cases c22 : a3 = true
 ·subst c22
  replace H := zit H
  by_cases c23 : a4 = true
  ·subst c23
   replace H := zit H
   obtain rfl := Option.some.inj H
   go_enter Try.func184, Try.ntmps184
   go_wp2_with (first | ((with_reducible refine gtd 5 rfl ?_); refine zbx 5 #[.bool a0_0, .int .u64 a0_1, .int .u64 a0_2, .int .i64 a0_3, .bool a0_4] 151 (h := ?_); intro gb126 hg w24 hbox hb; have GW126 := zkZ hg (zaB (p := Below w.heap.size w _)); replace HB := Aside0.mk (below_step zaB hb); have BK126 := Aside0.mk (hbox); clear hb hbox hg; obtain ⟨_, _, _, _, _, _, _, _, _, _⟩ := zq5 BK126) | ((with_reducible refine gtc 200 rfl ?_); refine zgL 14 Try.func200 (round_number_away.calls a0_0 a0_1 a0_2 a0_3 a0_4 a1 false _ A6.out) (h := ?_); rintro w26 hb; replace BK126 := zkb BK126 hb; replace HB := zkB HB hb; (try clear hb); obtain ⟨_, _, _, _, _, _, _, _, _, _⟩ := zq5 BK126) | ((with_reducible refine gtc 201 rfl ?_); refine zgL 22 Try.func201 (round_number_towards.calls a0_0 a0_1 a0_2 a0_3 a0_4 a1 false _ A15.out) (h := ?_); rintro w28 hb; replace BK126 := zkb BK126 hb; replace HB := zkB HB hb; (try clear hb)))
   go_ret
   exact ⟨zaE, zaB⟩
  replace c23 := Bool.eq_false_iff.mpr c23
  subst c23
  replace H := zif H
  obtain rfl := Option.some.inj H
  go_enter Try.func184, Try.ntmps184
  go_wp2_with (first | ((with_reducible refine gtd 5 rfl ?_); refine zbx 5 #[.bool a0_0, .int .u64 a0_1, .int .u64 a0_2, .int .i64 a0_3, .bool a0_4] 151 (h := ?_); intro gb126 hg w29 hbox hb; have GW126 := zkZ hg (zaB (p := Below w.heap.size w _)); replace HB := Aside0.mk (below_step zaB hb); have BK126 := Aside0.mk (hbox); clear hb hbox hg; obtain ⟨_, _, _, _, _, _, _, _, _, _⟩ := zq5 BK126) | ((with_reducible refine gtc 200 rfl ?_); refine zgL 14 Try.func200 (round_number_away.calls a0_0 a0_1 a0_2 a0_3 a0_4 a1 false _ A6.out) (h := ?_); rintro w31 hb; replace BK126 := zkb BK126 hb; replace HB := zkB HB hb; (try clear hb); obtain ⟨_, _, _, _, _, _, _, _, _, _⟩ := zq5 BK126) | ((with_reducible refine gtc 201 rfl ?_); refine zgL 22 Try.func201 (round_number_towards.calls a0_0 a0_1 a0_2 a0_3 a0_4 a1 false _ A15.out) (h := ?_); rintro w33 hb; replace BK126 := zkb BK126 hb; replace HB := zkB HB hb; (try clear hb)))
  go_ret
  exact ⟨zaE, zaB⟩
 replace c22 := Bool.eq_false_iff.mpr c22
 subst c22
 replace H := zif H
 obtain rfl := Option.some.inj H
 go_enter Try.func184, Try.ntmps184
 go_wp2_with (first | ((with_reducible refine gtd 5 rfl ?_); refine zbx 5 #[.bool a0_0, .int .u64 a0_1, .int .u64 a0_2, .int .i64 a0_3, .bool a0_4] 151 (h := ?_); intro gb126 hg w34 hbox hb; have GW126 := zkZ hg (zaB (p := Below w.heap.size w _)); replace HB := Aside0.mk (below_step zaB hb); have BK126 := Aside0.mk (hbox); clear hb hbox hg; obtain ⟨_, _, _, _, _, _, _, _, _, _⟩ := zq5 BK126) | ((with_reducible refine gtc 200 rfl ?_); refine zgL 14 Try.func200 (round_number_away.calls a0_0 a0_1 a0_2 a0_3 a0_4 a1 false _ A6.out) (h := ?_); rintro w36 hb; replace BK126 := zkb BK126 hb; replace HB := zkB HB hb; (try clear hb); obtain ⟨_, _, _, _, _, _, _, _, _, _⟩ := zq5 BK126) | ((with_reducible refine gtc 201 rfl ?_); refine zgL 22 Try.func201 (round_number_towards.calls a0_0 a0_1 a0_2 a0_3 a0_4 a1 false _ A15.out) (h := ?_); rintro w38 hb; replace BK126 := zkb BK126 hb; replace HB := zkB HB hb; (try clear hb)))
 go_ret
 exact ⟨zaE, zaB⟩
theorem round_number_over.calls (k : Nat) (a0_0 : Bool) (a0_1 : Int) (a0_2 : Int) (a0_3 : Int) (a0_4 : Bool) (a1 : Int) (r1 : Int) (r2 : Int) (w : World) (h : round_number_over.f k a0_0 a0_1 a0_2 a0_3 a0_4 a1 = some (r1, r2)) :
  Calls Try.prog 185 #[.agg #[.bool a0_0, .int .u64 a0_1, .int .u64 a0_2, .int .i64 a0_3, .bool a0_4], .int .u8 a1] w fun e w' => e = .returned (.tuple #[.int .u64 r1, .int .u8 r2]) ∧ Below w.heap.size w w' := by
 have hu151 := Try.underlying151
 have HB := Aside0.mk (Below.refl w.heap.size w)
 have H : ((pattern_Inf.f k a0_0).bind fun t132 => ((round_number_towards.f a0_0 a0_1 a0_2 a0_3 a0_4 a1).bind fun t133 => (if t133 = true then (some (IntKind.u64.wrap (t132 - 1), 5)) else (some (t132, 5))))) = some (r1, r2) := h
 clear h
 obtain ⟨t132, A3, H⟩ := zbs H
 try dsimp only at H
 obtain ⟨t133, A4, H⟩ := zbs H
 try dsimp only at H
 by_cases c5 : t133 = true
 ·subst c5
  replace H := zit H
  simp only [Option.some.injEq, Prod.mk.injEq] at H
  obtain ⟨rfl, rfl⟩ := H
  go_enter Try.func185, Try.ntmps185
  go_wp2_with (first | ((with_reducible refine gtd 2 rfl ?_); refine zbx 2 #[.bool a0_0, .int .u64 a0_1, .int .u64 a0_2, .int .i64 a0_3, .bool a0_4] 151 (h := ?_); intro gb131 hg w6 hbox hb; have GW131 := zkZ hg (zaB (p := Below w.heap.size w _)); replace HB := Aside0.mk (below_step zaB hb); have BK131 := Aside0.mk (hbox); clear hb hbox hg; obtain ⟨_, _, _, _, _, _, _, _, _, _⟩ := zq5 BK131) | ((with_reducible refine gtc 79 rfl ?_); refine zgL 9 Try.func79 (pattern_Inf.calls k a0_0 t132 _ A3.out) (h := ?_); rintro w' ⟨nd, rfl⟩) | ((with_reducible refine gtc 201 rfl ?_); refine zgL 12 Try.func201 (round_number_towards.calls a0_0 a0_1 a0_2 a0_3 a0_4 a1 true _ A4.out) (h := ?_); rintro w8 hb; replace BK131 := zkb BK131 hb; replace HB := zkB HB hb; (try clear hb)))
  go_ret2
  exact ⟨zaE, zaB⟩
 replace c5 := Bool.eq_false_iff.mpr c5
 subst c5
 replace H := zif H
 simp only [Option.some.injEq, Prod.mk.injEq] at H
 obtain ⟨rfl, rfl⟩ := H
 go_enter Try.func185, Try.ntmps185
 go_wp2_with (first | ((with_reducible refine gtd 2 rfl ?_); refine zbx 2 #[.bool a0_0, .int .u64 a0_1, .int .u64 a0_2, .int .i64 a0_3, .bool a0_4] 151 (h := ?_); intro gb131 hg w9 hbox hb; have GW131 := zkZ hg (zaB (p := Below w.heap.size w _)); replace HB := Aside0.mk (below_step zaB hb); have BK131 := Aside0.mk (hbox); clear hb hbox hg; obtain ⟨_, _, _, _, _, _, _, _, _, _⟩ := zq5 BK131) | ((with_reducible refine gtc 79 rfl ?_); refine zgL 9 Try.func79 (pattern_Inf.calls k a0_0 t132 _ A3.out) (h := ?_); rintro w' ⟨nd, rfl⟩) | ((with_reducible refine gtc 201 rfl ?_); refine zgL 12 Try.func201 (round_number_towards.calls a0_0 a0_1 a0_2 a0_3 a0_4 a1 false _ A4.out) (h := ?_); rintro w11 hb; replace BK131 := zkb BK131 hb; replace HB := zkB HB hb; (try clear hb)))
 go_ret2
 exact ⟨zaE, zaB⟩
def round_number_float.T3 : Bool × List (List Nat × List Nat) := (true, [([], []), ([0], [0]), ([], []), ([2], [2]), ([], []), ([4, 1, 0, 1, 4], [1, 4]), ([5, 0, 1, 4, 5], []), ([3, 6, 0, 1, 2, 3, 4, 5, 6], [3])])
def round_number_float.B3 : List Nat := [0, 1, 0, 4, 0, 19, 51, 127]
theorem round_number_float.tab3 : rtab .any (opsOf Try.f159 3) = round_number_float.T3 := by kernel_rfl
theorem round_number_float.bits3 : waitsOk round_number_float.T3.2 round_number_float.B3 = true := by kernel_rfl
theorem round_number_float.calls (k : Nat) (a0_0 : Bool) (a0_1 : Int) (a0_2 : Int) (a0_3 : Int) (a0_4 : Bool) (a1 : Int) (r1 : Int) (r2 : Int) (w : World) (h : round_number_float.f k a0_0 a0_1 a0_2 a0_3 a0_4 a1 = some (r1, r2)) :
  Calls Try.prog 159 #[.agg #[.bool a0_0, .int .u64 a0_1, .int .u64 a0_2, .int .i64 a0_3, .bool a0_4], .int .u8 a1] w fun e w' => e = .returned (.tuple #[.int .u64 r1, .int .u8 r2]) ∧ Below w.heap.size w w' := by
 have hu151 := Try.underlying151
 have hu109 := Try.underlying109
 have HB := Aside0.mk (Below.refl w.heap.size w)
 have H : ((wide_U128_Len.f a0_1 a0_2).bind fun t135 => (if (wrap64 ((mx (wrap64 ((wrap64 (t135 - 53)) + a0_3)) (-1074)) - a0_3)) > 0 then ((wide_U128_Shr.f k a0_1 a0_2 (wrap64 ((wrap64 ((mx (wrap64 ((wrap64 (t135 - 53)) + a0_3)) (-1074)) - a0_3)) - 1))).bind fun bt137 => (if a0_4 = true then ((wide_U128_Shr.f k bt137.1 bt137.2.1 1).bind fun bt140 => (round_number_float.j0 k a1 t135 (mx (wrap64 ((wrap64 (t135 - 53)) + a0_3)) (-1074)) ((Go.bits .and .u64 bt137.2.1 1) == 1) true a0_0 a0_1 a0_2 a0_3 a0_4 bt140.1 bt140.2.1)) else ((wide_U128_Shr.f k bt137.1 bt137.2.1 1).bind fun bt143 => (round_number_float.j0 k a1 t135 (mx (wrap64 ((wrap64 (t135 - 53)) + a0_3)) (-1074)) ((Go.bits .and .u64 bt137.2.1 1) == 1) bt137.2.2 a0_0 a0_1 a0_2 a0_3 a0_4 bt143.1 bt143.2.1)))) else ((wide_U128_Shl.f k a0_1 a0_2 (wrap64 (-(wrap64 ((mx (wrap64 ((wrap64 (t135 - 53)) + a0_3)) (-1074)) - a0_3))))).bind fun bt146 => (round_number_float.j0 k a1 t135 (mx (wrap64 ((wrap64 (t135 - 53)) + a0_3)) (-1074)) false a0_4 a0_0 a0_1 a0_2 a0_3 a0_4 bt146.1 bt146.2)))) = some (r1, r2) := h
 clear h
 obtain ⟨t135, A3, H⟩ := zbs H
 try dsimp only at H
 obtain ⟨ji4, hji4⟩ : ∃ j_ : Int, (mx (wrap64 ((wrap64 (t135 - 53)) + a0_3)) (-1074)) = j_ := ⟨_, rfl⟩
 replace H : (if (wrap64 ((ji4) - a0_3)) > 0 then ((wide_U128_Shr.f k a0_1 a0_2 (wrap64 ((wrap64 ((ji4) - a0_3)) - 1))).bind fun bt137 => (if a0_4 = true then ((wide_U128_Shr.f k bt137.1 bt137.2.1 1).bind fun bt140 => (round_number_float.j0 k a1 t135 ji4 ((Go.bits .and .u64 bt137.2.1 1) == 1) true a0_0 a0_1 a0_2 a0_3 a0_4 bt140.1 bt140.2.1)) else ((wide_U128_Shr.f k bt137.1 bt137.2.1 1).bind fun bt143 => (round_number_float.j0 k a1 t135 ji4 ((Go.bits .and .u64 bt137.2.1 1) == 1) bt137.2.2 a0_0 a0_1 a0_2 a0_3 a0_4 bt143.1 bt143.2.1)))) else ((wide_U128_Shl.f k a0_1 a0_2 (wrap64 (-(wrap64 ((ji4) - a0_3))))).bind fun bt146 => (round_number_float.j0 k a1 t135 ji4 false a0_4 a0_0 a0_1 a0_2 a0_3 a0_4 bt146.1 bt146.2))) = some (r1, r2) := by first | (rw [hji4] at H; exact H) | (simp only [hji4] at H ⊢; exact H)
 (try rw [hji4] at A3)
 have hji4_ : (if (wrap64 ((wrap64 (t135 - 53)) + a0_3)) < (-1074) then (-1074) else (wrap64 ((wrap64 (t135 - 53)) + a0_3))) = ji4 := hji4
 (try (have hji4n := hji4_; simp only [Int.ofNat_lt] at hji4n))
 have HC5 := Aside0.mk H
 clear H
 go_enter Try.func159, Try.ntmps159
 try go_wp2_with (first | ((with_reducible refine gtd 2 rfl ?_); refine zbx 2 #[.bool a0_0, .int .u64 a0_1, .int .u64 a0_2, .int .i64 a0_3, .bool a0_4] 151 (h := ?_); intro gb134 hg w6 hbox hb; have GW134 := zkZ hg (zaB (p := Below w.heap.size w _)); replace HB := Aside0.mk (below_step zaB hb); have BK134 := Aside0.mk (hbox); clear hb hbox hg; obtain ⟨z7_0, z7_1, z7_2, z7_3, z7_4, f7_0, f7_1, f7_2, f7_3, f7_4⟩ := zq5 BK134) | ((with_reducible refine gtc 103 rfl ?_); refine zgL 20 Try.func103 (wide_U128_Len.calls a0_1 a0_2 t135 _ A3.out) (h := ?_); rintro w8 hb; replace BK134 := zkb BK134 hb; replace HB := zkB HB hb; (try clear hb); obtain ⟨z9_0, z9_1, z9_2, z9_3, z9_4, f9_0, f9_1, f9_2, f9_3, f9_4⟩ := zq5 BK134))
 replace BK134 := Aside0.mk (blk_drew BK134.out)
 replace HB := Aside0.mk (below_drew1 HB.out)
 refine start_ (n := 8) (S := fun w' => w'.cell? ⟨gb134, 0, none⟩ = some (.bool a0_0) ∧ w'.cell? ⟨gb134, 1, none⟩ = some (.int .u64 a0_1) ∧ w'.cell? ⟨gb134, 2, none⟩ = some (.int .u64 a0_2) ∧ w'.cell? ⟨gb134, 3, none⟩ = some (.int .i64 a0_3) ∧ w'.cell? ⟨gb134, 4, none⟩ = some (.bool a0_4)) (ds := []) #[false, false, false, false, false, false, false, false] (by kernel_rfl) rfl rfl (ze5 BK134) (fun hHeld => ?_); refine with_tabW round_number_float.tab3 round_number_float.bits3 (fun HT_ HW_ => ?_)
 generalize w8.drew = w10 at BK134 HB hHeld ⊢
 refine zpA 0 27 (h := ?_)
 refine zpA 2 29 (h := ?_)
 refine ztA 1 28 (h := ?_)
 refine ztA 3 30 (h := ?_)
 refine zoA 4 8 (h := fun K hK => ?_)
 refine box_step ?hg (N := 8) ?hd (cs := #[.int .u64 0, .int .u64 0]) (t := 109) ?hr ?_; (case hd => rfl); (case hg => rfl); (case hr => first | (go_simp; done) | (go_simp; rfl))
 intro gb136 hg w11 hbox hb
 have GW136 := zkz HB hg
 have NB134_136 := zkl BK134 hg
 have NB136_134 := zkr BK134 hg
 replace BK134 := zkb BK134 hb
 replace HB := zkB HB hb
 have BK136 := Aside0.mk (hbox)
 clear hb hbox hg
 refine hK.out _ _ (ze5 BK134) (fun hHeld => ?_)
 clear hK K
 refine znA 8 (h := ?_)
 refine one_ (i := 5) (N := none) #[true, true, true, true, true, true, false, false] rfl rfl (one_of HT_.out (by kernel_rfl)) (by decide) (fun K hK => ?_)
 have hs12 := zc0 BK136
 have hfs12 := blk_frozen BK136.out 0
 obtain ⟨_, _⟩ := zsy NB134_136
 have hs13 := zc1 BK136
 have hfs13 := blk_frozen BK136.out 1
 obtain ⟨_, _⟩ := zsy NB134_136
 refine skip_ (w1 := ?_) (by rfl) rfl ?_ ?_
 rotate_left
 ·go_simp
  rfl
 refine hK.out _ _ ⟨(zff NB134_136 (zff NB134_136 hHeld.1)), (zff NB134_136 (zff NB134_136 hHeld.2.1)), (zff NB134_136 (zff NB134_136 hHeld.2.2.1)), (zff NB134_136 (zff NB134_136 hHeld.2.2.2.1)), (zff NB134_136 (zff NB134_136 hHeld.2.2.2.2))⟩ (fun hHeld => ?_)
 clear hK K
 refine zpA 6 9 (h := ?_)
 refine zpA 7 10 (h := ?_)
 refine done_ (done_of HT_.out (by kernel_rfl)) ?_
 obtain ⟨_, _⟩ := zsy NB134_136
 obtain ⟨z15_0, z15_1, z15_2, z15_3, z15_4, f15_0, f15_1, f15_2, f15_3, f15_4⟩ := zq5 BK134
 go_upto_if 36 with (fail)
 go_cut [9, 10] (fun v9 v10 wc => ∃ (kq : Nat) (x9_4 : Bool) (x10_4 : Bool) (x137000_4 : Int) (x137001_4 : Int), v9 = .bool x9_4 ∧ v10 = .bool x10_4 ∧ Aside0 (round_number_float.j0 kq a1 t135 ji4 x9_4 x10_4 a0_0 a0_1 a0_2 a0_3 a0_4 x137000_4 x137001_4 = some (r1, r2)) ∧ Aside0 (kq ≤ k) ∧ Aside0 (wc.heap[gb134]? = some (.cells #[.bool a0_0, .int .u64 a0_1, .int .u64 a0_2, .int .i64 a0_3, .bool a0_4] 151 (0, 0))) ∧ Aside0 (wc.heap[gb136]? = some (.cells #[.int .u64 x137000_4, .int .u64 x137001_4] 109 (0, 0))) ∧ Aside0 (Below w.heap.size w wc))
 case first =>
  have H := HC5.out
  clear HC5
  by_cases c16 : (wrap64 ((ji4) - a0_3)) > 0
  ·rw [if_pos c16] at H
   have c16b0 : decide (0 < (wrap64 ((ji4) - a0_3))) = true := decide_eq_true c16
   clear c16
   (first | rw [c16b0] | (simp only [i64_w, i32_w]; rw [c16b0]) | skip)
   obtain ⟨⟨t137, t138, t139⟩, A17, H⟩ := zbs H
   try dsimp only at H
   by_cases c18 : a0_4 = true
   ·subst c18
    replace H := zit H
    obtain ⟨⟨t140, t141, t142⟩, A19, H⟩ := zbs H
    try dsimp only at H
    have H' := Aside0.mk H
    clear H
    obtain ⟨_, _⟩ := zsy NB134_136
    obtain ⟨z21_0, z21_1, z21_2, z21_3, z21_4, f21_0, f21_1, f21_2, f21_3, f21_4⟩ := zq5 BK134
    go_wp2_with (first | ((with_reducible refine gtc 151 rfl ?_); refine goesL_ (some 42) rfl rfl Try.func151 (by kernel_rfl) rfl #[.agg #[.int .u64 a0_1, .int .u64 a0_2], .int .i64 (wrap64 ((wrap64 ((ji4) - a0_3)) - 1))] rfl (by (try simp only [List.map_toArray, List.map_cons, List.map_nil]); first | done | (simp only [hji4]; rfl) | rfl | (simp only [List.length_drop, List.length_take]; rfl)) ?_; (with_reducible refine (wide_U128_Shr.calls k a0_1 a0_2 (wrap64 ((wrap64 ((ji4) - a0_3)) - 1)) t137 t138 t139 _ A17.out).mono ?_); rintro e w22 ⟨rfl, hb⟩; refine ⟨_, rfl, ?_⟩; replace BK134 := Aside0.mk (blk_below (zkf (zkf BK134.out NB134_136.out _) NB134_136.out _) hb); replace BK136 := Aside0.mk (blk_below (o := .cells #[.int .u64 a0_1, .int .u64 a0_2] 109 (0, 0)) (blk_put (cs := #[.int .u64 a0_1, .int .u64 0]) (blk_put BK136.out 0 _ rfl) 1 _ rfl) hb); replace HB := Aside0.mk (below_step (below_set (below_set HB.out GW136.out) GW136.out) hb); (try clear hb); obtain ⟨z23_0, z23_1, f23_0, f23_1⟩ := zq2 BK136) | ((with_reducible refine gtc 151 rfl ?_); refine zgL 55 Try.func151 (wide_U128_Shr.calls k t137 t138 1 t140 t141 t142 _ A19.out) (h := ?_); rintro w24 hb; replace BK134 := Aside0.mk (blk_below (zkf (zkf BK134.out NB134_136.out _) NB134_136.out _) hb); replace BK136 := Aside0.mk (blk_below (o := .cells #[.int .u64 t137, .int .u64 t138] 109 (0, 0)) (blk_put (cs := #[.int .u64 t137, .int .u64 a0_2]) (blk_put BK136.out 0 _ rfl) 1 _ rfl) hb); replace HB := Aside0.mk (below_step (below_set (below_set HB.out GW136.out) GW136.out) hb); (try clear hb); obtain ⟨z25_0, z25_1, f25_0, f25_1⟩ := zq2 BK136))
    go_meet
    case rel => exact ⟨_, (((Go.bits .and .u64 t138 1) == 1)), (true), (t140), (t141), zrl, zrl, H', ⟨zle⟩, ⟨(zkf (zkf (zkq BK134) NB134_136.out _) NB134_136.out _)⟩, ⟨(blk_put (cs := #[.int .u64 t140, .int .u64 t138]) (blk_put (zkq BK136) 0 _ rfl) 1 _ rfl)⟩, ⟨zaB⟩⟩
   replace c18 := Bool.eq_false_iff.mpr c18
   subst c18
   replace H := zif H
   obtain ⟨⟨t143, t144, t145⟩, A26, H⟩ := zbs H
   try dsimp only at H
   have H' := Aside0.mk H
   clear H
   obtain ⟨_, _⟩ := zsy NB134_136
   obtain ⟨z28_0, z28_1, z28_2, z28_3, z28_4, f28_0, f28_1, f28_2, f28_3, f28_4⟩ := zq5 BK134
   go_wp2_with (first | ((with_reducible refine gtc 151 rfl ?_); refine goesL_ (some 42) rfl rfl Try.func151 (by kernel_rfl) rfl #[.agg #[.int .u64 a0_1, .int .u64 a0_2], .int .i64 (wrap64 ((wrap64 ((ji4) - a0_3)) - 1))] rfl (by (try simp only [List.map_toArray, List.map_cons, List.map_nil]); first | done | (simp only [hji4]; rfl) | rfl | (simp only [List.length_drop, List.length_take]; rfl)) ?_; (with_reducible refine (wide_U128_Shr.calls k a0_1 a0_2 (wrap64 ((wrap64 ((ji4) - a0_3)) - 1)) t137 t138 t139 _ A17.out).mono ?_); rintro e w29 ⟨rfl, hb⟩; refine ⟨_, rfl, ?_⟩; replace BK134 := Aside0.mk (blk_below (zkf (zkf BK134.out NB134_136.out _) NB134_136.out _) hb); replace BK136 := Aside0.mk (blk_below (o := .cells #[.int .u64 a0_1, .int .u64 a0_2] 109 (0, 0)) (blk_put (cs := #[.int .u64 a0_1, .int .u64 0]) (blk_put BK136.out 0 _ rfl) 1 _ rfl) hb); replace HB := Aside0.mk (below_step (below_set (below_set HB.out GW136.out) GW136.out) hb); (try clear hb); obtain ⟨z30_0, z30_1, f30_0, f30_1⟩ := zq2 BK136) | ((with_reducible refine gtc 151 rfl ?_); refine zgL 55 Try.func151 (wide_U128_Shr.calls k t137 t138 1 t143 t144 t145 _ A26.out) (h := ?_); rintro w31 hb; replace BK134 := Aside0.mk (blk_below (zkf (zkf BK134.out NB134_136.out _) NB134_136.out _) hb); replace BK136 := Aside0.mk (blk_below (o := .cells #[.int .u64 t137, .int .u64 t138] 109 (0, 0)) (blk_put (cs := #[.int .u64 t137, .int .u64 a0_2]) (blk_put BK136.out 0 _ rfl) 1 _ rfl) hb); replace HB := Aside0.mk (below_step (below_set (below_set HB.out GW136.out) GW136.out) hb); (try clear hb); obtain ⟨z32_0, z32_1, f32_0, f32_1⟩ := zq2 BK136))
   go_meet
   case rel => exact ⟨_, (((Go.bits .and .u64 t138 1) == 1)), (t139), (t143), (t144), zrl, zrl, H', ⟨zle⟩, ⟨(zkf (zkf (zkq BK134) NB134_136.out _) NB134_136.out _)⟩, ⟨(blk_put (cs := #[.int .u64 t143, .int .u64 t138]) (blk_put (zkq BK136) 0 _ rfl) 1 _ rfl)⟩, ⟨zaB⟩⟩
  rw [if_neg c16] at H
  have c16b0 : decide (0 < (wrap64 ((ji4) - a0_3))) = false := decide_eq_false c16
  clear c16
  (first | rw [c16b0] | (simp only [i64_w, i32_w]; rw [c16b0]) | skip)
  obtain ⟨⟨t146, t147⟩, A33, H⟩ := zbs H
  try dsimp only at H
  have H' := Aside0.mk H
  clear H
  obtain ⟨_, _⟩ := zsy NB136_134
  obtain ⟨z35_0, z35_1, f35_0, f35_1⟩ := zq2 BK136
  go_wp2_with (first | ((with_reducible refine gtc 106 rfl ?_); refine goesL_ (some 61) rfl rfl Try.func106 (by kernel_rfl) rfl #[.agg #[.int .u64 a0_1, .int .u64 a0_2], .int .i64 (wrap64 (-(wrap64 ((ji4) - a0_3))))] rfl (by (try simp only [List.map_toArray, List.map_cons, List.map_nil]); first | done | (simp only [hji4]; rfl) | rfl | (simp only [List.length_drop, List.length_take]; rfl)) ?_; (with_reducible refine (wide_U128_Shl.calls k a0_1 a0_2 (wrap64 (-(wrap64 ((ji4) - a0_3)))) t146 t147 _ A33.out).mono ?_); rintro e w36 ⟨rfl, hb⟩; refine ⟨_, rfl, ?_⟩; replace BK134 := Aside0.mk (blk_below (zkf (zkf BK134.out NB134_136.out _) NB134_136.out _) hb); replace BK136 := Aside0.mk (blk_below (o := .cells #[.int .u64 a0_1, .int .u64 a0_2] 109 (0, 0)) (blk_put (cs := #[.int .u64 a0_1, .int .u64 0]) (blk_put BK136.out 0 _ rfl) 1 _ rfl) hb); replace HB := Aside0.mk (below_step (below_set (below_set HB.out GW136.out) GW136.out) hb); (try clear hb); obtain ⟨z37_0, z37_1, f37_0, f37_1⟩ := zq2 BK136))
  go_meet
  case rel => exact ⟨_, (false), (a0_4), (t146), (t147), zrl, zrl, H', ⟨zle⟩, ⟨(zkf (zkf (zkq BK134) NB134_136.out _) NB134_136.out _)⟩, ⟨(blk_put (cs := #[.int .u64 t146, .int .u64 a0_2]) (blk_put (zkq BK136) 0 _ rfl) 1 _ rfl)⟩, ⟨zaB⟩⟩
 case rest =>
  clear HC5
  try clear c1
  try clear c2
  try clear p2
  try clear c3
  try clear p6
  try clear c10
  try clear c14
  try clear c15
  try clear c16
  try clear c16b0
  try clear c18
  try clear c20
  try clear c27
  try clear c34
  try clear z15_0 z15_1 z15_2 z15_3 z15_4 f15_0 f15_1 f15_2 f15_3 f15_4
  try clear z21_0 z21_1 z21_2 z21_3 z21_4 f21_0 f21_1 f21_2 f21_3 f21_4
  try clear z23_0 z23_1 f23_0 f23_1
  try clear z25_0 z25_1 f25_0 f25_1
  try clear z28_0 z28_1 z28_2 z28_3 z28_4 f28_0 f28_1 f28_2 f28_3 f28_4
  try clear z30_0 z30_1 f30_0 f30_1
  try clear z32_0 z32_1 f32_0 f32_1
  try clear z35_0 z35_1 f35_0 f35_1
  try clear z37_0 z37_1 f37_0 f37_1
  try clear z7_0 z7_1 z7_2 z7_3 z7_4 f7_0 f7_1 f7_2 f7_3 f7_4
  try clear z9_0 z9_1 z9_2 z9_3 z9_4 f9_0 f9_1 f9_2 f9_3 f9_4
  obtain ⟨kq, x9_4, x10_4, x137000_4, x137001_4, rfl, rfl, HA, HJ4, BK134, BK136, HB⟩ := hcut
  cases kq with
  | zero => exact absurd HA.out (by simp [round_number_float.j0])
  | succ kj4 =>
   have H := HA.out
   clear HA
   simp only [round_number_float.j0] at H
   obtain ⟨t148, A38, H⟩ := zbs H
   try dsimp only at H
   have HC39 := Aside0.mk H
   clear H
   obtain ⟨_, _⟩ := zsy NB136_134
   obtain ⟨z41_0, z41_1, f41_0, f41_1⟩ := zq2 BK136
   obtain ⟨z42_0, z42_1, z42_2, z42_3, z42_4, f42_0, f42_1, f42_2, f42_3, f42_4⟩ := zq5 BK134
   go_upto_if 71 with (first | ((with_reducible refine gtc 184 rfl ?_); refine zgL 71 Try.func184 (round_number_up.calls a0_0 a0_1 a0_2 a0_3 a0_4 a1 ((Go.bits .and .u64 x137001_4 1) == 1) x9_4 x10_4 t148 _ A38.out) (h := ?_); rintro w43 hb; replace BK134 := zkb BK134 hb; replace BK136 := zkb BK136 hb; replace HB := zkB HB hb; (try clear hb)))
   (try simp only [Act.put, List.setIfInBounds_toArray, List.set_cons_zero, List.set_cons_succ])
   go_cut [13] (fun v13 wc => ∃ (kq : Nat) (x13_38 : Int), v13 = .int .u64 x13_38 ∧ Aside0 (round_number_float.j1 kq a1 t135 ji4 x9_4 x10_4 x13_38 a0_0 a0_1 a0_2 a0_3 a0_4 = some (r1, r2)) ∧ Aside0 (kq ≤ kj4) ∧ Aside0 (wc.heap[gb134]? = some (.cells #[.bool a0_0, .int .u64 a0_1, .int .u64 a0_2, .int .i64 a0_3, .bool a0_4] 151 (0, 0))) ∧ Aside0 (wc.heap[gb136]? = some (.cells #[.int .u64 x137000_4, .int .u64 x137001_4] 109 (0, 0))) ∧ Aside0 (Below w.heap.size w wc))
   case first =>
    have H := HC39.out
    clear HC39
    by_cases c44 : t148 = true
    ·subst c44
     replace H := zit H
     have H' := Aside0.mk H
     clear H
     go_wp2
     go_meet
     case rel => exact ⟨_, (IntKind.u64.wrap (x137001_4 + 1)), zrl, H', ⟨by have := HJ4.out; first | omega | exact Nat.le_refl _⟩, ⟨zkq BK134⟩, ⟨zkq BK136⟩, ⟨zaB⟩⟩
    replace c44 := Bool.eq_false_iff.mpr c44
    subst c44
    replace H := zif H
    have H' := Aside0.mk H
    clear H
    go_wp2
    go_meet
    case rel => exact ⟨_, (x137001_4), zrl, H', ⟨by have := HJ4.out; first | omega | exact Nat.le_refl _⟩, ⟨zkq BK134⟩, ⟨zkq BK136⟩, ⟨zaB⟩⟩
   case rest =>
    clear HC39
    try clear c1
    try clear c2
    try clear p2
    try clear c3
    try clear c4
    try clear p6
    try clear c10
    try clear c14
    try clear c15
    try clear c16
    try clear c16b0
    try clear c18
    try clear c20
    try clear c27
    try clear c34
    try clear c40
    try clear c44
    try clear z15_0 z15_1 z15_2 z15_3 z15_4 f15_0 f15_1 f15_2 f15_3 f15_4
    try clear z21_0 z21_1 z21_2 z21_3 z21_4 f21_0 f21_1 f21_2 f21_3 f21_4
    try clear z23_0 z23_1 f23_0 f23_1
    try clear z25_0 z25_1 f25_0 f25_1
    try clear z28_0 z28_1 z28_2 z28_3 z28_4 f28_0 f28_1 f28_2 f28_3 f28_4
    try clear z30_0 z30_1 f30_0 f30_1
    try clear z32_0 z32_1 f32_0 f32_1
    try clear z35_0 z35_1 f35_0 f35_1
    try clear z37_0 z37_1 f37_0 f37_1
    try clear z41_0 z41_1 f41_0 f41_1
    try clear z42_0 z42_1 z42_2 z42_3 z42_4 f42_0 f42_1 f42_2 f42_3 f42_4
    try clear z7_0 z7_1 z7_2 z7_3 z7_4 f7_0 f7_1 f7_2 f7_3 f7_4
    try clear z9_0 z9_1 z9_2 z9_3 z9_4 f9_0 f9_1 f9_2 f9_3 f9_4
    try clear p2
    try clear p6
    obtain ⟨kq, x13_38, rfl, HA, HJ38, BK134, BK136, HB⟩ := hcut
    cases kq with
    | zero => exact absurd HA.out (by simp [round_number_float.j1])
    | succ kj38 =>
     have H := HA.out
     clear HA
     simp only [round_number_float.j1] at H
     have HC45 := Aside0.mk H
     clear H
     go_upto_if 75 with (fail)
     go_cut [7, 13] (fun v7 v13 wc => ∃ (kq : Nat) (x7_44 : Int) (x13_44 : Int), v7 = .int .i64 x7_44 ∧ v13 = .int .u64 x13_44 ∧ Aside0 (round_number_float.j2 kq a1 t135 x7_44 x9_4 x10_4 x13_44 a0_0 a0_1 a0_2 a0_3 a0_4 = some (r1, r2)) ∧ Aside0 (kq ≤ kj38) ∧ Aside0 (wc.heap[gb134]? = some (.cells #[.bool a0_0, .int .u64 a0_1, .int .u64 a0_2, .int .i64 a0_3, .bool a0_4] 151 (0, 0))) ∧ Aside0 (wc.heap[gb136]? = some (.cells #[.int .u64 x137000_4, .int .u64 x137001_4] 109 (0, 0))) ∧ Aside0 (Below w.heap.size w wc))
     case first =>
      have H := HC45.out
      clear HC45
      by_cases c46 : x13_38 = 9007199254740992
      ·rw [if_pos c46] at H
       have c46b0 : (x13_38 == 9007199254740992) = true := beq_iff_eq.mpr c46
       have c46b1 : (x13_38 != 9007199254740992) = false := bne_eq_false_iff_eq.mpr c46
       clear c46
       (first | rw [c46b0] | (simp only [i64_w, i32_w]; rw [c46b0]) | skip)
       have H' := Aside0.mk H
       clear H
       go_wp2
       go_meet
       case rel => exact ⟨_, (wrap64 (ji4 + 1)), (x13_38 / 2), (by first | rfl | (simp; done) | (simp only [← hji4] <;> (first | rfl | simp)) | (simp [*]; done)), zrl, H', ⟨by have := HJ4.out; have := HJ38.out; first | omega | exact Nat.le_refl _⟩, ⟨zkq BK134⟩, ⟨zkq BK136⟩, ⟨zaB⟩⟩
      rw [if_neg c46] at H
      have c46b0 : (x13_38 == 9007199254740992) = false := beq_eq_false_iff_ne.mpr c46
      have c46b1 : (x13_38 != 9007199254740992) = true := bne_iff_ne.mpr c46
      (first | rw [c46b0] | (simp only [i64_w, i32_w]; rw [c46b0]) | skip)
      have H' := Aside0.mk H
      clear H
      go_wp2
      go_meet
      case rel => exact ⟨_, (ji4), (x13_38), (by first | rfl | (simp; done) | (simp only [← hji4] <;> (first | rfl | simp)) | (simp [*]; done)), zrl, H', ⟨by have := HJ4.out; have := HJ38.out; first | omega | exact Nat.le_refl _⟩, ⟨zkq BK134⟩, ⟨zkq BK136⟩, ⟨zaB⟩⟩
     case rest =>
      clear HC45
      try clear c1
      try clear c2
      try clear p2
      try clear c3
      try clear c4
      try clear p6
      try clear c10
      try clear c14
      try clear c15
      try clear c16
      try clear c16b0
      try clear c18
      try clear c20
      try clear c27
      try clear c34
      try clear c40
      try clear c44
      try clear c46
      try clear c46b0
      try clear c46b1
      try clear z15_0 z15_1 z15_2 z15_3 z15_4 f15_0 f15_1 f15_2 f15_3 f15_4
      try clear z21_0 z21_1 z21_2 z21_3 z21_4 f21_0 f21_1 f21_2 f21_3 f21_4
      try clear z23_0 z23_1 f23_0 f23_1
      try clear z25_0 z25_1 f25_0 f25_1
      try clear z28_0 z28_1 z28_2 z28_3 z28_4 f28_0 f28_1 f28_2 f28_3 f28_4
      try clear z30_0 z30_1 f30_0 f30_1
      try clear z32_0 z32_1 f32_0 f32_1
      try clear z35_0 z35_1 f35_0 f35_1
      try clear z37_0 z37_1 f37_0 f37_1
      try clear z41_0 z41_1 f41_0 f41_1
      try clear z42_0 z42_1 z42_2 z42_3 z42_4 f42_0 f42_1 f42_2 f42_3 f42_4
      try clear z7_0 z7_1 z7_2 z7_3 z7_4 f7_0 f7_1 f7_2 f7_3 f7_4
      try clear z9_0 z9_1 z9_2 z9_3 z9_4 f9_0 f9_1 f9_2 f9_3 f9_4
      try clear p2
      try clear p6
      obtain ⟨kq, x7_44, x13_44, rfl, rfl, HA, HJ44, BK134, BK136, HB⟩ := hcut
      cases kq with
      | zero => exact absurd HA.out (by simp [round_number_float.j2])
      | succ kj44 =>
       have H := HA.out
       clear HA
       simp only [round_number_float.j2] at H
       by_cases c47 : x7_44 > 971
       ·rw [if_pos c47] at H
        have c47b0 : decide (971 < x7_44) = true := decide_eq_true c47
        clear c47
        obtain ⟨⟨t149, t150⟩, A48, H⟩ := zbs H
        try dsimp only at H
        simp only [Option.some.injEq, Prod.mk.injEq] at H
        obtain ⟨rfl, rfl⟩ := H
        obtain ⟨_, _⟩ := zsy NB134_136
        obtain ⟨z50_0, z50_1, z50_2, z50_3, z50_4, f50_0, f50_1, f50_2, f50_3, f50_4⟩ := zq5 BK134
        go_wp2_with (first | ((with_reducible refine gtc 185 rfl ?_); refine zgL 84 Try.func185 (round_number_over.calls kj44 a0_0 a0_1 a0_2 a0_3 a0_4 a1 t149 t150 _ A48.out) (h := ?_); rintro w51 hb; replace BK134 := zkb BK134 hb; replace BK136 := zkb BK136 hb; replace HB := zkB HB hb; (try clear hb)))
        go_ret2
        exact ⟨by first | rfl | (simp [errW_none, errW_some] <;> rfl) | (simp only [← hji4]; first | rfl | (simp [errW_none, errW_some] <;> rfl)) | (simp [*, errW_none, errW_some] <;> rfl), zaB⟩
       rw [if_neg c47] at H
       have c47b0 : decide (971 < x7_44) = false := decide_eq_false c47
       clear c47
       have HC52 := Aside0.mk H
       clear H
       go_upto_region 19 with (fail)
       go_cut [90] (fun v90 wc => ∃ (kq : Nat) (x90_51 : Bool), v90 = .bool x90_51 ∧ Aside0 (round_number_float.j3 kq t135 x7_44 x13_44 0 x90_51 a0_0 a0_1 a0_2 a0_3 a0_4 = some (r1, r2)) ∧ Aside0 (kq ≤ kj44) ∧ Aside0 (wc.heap[gb134]? = some (.cells #[.bool a0_0, .int .u64 a0_1, .int .u64 a0_2, .int .i64 a0_3, .bool a0_4] 151 (0, 0))) ∧ Aside0 (wc.heap[gb136]? = some (.cells #[.int .u64 x137000_4, .int .u64 x137001_4] 109 (0, 0))) ∧ Aside0 (Below w.heap.size w wc))
       case first =>
        have H := HC52.out
        clear HC52
        by_cases c53 : x9_4 = true
        ·subst c53
         replace H := zit H
         have H' := Aside0.mk H
         clear H
         go_wp2
         go_meet
         case rel => exact ⟨_, (true), zrl, H', ⟨by have := HJ4.out; have := HJ38.out; have := HJ44.out; first | omega | exact Nat.le_refl _⟩, ⟨zkq BK134⟩, ⟨zkq BK136⟩, ⟨zaB⟩⟩
        replace c53 := Bool.eq_false_iff.mpr c53
        subst c53
        replace H := zif H
        have H' := Aside0.mk H
        clear H
        go_wp2
        go_meet
        case rel => exact ⟨_, (x10_4), zrl, H', ⟨by have := HJ4.out; have := HJ38.out; have := HJ44.out; first | omega | exact Nat.le_refl _⟩, ⟨zkq BK134⟩, ⟨zkq BK136⟩, ⟨zaB⟩⟩
       case rest =>
        clear HC52
        try clear c1
        try clear c2
        try clear p2
        try clear c3
        try clear c4
        try clear c5
        try clear p6
        try clear c10
        try clear c14
        try clear c15
        try clear c16
        try clear c16b0
        try clear c18
        try clear c20
        try clear c27
        try clear c34
        try clear c40
        try clear c44
        try clear c46
        try clear c46b0
        try clear c46b1
        try clear c47
        try clear c47b0
        try clear c49
        try clear c53
        try clear z15_0 z15_1 z15_2 z15_3 z15_4 f15_0 f15_1 f15_2 f15_3 f15_4
        try clear z21_0 z21_1 z21_2 z21_3 z21_4 f21_0 f21_1 f21_2 f21_3 f21_4
        try clear z23_0 z23_1 f23_0 f23_1
        try clear z25_0 z25_1 f25_0 f25_1
        try clear z28_0 z28_1 z28_2 z28_3 z28_4 f28_0 f28_1 f28_2 f28_3 f28_4
        try clear z30_0 z30_1 f30_0 f30_1
        try clear z32_0 z32_1 f32_0 f32_1
        try clear z35_0 z35_1 f35_0 f35_1
        try clear z37_0 z37_1 f37_0 f37_1
        try clear z41_0 z41_1 f41_0 f41_1
        try clear z42_0 z42_1 z42_2 z42_3 z42_4 f42_0 f42_1 f42_2 f42_3 f42_4
        try clear z50_0 z50_1 z50_2 z50_3 z50_4 f50_0 f50_1 f50_2 f50_3 f50_4
        try clear z7_0 z7_1 z7_2 z7_3 z7_4 f7_0 f7_1 f7_2 f7_3 f7_4
        try clear z9_0 z9_1 z9_2 z9_3 z9_4 f9_0 f9_1 f9_2 f9_3 f9_4
        try clear p2
        try clear p6
        obtain ⟨kq, x90_51, rfl, HA, HJ51, BK134, BK136, HB⟩ := hcut
        cases kq with
        | zero => exact absurd HA.out (by simp [round_number_float.j3])
        | succ kj51 =>
         have H := HA.out
         clear HA
         simp only [round_number_float.j3] at H
         by_cases c54 : x90_51 = true
         ·subst c54
          replace H := zit H
          by_cases c55 : (wrap64 (t135 + a0_3)) ≤ (-1022)
          ·rw [if_pos c55] at H
           have c55b0 : decide ((wrap64 (t135 + a0_3)) ≤ (-1022)) = true := decide_eq_true c55
           clear c55
           by_cases c56 : (x13_44 / 4503599627370496) = 1
           ·rw [if_pos c56] at H
            have c56b0 : ((x13_44 / 4503599627370496) == 1) = true := beq_iff_eq.mpr c56
            have c56b1 : ((x13_44 / 4503599627370496) != 1) = false := bne_eq_false_iff_eq.mpr c56
            clear c56
            obtain ⟨⟨t151, t152⟩, A57, H⟩ := zbs H
            try dsimp only at H
            simp only [Option.some.injEq, Prod.mk.injEq] at H
            obtain ⟨rfl, rfl⟩ := H
            obtain ⟨_, _⟩ := zsy NB134_136
            obtain ⟨_, _, _, _, _, _, _, _, _, _⟩ := zq5 BK134
            go_wp2_with (first | ((with_reducible refine gtc 150 rfl ?_); refine zgL 110 Try.func150 (pattern_Make.calls kj51 a0_0 (wrap64 ((wrap64 (x7_44 - (-1074))) + 1)) (Go.bits .and .u64 x13_44 4503599627370495) t151 t152 _ A57.out) (h := ?_); rintro w' ⟨nd, rfl⟩))
            go_ret2
            exact ⟨by first | rfl | (simp [errW_none, errW_some] <;> rfl) | (simp only [← hji4]; first | rfl | (simp [errW_none, errW_some] <;> rfl)) | (simp [*, errW_none, errW_some] <;> rfl), zaB⟩
           rw [if_neg c56] at H
           have c56b0 : ((x13_44 / 4503599627370496) == 1) = false := beq_eq_false_iff_ne.mpr c56
           have c56b1 : ((x13_44 / 4503599627370496) != 1) = true := bne_iff_ne.mpr c56
           obtain ⟨⟨t153, t154⟩, A60, H⟩ := zbs H
           try dsimp only at H
           simp only [Option.some.injEq, Prod.mk.injEq] at H
           obtain ⟨rfl, rfl⟩ := H
           obtain ⟨_, _⟩ := zsy NB134_136
           obtain ⟨_, _, _, _, _, _, _, _, _, _⟩ := zq5 BK134
           go_wp2_with (first | ((with_reducible refine gtc 150 rfl ?_); refine zgL 110 Try.func150 (pattern_Make.calls kj51 a0_0 0 (Go.bits .and .u64 x13_44 4503599627370495) t153 t154 _ A60.out) (h := ?_); rintro w' ⟨nd, rfl⟩))
           go_ret2
           exact ⟨by first | rfl | (simp [errW_none, errW_some] <;> rfl) | (simp only [← hji4]; first | rfl | (simp [errW_none, errW_some] <;> rfl)) | (simp [*, errW_none, errW_some] <;> rfl), zaB⟩
          rw [if_neg c55] at H
          have c55b0 : decide ((wrap64 (t135 + a0_3)) ≤ (-1022)) = false := decide_eq_false c55
          clear c55
          by_cases c63 : (x13_44 / 4503599627370496) = 1
          ·rw [if_pos c63] at H
           have c63b0 : ((x13_44 / 4503599627370496) == 1) = true := beq_iff_eq.mpr c63
           have c63b1 : ((x13_44 / 4503599627370496) != 1) = false := bne_eq_false_iff_eq.mpr c63
           clear c63
           obtain ⟨⟨t155, t156⟩, A64, H⟩ := zbs H
           try dsimp only at H
           simp only [Option.some.injEq, Prod.mk.injEq] at H
           obtain ⟨rfl, rfl⟩ := H
           obtain ⟨_, _⟩ := zsy NB134_136
           obtain ⟨_, _, _, _, _, _, _, _, _, _⟩ := zq5 BK134
           go_wp2_with (first | ((with_reducible refine gtc 150 rfl ?_); refine zgL 110 Try.func150 (pattern_Make.calls kj51 a0_0 (wrap64 ((wrap64 (x7_44 - (-1074))) + 1)) (Go.bits .and .u64 x13_44 4503599627370495) t155 t156 _ A64.out) (h := ?_); rintro w' ⟨nd, rfl⟩))
           go_ret2
           exact ⟨by first | rfl | (simp [errW_none, errW_some] <;> rfl) | (simp only [← hji4]; first | rfl | (simp [errW_none, errW_some] <;> rfl)) | (simp [*, errW_none, errW_some] <;> rfl), zaB⟩
          rw [if_neg c63] at H
          have c63b0 : ((x13_44 / 4503599627370496) == 1) = false := beq_eq_false_iff_ne.mpr c63
          have c63b1 : ((x13_44 / 4503599627370496) != 1) = true := bne_iff_ne.mpr c63
          obtain ⟨⟨t157, t158⟩, A67, H⟩ := zbs H
          try dsimp only at H
          simp only [Option.some.injEq, Prod.mk.injEq] at H
          obtain ⟨rfl, rfl⟩ := H
          obtain ⟨_, _⟩ := zsy NB134_136
          obtain ⟨_, _, _, _, _, _, _, _, _, _⟩ := zq5 BK134
          go_wp2_with (first | ((with_reducible refine gtc 150 rfl ?_); refine zgL 110 Try.func150 (pattern_Make.calls kj51 a0_0 0 (Go.bits .and .u64 x13_44 4503599627370495) t157 t158 _ A67.out) (h := ?_); rintro w' ⟨nd, rfl⟩))
          go_ret2
          exact ⟨by first | rfl | (simp [errW_none, errW_some] <;> rfl) | (simp only [← hji4]; first | rfl | (simp [errW_none, errW_some] <;> rfl)) | (simp [*, errW_none, errW_some] <;> rfl), zaB⟩
         replace c54 := Bool.eq_false_iff.mpr c54
         subst c54
         replace H := zif H
         by_cases c70 : (x13_44 / 4503599627370496) = 1
         ·rw [if_pos c70] at H
          have c70b0 : ((x13_44 / 4503599627370496) == 1) = true := beq_iff_eq.mpr c70
          have c70b1 : ((x13_44 / 4503599627370496) != 1) = false := bne_eq_false_iff_eq.mpr c70
          clear c70
          obtain ⟨⟨t159, t160⟩, A71, H⟩ := zbs H
          try dsimp only at H
          simp only [Option.some.injEq, Prod.mk.injEq] at H
          obtain ⟨rfl, rfl⟩ := H
          obtain ⟨_, _⟩ := zsy NB134_136
          obtain ⟨_, _, _, _, _, _, _, _, _, _⟩ := zq5 BK134
          go_wp2_with (first | ((with_reducible refine gtc 150 rfl ?_); refine zgL 110 Try.func150 (pattern_Make.calls kj51 a0_0 (wrap64 ((wrap64 (x7_44 - (-1074))) + 1)) (Go.bits .and .u64 x13_44 4503599627370495) t159 t160 _ A71.out) (h := ?_); rintro w' ⟨nd, rfl⟩))
          go_ret2
          exact ⟨by first | rfl | (simp [errW_none, errW_some] <;> rfl) | (simp only [← hji4]; first | rfl | (simp [errW_none, errW_some] <;> rfl)) | (simp [*, errW_none, errW_some] <;> rfl), zaB⟩
         rw [if_neg c70] at H
         have c70b0 : ((x13_44 / 4503599627370496) == 1) = false := beq_eq_false_iff_ne.mpr c70
         have c70b1 : ((x13_44 / 4503599627370496) != 1) = true := bne_iff_ne.mpr c70
         obtain ⟨⟨t161, t162⟩, A74, H⟩ := zbs H
         try dsimp only at H
         simp only [Option.some.injEq, Prod.mk.injEq] at H
         obtain ⟨rfl, rfl⟩ := H
         obtain ⟨_, _⟩ := zsy NB134_136
         obtain ⟨_, _, _, _, _, _, _, _, _, _⟩ := zq5 BK134
         go_wp2_with (first | ((with_reducible refine gtc 150 rfl ?_); refine zgL 110 Try.func150 (pattern_Make.calls kj51 a0_0 0 (Go.bits .and .u64 x13_44 4503599627370495) t161 t162 _ A74.out) (h := ?_); rintro w' ⟨nd, rfl⟩))
         go_ret2
         exact ⟨by first | rfl | (simp [errW_none, errW_some] <;> rfl) | (simp only [← hji4]; first | rfl | (simp [errW_none, errW_some] <;> rfl)) | (simp [*, errW_none, errW_some] <;> rfl), zaB⟩
end Go.Proofs.Ytmadjhmecfbcmaa.F
end
