/- The walk of the law SpanOrder and what it computes, part 3 of 6: no conditions. -/
import Derived.Test.YtmadjhmecfbcmaaASpanOrder2
import Derived.Laws.BitsAllLaws
import Derived.Lib.ItoaNum
set_option linter.unusedVariables false
set_option linter.unusedSimpArgs false
section
namespace Go.Proofs.Ytmadjhmecfbcmaa.F
open Go.RowKit Go.Proofs.YtmadjhmecfbcmaaW.PrintWords Go.Proofs.YtmadjhmecfbcmaaW.PrintLast Go.Proofs.YtmadjhmecfbcmaaW.PrintMore
attribute [local go_sem] max2_int min2_int max_two min_two max_three min_three max_four min_four
set_option linter.unusedVariables false
set_option linter.unusedSimpArgs false
set_option maxHeartbeats 8000000
set_option maxRecDepth 100000
def span_Abs.T7 : Bool × List (List Nat × List Nat) := (true, [([], []), ([0], [0]), ([1], [1]), ([], []), ([3], [3]), ([2, 4], [2, 4]), ([5, 2], [5]), ([6, 6], [6]), ([7, 7, 0, 1, 2, 3, 4, 5, 6, 7], [7])])
def span_Abs.B7 : List Nat := [0, 1, 3, 0, 8, 31, 63, 127, 255]
theorem span_Abs.tab7 : rtab .any (opsOf Try.f69 7) = span_Abs.T7 := by kernel_rfl
theorem span_Abs.bits7 : waitsOk span_Abs.T7.2 span_Abs.B7 = true := by kernel_rfl
theorem span_Abs.calls (k : Nat) (a0_0 : Bool) (a0_1 : Int) (a0_2 : Int) (r1 : Bool) (r2 : Int) (r3 : Int) (w : World) (h : span_Abs.f k a0_0 a0_1 a0_2 = some (r1, r2, r3)) :
  Calls Try.prog 69 #[.agg #[.bool a0_0, .int .u64 a0_1, .int .u64 a0_2]] w fun e w' => e = .returned (.agg #[.bool r1, .int .u64 r2, .int .u64 r3]) ∧ Below w.heap.size w w' := by
 have hu43 := Try.underlying43
 have HB := Aside0.mk (Below.refl w.heap.size w)
 have H : ((span_norm.f k a0_0 a0_1 a0_2).bind fun bt806 => (if bt806.1 = true then (span_Abs.j0 k bt806.1 bt806.1 bt806.2.1 bt806.2.2) else ((span_atMost.f k 0 bt806.2.1).bind fun t809 => (span_Abs.j0 k t809 bt806.1 bt806.2.1 bt806.2.2)))) = some (r1, r2, r3) := h
 clear h
 obtain ⟨⟨t806, t807, t808⟩, A2, H⟩ := zbs H
 try dsimp only at H
 have HC3 := Aside0.mk H
 clear H
 go_enter Try.func69, Try.ntmps69
 go_upto_if 5 with (first | ((with_reducible refine gtd 1 rfl ?_); refine zbx 1 #[.bool a0_0, .int .u64 a0_1, .int .u64 a0_2] 43 (h := ?_); intro gb804 hg w4 hbox hb; have GW804 := zkZ hg (zaB (p := Below w.heap.size w _)); replace HB := Aside0.mk (below_step zaB hb); have BK804 := Aside0.mk (hbox); clear hb hbox hg) | ((with_reducible refine gtd 2 rfl ?_); refine zbx 2 #[.bool false, .int .u64 0, .int .u64 0] 43 (h := ?_); intro gb805 hg w5 hbox hb; have GW805 := zkz HB hg; have NB804_805 := zkl BK804 hg; have NB805_804 := zkr BK804 hg; replace BK804 := zkb BK804 hb; replace HB := zkB HB hb; have BK805 := Aside0.mk (hbox); clear hb hbox hg; obtain ⟨_, _⟩ := zsy NB804_805; obtain ⟨z7_0, z7_1, z7_2, f7_0, f7_1, f7_2⟩ := zq3 BK804) | ((with_reducible refine gtc 112 rfl ?_); refine zgL 4 Try.func112 (span_norm.calls k a0_0 a0_1 a0_2 t806 t807 t808 _ A2.out) (h := ?_); rintro w8 hb; replace BK804 := zkb BK804 hb; replace BK805 := zkb BK805 hb; replace HB := zkB HB hb; (try clear hb); obtain ⟨z9_0, z9_1, z9_2, f9_0, f9_1, f9_2⟩ := zq3 BK804))
 (try simp only [Act.put, List.setIfInBounds_toArray, List.set_cons_zero, List.set_cons_succ])
 go_cut [5] (fun v5 wc => ∃ (kq : Nat) (x5_2 : Bool), v5 = .bool x5_2 ∧ Aside0 (span_Abs.j0 kq x5_2 t806 t807 t808 = some (r1, r2, r3)) ∧ Aside0 (kq ≤ k) ∧ Aside0 (wc.heap[gb804]? = some (.cells #[.bool t806, .int .u64 t807, .int .u64 t808] 43 (0, 0))) ∧ Aside0 (wc.heap[gb805]? = some (.cells #[.bool false, .int .u64 0, .int .u64 0] 43 (0, 0))) ∧ Aside0 (Below w.heap.size w wc))
 case first =>
  have H := HC3.out
  clear HC3
  by_cases c10 : t806 = true
  ·subst c10
   replace H := zit H
   have H' := Aside0.mk H
   clear H
   go_wp2
   go_meet
   case rel => exact ⟨_, (true), zrl, H', ⟨zle⟩, ⟨(blk_put (cs := #[.bool true, .int .u64 t807, .int .u64 a0_2]) (blk_put (cs := #[.bool true, .int .u64 a0_1, .int .u64 a0_2]) (blk_put (zkq BK804) 0 _ rfl) 1 _ rfl) 2 _ rfl)⟩, ⟨(zkf (zkf (zkf (zkq BK805) NB805_804.out _) NB805_804.out _) NB805_804.out _)⟩, ⟨zaB⟩⟩
  replace c10 := Bool.eq_false_iff.mpr c10
  subst c10
  replace H := zif H
  obtain ⟨t809, A11, H⟩ := zbs H
  try dsimp only at H
  have H' := Aside0.mk H
  clear H
  obtain ⟨_, _⟩ := zsy NB804_805
  obtain ⟨z13_0, z13_1, z13_2, f13_0, f13_1, f13_2⟩ := zq3 BK804
  go_wp2_with (first | ((with_reducible refine gtc 117 rfl ?_); refine zgL 10 Try.func117 (span_atMost.calls k 0 t807 t809 _ A11.out) (h := ?_); rintro w' ⟨nd, rfl⟩))
  go_meet
  case rel => exact ⟨_, (t809), zrl, H', ⟨zle⟩, ⟨(blk_put (cs := #[.bool false, .int .u64 t807, .int .u64 a0_2]) (blk_put (cs := #[.bool false, .int .u64 a0_1, .int .u64 a0_2]) (blk_put (zkq BK804) 0 _ rfl) 1 _ rfl) 2 _ rfl)⟩, ⟨(zkf (zkf (zkf (zkq BK805) NB805_804.out _) NB805_804.out _) NB805_804.out _)⟩, ⟨zaB⟩⟩
 case rest =>
  clear HC3
  try clear c1
  try clear p2
  try clear c6
  try clear c10
  try clear c11
  try clear c12
  try clear z13_0
  try clear z13_1
  try clear z13_2
  try clear z7_0
  try clear z7_1
  try clear z7_2
  try clear z9_0
  try clear z9_1
  try clear z9_2
  try clear f13_0
  try clear f13_1
  try clear f13_2
  try clear f7_0
  try clear f7_1
  try clear f7_2
  try clear f9_0
  try clear f9_1
  try clear f9_2
  obtain ⟨kq, x5_2, rfl, HA, HJ2, BK804, BK805, HB⟩ := hcut
  cases kq with
  | zero => exact absurd HA.out (by simp [span_Abs.j0])
  | succ kj2 =>
   have H := HA.out
   clear HA
   simp only [span_Abs.j0] at H
   by_cases c14 : x5_2 = true
   ·subst c14
    replace H := zit H
    simp only [Option.some.injEq, Prod.mk.injEq] at H
    obtain ⟨rfl, rfl, rfl⟩ := H
    obtain ⟨_, _⟩ := zsy NB804_805
    obtain ⟨_, _, _, _, _, _⟩ := zq3 BK804
    obtain ⟨_, _, _, _, _, _⟩ := zq3 BK805
    go_wp2
    refine bodyPost_ret (results_cell_row rfl _ _ gb805 43 #[.bool t806, .int .u64 t807, .int .u64 t808] (0, 0) _ rfl (blk_put (cs := #[.bool t806, .int .u64 t807, .int .u64 0]) (blk_put (cs := #[.bool t806, .int .u64 0, .int .u64 0]) (blk_put (zkq BK805) 0 _ rfl) 1 _ rfl) 2 _ rfl) Try.underlying43 rfl (by kernel_rfl)) rfl ?_
    exact ⟨zaE, zaB⟩
   replace c14 := Bool.eq_false_iff.mpr c14
   subst c14
   replace H := zif H
   obtain ⟨t810, A18, H⟩ := zbs H
   try dsimp only at H
   by_cases c19 : t810 = true
   ·subst c19
    replace H := zit H
    obtain ⟨⟨t811, t812, t813⟩, A20, H⟩ := zbs H
    try dsimp only at H
    simp only [Option.some.injEq, Prod.mk.injEq] at H
    obtain ⟨rfl, rfl, rfl⟩ := H
    obtain ⟨_, _⟩ := zsy NB804_805
    obtain ⟨_, _, _, _, _, _⟩ := zq3 BK804
    go_wp2_with (first | ((with_reducible refine gtc 117 rfl ?_); refine zgL 15 Try.func117 (span_atMost.calls kj2 t808 0 true _ A18.out) (h := ?_); rintro w' ⟨nd, rfl⟩; (try (rw [drewN_self wc]; generalize hq_ : World.drewN wc _ = wc; have n0_ : Aside0 (wc.heap[gb804]? = some (.cells #[.bool t806, .int .u64 t807, .int .u64 t808] 43 (0, 0))) := ⟨by rw [← hq_]; exact (zkq BK804)⟩; have n1_ : Aside0 (wc.heap[gb805]? = some (.cells #[.bool false, .int .u64 0, .int .u64 0] 43 (0, 0))) := ⟨by rw [← hq_]; exact (zkq BK805)⟩; have n2_ : Aside0 (Below w.heap.size w wc) := ⟨by rw [← hq_]; exact zaB⟩; clear BK804 BK805 HB hq_; have BK804 := n0_; have BK805 := n1_; have HB := n2_; clear n0_ n1_ n2_; have hdq804_0 := zc0 BK804; have hdq804_1 := zc1 BK804; have hdq804_2 := zc2 BK804; have hdq804_f := zfz BK804; have hdq805_0 := zc0 BK805; have hdq805_1 := zc1 BK805; have hdq805_2 := zc2 BK805; have hdq805_f := zfz BK805))) | ((with_reducible refine gtc 111 rfl ?_); refine zgL 17 Try.func111 (span_Neg.calls kj2 t806 t807 t808 t811 t812 t813 _ A20.out) (h := ?_); rintro w23 hb; replace BK804 := zkb BK804 hb; replace BK805 := zkb BK805 hb; replace HB := zkB HB hb; (try clear hb); obtain ⟨_, _, _, _, _, _⟩ := zq3 BK805))
    refine bodyPost_ret (results_cell_row rfl _ _ gb805 43 #[.bool t811, .int .u64 t812, .int .u64 t813] (0, 0) _ rfl (blk_put (cs := #[.bool t811, .int .u64 t812, .int .u64 0]) (blk_put (cs := #[.bool t811, .int .u64 0, .int .u64 0]) (blk_put (zkq BK805) 0 _ rfl) 1 _ rfl) 2 _ rfl) Try.underlying43 rfl (by kernel_rfl)) rfl ?_
    exact ⟨zaE, zaB⟩
   replace c19 := Bool.eq_false_iff.mpr c19
   subst c19
   replace H := zif H
   obtain ⟨t814, A25, H⟩ := zbs H
   try dsimp only at H
   obtain ⟨y815, hy815⟩ : ∃ y_ : List Int, y_ = (([t814, t808] : List Int)) := ⟨_, rfl⟩
   replace H : ((pattern_Max.f kj2 y815).bind fun t818 => ((span_Make.f kj2 0 t818).bind fun bt819 => (some (bt819.1, bt819.2.1, bt819.2.2)))) = some (r1, r2, r3) := by first | (rw [hy815]; with_reducible exact H) | (have H2_ := (Option.bind_some _ _).symm.trans H; rw [hy815]; with_reducible exact H2_) | (have H2_ := (Option.bind_some _ _).symm.trans H; with_reducible exact H2_) | with_reducible exact H | (rw [hy815]; exact H) | exact H
   have Ny815 := Aside0.mk hy815
   clear hy815
   obtain ⟨t818, A26, H⟩ := zbs H
   try dsimp only at H
   obtain ⟨⟨t819, t820, t821⟩, A27, H⟩ := zbs H
   try dsimp only at H
   simp only [Option.some.injEq, Prod.mk.injEq] at H
   obtain ⟨rfl, rfl, rfl⟩ := H
   obtain ⟨_, _⟩ := zsy NB804_805
   obtain ⟨_, _, _, _, _, _⟩ := zq3 BK804
   try go_wp2_with (first | ((with_reducible refine gtc 117 rfl ?_); refine zgL 15 Try.func117 (span_atMost.calls kj2 t808 0 false _ A18.out) (h := ?_); rintro w' ⟨nd, rfl⟩; (try (rw [drewN_self wc]; generalize hq_ : World.drewN wc _ = wc; have n0_ : Aside0 (wc.heap[gb804]? = some (.cells #[.bool t806, .int .u64 t807, .int .u64 t808] 43 (0, 0))) := ⟨by rw [← hq_]; exact (zkq BK804)⟩; have n1_ : Aside0 (wc.heap[gb805]? = some (.cells #[.bool false, .int .u64 0, .int .u64 0] 43 (0, 0))) := ⟨by rw [← hq_]; exact (zkq BK805)⟩; have n2_ : Aside0 (Below w.heap.size w wc) := ⟨by rw [← hq_]; exact zaB⟩; clear BK804 BK805 HB hq_; have BK804 := n0_; have BK805 := n1_; have HB := n2_; clear n0_ n1_ n2_; have hdq804_0 := zc0 BK804; have hdq804_1 := zc1 BK804; have hdq804_2 := zc2 BK804; have hdq804_f := zfz BK804; have hdq805_0 := zc0 BK805; have hdq805_1 := zc1 BK805; have hdq805_2 := zc2 BK805; have hdq805_f := zfz BK805))))
   (try (rw [drewN_self wc]; generalize hq_ : World.drewN wc _ = wc; replace BK804 := zkg hq_ (zkq BK804); replace BK805 := zkg hq_ (zkq BK805); replace HB := zkG hq_ (pw_below_drewN HB.out _); clear hq_))
   replace BK804 := Aside0.mk (blk_drew BK804.out)
   replace BK805 := Aside0.mk (blk_drew BK805.out)
   replace HB := Aside0.mk (below_drew1 HB.out)
   refine start_ (n := 9) (S := fun w' => w'.cell? ⟨gb804, 0, none⟩ = some (.bool t806) ∧ w'.cell? ⟨gb804, 1, none⟩ = some (.int .u64 t807) ∧ w'.cell? ⟨gb804, 2, none⟩ = some (.int .u64 t808)) (ds := []) #[false, false, false, false, false, false, false, false, false] (by kernel_rfl) rfl rfl (ze3 BK804) (fun hHeld => ?_); refine with_tabW span_Abs.tab7 span_Abs.bits7 (fun HT_ HW_ => ?_)
   generalize wc.drew = w30 at BK804 BK805 HB hHeld ⊢
   refine zpA 0 18 (h := ?_)
   refine zpA 3 21 (h := ?_)
   refine ztA 1 19 (h := ?_)
   refine ztA 4 22 (h := ?_)
   refine zoA 2 20 (h := fun K hK => ?_)
   refine zgA Try.func32 (pattern_Neg.calls kj2 t807 t814 _ A25.out) (h := ?_)
   rintro w' ⟨nd, rfl⟩
   refine hK.out _ _ (ze3 BK804) (fun hHeld => ?_)
   clear hK K
   refine znA 20 (h := ?_)
   refine zoA 5 23 (h := fun K hK => ?_)
   refine Kd.R_lit_step (Kd.int .u64) _ 23 ?hg (N := 23) ?hd (xs := ([t814, t808] : List Int)) (inner := [.int .u64 t814, .int .u64 t808]) (ok := fun _ => True) (okp := fun _ => True) ?hr ?hp (fun _ hk => hk) trivial (Below.refl _ _) (Nat.le_refl _) (by simp) ?_; (case hd => rfl); (case hg => rfl); (case hr => first | (go_simp; done) | (go_simp; rfl)); (case hp => exact (Reps.one (show Kd.M (Kd.int .u64) _ _ _ t814 [.int .u64 t814] from rfl) (Reps.one (show Kd.M (Kd.int .u64) _ _ _ t808 [.int .u64 t808] from rfl) (Reps.none _ _))))
   intro v816 w31 ho32 hb hg_ hnew_
   clear hg_ hnew_
   (first | rw [← Ny815.out] at ho32 | (simp only [Int.reduceToNat] at ho32; rw [← Ny815.out] at ho32))
   have HO817 := Aside0.mk (Kd.R_lower ho32 (below_size zaB))
   replace BK804 := zkb BK804 hb
   replace BK805 := zkb BK805 hb
   replace HB := zkB HB hb
   clear hb ho32
   obtain ⟨Ao33, co33, eo33⟩ := Kd.R_slice HO817.out
   (first | subst eo33 | (injection eo33 with f1_ f2_ f3_; have f4_ := f1_.symm; have f5_ := f3_.symm; clear f1_ f2_ f3_; subst f4_; subst f5_))
   refine hK.out _ _ (ze3 BK804) (fun hHeld => ?_)
   clear hK K
   refine znA 23 (h := ?_)
   refine zoA 6 24 (h := fun K hK => ?_)
   refine goes_ Try.func120 (by kernel_rfl) rfl #[.slice Ao33 y815.length co33] (by rfl) rfl rfl (by (try simp only [List.map_toArray, List.map_cons, List.map_nil]); first | done | rfl | (simp only [List.length_drop, List.length_take]; rfl)) ?_
   with_reducible refine (pattern_Max.calls kj2 _ _ y815 t818 _ ?side1 ?side2 A26.out).mono ?_
   (case side1 => repeat (first | exact (Kd.R_reads' HO817.out).2.2 | (with_reducible refine Kd.C_alloc ?_ _) | (with_reducible refine Kd.C_drewN ?_ _) | (with_reducible refine Kd.C_drew ?_)))
   (case side2 => exact (Kd.R_reads' HO817.out).2.1)
   rintro e w34 ⟨rfl, hb⟩
   refine ⟨_, rfl, ?_⟩
   replace HO817 := Aside0.mk (Kd.R_below (by (with_reducible repeat (first | apply Kd.R_alloc | apply Kd.R_drewN | apply Kd.R_drew)); exact HO817.out) hb)
   replace BK804 := zkb BK804 hb
   replace BK805 := zkb BK805 hb
   replace HB := zkB HB hb
   (try clear hb)
   refine hK.out _ _ (ze3 BK804) (fun hHeld => ?_)
   clear hK K
   refine znA 24 (h := ?_)
   refine zoA 7 25 (h := fun K hK => ?_)
   refine zgA Try.func37 (span_Make.calls kj2 0 t818 t819 t820 t821 _ A27.out) (h := ?_)
   rintro w35 hb
   replace HO817 := Aside0.mk (Kd.R_below (by (with_reducible repeat (first | apply Kd.R_alloc | apply Kd.R_drewN | apply Kd.R_drew)); exact HO817.out) hb)
   replace BK804 := zkb BK804 hb
   replace BK805 := zkb BK805 hb
   replace HB := zkB HB hb
   (try clear hb)
   refine hK.out _ _ (ze3 BK804) (fun hHeld => ?_)
   clear hK K
   refine znA 25 (h := ?_)
   refine one_ (i := 8) (N := none) #[true, true, true, true, true, true, true, true, true] rfl rfl (one_of HT_.out (by kernel_rfl)) (by decide) (fun K hK => ?_)
   have hs36 := zc0 BK805
   have hfs36 := blk_frozen BK805.out 0
   have hns36_0 := NB804_805.out
   have hms36_0 := NB805_804.out
   have hs37 := zc1 BK805
   have hfs37 := blk_frozen BK805.out 1
   have hns37_0 := NB804_805.out
   have hms37_0 := NB805_804.out
   have hs38 := zc2 BK805
   have hfs38 := blk_frozen BK805.out 2
   have hns38_0 := NB804_805.out
   have hms38_0 := NB805_804.out
   refine skip_ (w1 := ?_) (by rfl) rfl ?_ ?_
   rotate_left
   ·go_simp
    rfl
   refine hK.out _ _ ⟨(zff NB804_805 (zff NB804_805 (zff NB804_805 hHeld.1))), (zff NB804_805 (zff NB804_805 (zff NB804_805 hHeld.2.1))), (zff NB804_805 (zff NB804_805 (zff NB804_805 hHeld.2.2)))⟩ (fun hHeld => ?_)
   clear hK K
   refine done_ (done_of HT_.out (by kernel_rfl)) ?_
   try go_wp2
   refine bodyPost_ret (results_cell_row rfl _ _ gb805 43 #[.bool t819, .int .u64 t820, .int .u64 t821] (0, 0) _ rfl (blk_put (cs := #[.bool t819, .int .u64 t820, .int .u64 0]) (blk_put (cs := #[.bool t819, .int .u64 0, .int .u64 0]) (blk_put (zkq BK805) 0 _ rfl) 1 _ rfl) 2 _ rfl) Try.underlying43 rfl (by kernel_rfl)) rfl ?_
   exact ⟨zaE, zaB⟩
theorem pattern_Next.calls (k : Nat) (a0 : Int) (r : Int) (w : World) (h : pattern_Next.f k a0 = some r) :
  Calls Try.prog 72 #[.int .u64 a0] w fun e w' => e = .returned (.int .u64 r) ∧ Drawn0 w w' := by
 have H : ((pattern_nan.f k a0).bind fun t826 => (if t826 = true then (pattern_Next.j0 k a0 t826) else ((pattern_Inf.f k false).bind fun t827 => (pattern_Next.j0 k a0 (a0 == t827))))) = some r := h
 clear h
 obtain ⟨t826, A2, H⟩ := zbs H
 try dsimp only at H
 have HC3 := Aside0.mk H
 clear H
 go_enter Try.func72, Try.ntmps72
 go_upto_if 3 with (first | ((with_reducible refine gtc 109 rfl ?_); refine zgL 5 Try.func109 (pattern_nan.calls k a0 t826 _ A2.out) (h := ?_); rintro w' ⟨nd, rfl⟩))
 (try simp only [Act.put, List.setIfInBounds_toArray, List.set_cons_zero, List.set_cons_succ])
 go_cut [3] (fun v3 wc => ∃ (kq : Nat) (x3_2 : Bool), v3 = .bool x3_2 ∧ Aside0 (pattern_Next.j0 kq a0 x3_2 = some r) ∧ Aside0 (kq ≤ k) ∧ Drawn0 w wc)
 case first =>
  have H := HC3.out
  clear HC3
  by_cases c4 : t826 = true
  ·subst c4
   replace H := zit H
   have H' := Aside0.mk H
   clear H
   go_wp2
   go_meet
   case rel => exact ⟨_, (true), zrl, H', ⟨zle⟩, by repeat (first | exact Drawn0.refl _ | apply Drawn0.step)⟩
  replace c4 := Bool.eq_false_iff.mpr c4
  subst c4
  replace H := zif H
  obtain ⟨t827, A5, H⟩ := zbs H
  try dsimp only at H
  have H' := Aside0.mk H
  clear H
  go_wp2_with (first | ((with_reducible refine gtc 79 rfl ?_); refine zgL 7 Try.func79 (pattern_Inf.calls k false t827 _ A5.out) (h := ?_); rintro w' ⟨nd, rfl⟩))
  go_meet
  case rel => exact ⟨_, ((a0 == t827)), zrl, H', ⟨zle⟩, by repeat (first | exact Drawn0.refl _ | apply Drawn0.step)⟩
 case rest =>
  clear HC3
  try clear c1
  try clear p2
  try clear c4
  obtain ⟨kq, x3_2, rfl, HA, HJ2, ⟨mc2, rfl⟩⟩ := hcut
  cases kq with
  | zero => exact absurd HA.out (by simp [pattern_Next.j0])
  | succ kj2 =>
   have H := HA.out
   clear HA
   simp only [pattern_Next.j0] at H
   by_cases c6 : x3_2 = true
   ·subst c6
    replace H := zit H
    obtain rfl := Option.some.inj H
    go_wp2
    go_ret
    exact ⟨by first | rfl | (simp; done) | (simp [*]; done), by repeat (first | exact Drawn0.refl _ | apply Drawn0.step)⟩
   replace c6 := Bool.eq_false_iff.mpr c6
   subst c6
   replace H := zif H
   obtain ⟨t828, A7, H⟩ := zbs H
   try dsimp only at H
   by_cases c8 : t828 = 0
   ·rw [if_pos c8] at H
    have c8b0 : (t828 == 0) = true := beq_iff_eq.mpr c8
    have c8b1 : (t828 != 0) = false := bne_eq_false_iff_eq.mpr c8
    clear c8
    obtain rfl := Option.some.inj H
    go_wp2_with (first | ((with_reducible refine gtc 110 rfl ?_); refine zgL 12 Try.func110 (pattern_key.calls a0 t828 _ A7.out) (h := ?_); rintro w' ⟨nd, rfl⟩))
    go_ret
    exact ⟨by first | rfl | (simp; done) | (simp [*]; done), by repeat (first | exact Drawn0.refl _ | apply Drawn0.step)⟩
   rw [if_neg c8] at H
   have c8b0 : (t828 == 0) = false := beq_eq_false_iff_ne.mpr c8
   have c8b1 : (t828 != 0) = true := bne_iff_ne.mpr c8
   by_cases c9 : (a0 / 9223372036854775808) = 1
   ·rw [if_pos c9] at H
    have c9b0 : ((a0 / 9223372036854775808) == 1) = true := beq_iff_eq.mpr c9
    have c9b1 : ((a0 / 9223372036854775808) != 1) = false := bne_eq_false_iff_eq.mpr c9
    clear c9
    obtain rfl := Option.some.inj H
    go_wp2_with (first | ((with_reducible refine gtc 110 rfl ?_); refine zgL 12 Try.func110 (pattern_key.calls a0 t828 _ A7.out) (h := ?_); rintro w' ⟨nd, rfl⟩))
    go_ret
    exact ⟨by first | rfl | (simp; done) | (simp [*]; done), by repeat (first | exact Drawn0.refl _ | apply Drawn0.step)⟩
   rw [if_neg c9] at H
   have c9b0 : ((a0 / 9223372036854775808) == 1) = false := beq_eq_false_iff_ne.mpr c9
   have c9b1 : ((a0 / 9223372036854775808) != 1) = true := bne_iff_ne.mpr c9
   obtain rfl := Option.some.inj H
   go_wp2_with (first | ((with_reducible refine gtc 110 rfl ?_); refine zgL 12 Try.func110 (pattern_key.calls a0 t828 _ A7.out) (h := ?_); rintro w' ⟨nd, rfl⟩))
   go_ret
   exact ⟨by first | rfl | (simp; done) | (simp [*]; done), by repeat (first | exact Drawn0.refl _ | apply Drawn0.step)⟩
theorem pattern_Prev.calls (k : Nat) (a0 : Int) (r : Int) (w : World) (h : pattern_Prev.f k a0 = some r) :
  Calls Try.prog 168 #[.int .u64 a0] w fun e w' => e = .returned (.int .u64 r) ∧ Drawn0 w w' := by
 have H : ((pattern_Neg.f k a0).bind fun t829 => ((pattern_Next.f k t829).bind fun t830 => ((pattern_Neg.f k t830).bind fun t831 => (some t831)))) = some r := h
 clear h
 obtain ⟨t829, A2, H⟩ := zbs H
 try dsimp only at H
 obtain ⟨t830, A3, H⟩ := zbs H
 try dsimp only at H
 obtain ⟨t831, A4, H⟩ := zbs H
 try dsimp only at H
 obtain rfl := Option.some.inj H
 go_enter Try.func168, Try.ntmps168
 go_wp2_with (first | ((with_reducible refine gtc 32 rfl ?_); refine zgL 4 Try.func32 (pattern_Neg.calls k a0 t829 _ A2.out) (h := ?_); rintro w' ⟨nd, rfl⟩) | ((with_reducible refine gtc 72 rfl ?_); refine zgL 5 Try.func72 (pattern_Next.calls k t829 t830 _ A3.out) (h := ?_); rintro w' ⟨nd, rfl⟩) | ((with_reducible refine gtc 32 rfl ?_); refine zgL 6 Try.func32 (pattern_Neg.calls k t830 t831 _ A4.out) (h := ?_); rintro w' ⟨nd, rfl⟩))
 go_ret
 exact ⟨by first | rfl | (simp; done) | (simp [*]; done), by repeat (first | exact Drawn0.refl _ | apply Drawn0.step)⟩
theorem span_outer.calls (k : Nat) (a0 : Int) (a1 : Int) (r1 : Bool) (r2 : Int) (r3 : Int) (w : World) (h : span_outer.f k a0 a1 = some (r1, r2, r3)) :
  Calls Try.prog 172 #[.int .u64 a0, .int .u64 a1] w fun e w' => e = .returned (.agg #[.bool r1, .int .u64 r2, .int .u64 r3]) ∧ Below w.heap.size w w' := by
 have hu43 := Try.underlying43
 have HB := Aside0.mk (Below.refl w.heap.size w)
 have H : ((span_inf.f k).bind fun t909 => (if a0 = t909 then ((pattern_Prev.f k a0).bind fun t910 => ((span_Make.f k t910 a1).bind fun bt911 => (some (bt911.1, bt911.2.1, bt911.2.2)))) else ((span_ninf.f k).bind fun t914 => (if a1 = t914 then ((pattern_Next.f k a1).bind fun t915 => ((span_Make.f k a0 t915).bind fun bt916 => (some (bt916.1, bt916.2.1, bt916.2.2)))) else ((span_Make.f k a0 a1).bind fun bt919 => (some (bt919.1, bt919.2.1, bt919.2.2))))))) = some (r1, r2, r3) := h
 clear h
 obtain ⟨t909, A3, H⟩ := zbs H
 try dsimp only at H
 by_cases c4 : a0 = t909
 ·rw [if_pos c4] at H
  have c4b0 : (a0 == t909) = true := beq_iff_eq.mpr c4
  have c4b1 : (a0 != t909) = false := bne_eq_false_iff_eq.mpr c4
  clear c4
  obtain ⟨t910, A5, H⟩ := zbs H
  try dsimp only at H
  obtain ⟨⟨t911, t912, t913⟩, A6, H⟩ := zbs H
  try dsimp only at H
  simp only [Option.some.injEq, Prod.mk.injEq] at H
  obtain ⟨rfl, rfl, rfl⟩ := H
  go_enter Try.func172, Try.ntmps172
  go_wp2_with (first | ((with_reducible refine gtd 4 rfl ?_); refine zbx 4 #[.bool false, .int .u64 0, .int .u64 0] 43 (h := ?_); intro gb908 hg w7 hbox hb; have GW908 := zkZ hg (zaB (p := Below w.heap.size w _)); replace HB := Aside0.mk (below_step zaB hb); have BK908 := Aside0.mk (hbox); clear hb hbox hg) | ((with_reducible refine gtc 114 rfl ?_); refine zgL 7 Try.func114 (span_inf.calls k  t909 _ A3.out) (h := ?_); rintro w' ⟨nd, rfl⟩; (try (rw [drewN_self w7]; generalize hq_ : World.drewN w7 _ = w7; have n0_ : Aside0 (w7.heap[gb908]? = some (.cells #[.bool false, .int .u64 0, .int .u64 0] 43 (0, 0))) := ⟨by rw [← hq_]; exact (zkq BK908)⟩; have n1_ : Aside0 (Below w.heap.size w w7) := ⟨by rw [← hq_]; exact zaB⟩; clear BK908 HB hq_; have BK908 := n0_; have HB := n1_; clear n0_ n1_))) | ((with_reducible refine gtc 168 rfl ?_); refine zgL 10 Try.func168 (pattern_Prev.calls k a0 t910 _ A5.out) (h := ?_); rintro w' ⟨nd, rfl⟩; (try (rw [drewN_self w7]; generalize hq_ : World.drewN w7 _ = w7; have n0_ : Aside0 (w7.heap[gb908]? = some (.cells #[.bool false, .int .u64 0, .int .u64 0] 43 (0, 0))) := ⟨by rw [← hq_]; exact (zkq BK908)⟩; have n1_ : Aside0 (Below w.heap.size w w7) := ⟨by rw [← hq_]; exact zaB⟩; clear BK908 HB hq_; have BK908 := n0_; have HB := n1_; clear n0_ n1_))) | ((with_reducible refine gtc 37 rfl ?_); refine zgL 19 Try.func37 (span_Make.calls k t910 a1 t911 t912 t913 _ A6.out) (h := ?_); rintro w8 hb; replace BK908 := zkb BK908 hb; replace HB := zkB HB hb; (try clear hb); obtain ⟨_, _, _, _, _, _⟩ := zq3 BK908))
  refine bodyPost_ret (results_cell_row rfl _ _ gb908 43 #[.bool t911, .int .u64 t912, .int .u64 t913] (0, 0) _ rfl (blk_put (cs := #[.bool t911, .int .u64 t912, .int .u64 0]) (blk_put (cs := #[.bool t911, .int .u64 0, .int .u64 0]) (blk_put (zkq BK908) 0 _ rfl) 1 _ rfl) 2 _ rfl) Try.underlying43 rfl (by kernel_rfl)) rfl ?_
  exact ⟨zaE, zaB⟩
 rw [if_neg c4] at H
 have c4b0 : (a0 == t909) = false := beq_eq_false_iff_ne.mpr c4
 have c4b1 : (a0 != t909) = true := bne_iff_ne.mpr c4
 obtain ⟨t914, A10, H⟩ := zbs H
 try dsimp only at H
 by_cases c11 : a1 = t914
 ·rw [if_pos c11] at H
  have c11b0 : (a1 == t914) = true := beq_iff_eq.mpr c11
  have c11b1 : (a1 != t914) = false := bne_eq_false_iff_eq.mpr c11
  clear c11
  obtain ⟨t915, A12, H⟩ := zbs H
  try dsimp only at H
  obtain ⟨⟨t916, t917, t918⟩, A13, H⟩ := zbs H
  try dsimp only at H
  simp only [Option.some.injEq, Prod.mk.injEq] at H
  obtain ⟨rfl, rfl, rfl⟩ := H
  go_enter Try.func172, Try.ntmps172
  go_wp2_with (first | ((with_reducible refine gtd 4 rfl ?_); refine zbx 4 #[.bool false, .int .u64 0, .int .u64 0] 43 (h := ?_); intro gb908 hg w14 hbox hb; have GW908 := zkZ hg (zaB (p := Below w.heap.size w _)); replace HB := Aside0.mk (below_step zaB hb); have BK908 := Aside0.mk (hbox); clear hb hbox hg) | ((with_reducible refine gtc 114 rfl ?_); refine zgL 7 Try.func114 (span_inf.calls k  t909 _ A3.out) (h := ?_); rintro w' ⟨nd, rfl⟩; (try (rw [drewN_self w14]; generalize hq_ : World.drewN w14 _ = w14; have n0_ : Aside0 (w14.heap[gb908]? = some (.cells #[.bool false, .int .u64 0, .int .u64 0] 43 (0, 0))) := ⟨by rw [← hq_]; exact (zkq BK908)⟩; have n1_ : Aside0 (Below w.heap.size w w14) := ⟨by rw [← hq_]; exact zaB⟩; clear BK908 HB hq_; have BK908 := n0_; have HB := n1_; clear n0_ n1_))) | ((with_reducible refine gtc 113 rfl ?_); refine zgL 13 Try.func113 (span_ninf.calls k  t914 _ A10.out) (h := ?_); rintro w' ⟨nd, rfl⟩; (try (rw [drewN_self w14]; generalize hq_ : World.drewN w14 _ = w14; have n0_ : Aside0 (w14.heap[gb908]? = some (.cells #[.bool false, .int .u64 0, .int .u64 0] 43 (0, 0))) := ⟨by rw [← hq_]; exact (zkq BK908)⟩; have n1_ : Aside0 (Below w.heap.size w w14) := ⟨by rw [← hq_]; exact zaB⟩; clear BK908 HB hq_; have BK908 := n0_; have HB := n1_; clear n0_ n1_))) | ((with_reducible refine gtc 72 rfl ?_); refine zgL 16 Try.func72 (pattern_Next.calls k a1 t915 _ A12.out) (h := ?_); rintro w' ⟨nd, rfl⟩; (try (rw [drewN_self w14]; generalize hq_ : World.drewN w14 _ = w14; have n0_ : Aside0 (w14.heap[gb908]? = some (.cells #[.bool false, .int .u64 0, .int .u64 0] 43 (0, 0))) := ⟨by rw [← hq_]; exact (zkq BK908)⟩; have n1_ : Aside0 (Below w.heap.size w w14) := ⟨by rw [← hq_]; exact zaB⟩; clear BK908 HB hq_; have BK908 := n0_; have HB := n1_; clear n0_ n1_))) | ((with_reducible refine gtc 37 rfl ?_); refine zgL 19 Try.func37 (span_Make.calls k a0 t915 t916 t917 t918 _ A13.out) (h := ?_); rintro w15 hb; replace BK908 := zkb BK908 hb; replace HB := zkB HB hb; (try clear hb); obtain ⟨_, _, _, _, _, _⟩ := zq3 BK908))
  refine bodyPost_ret (results_cell_row rfl _ _ gb908 43 #[.bool t916, .int .u64 t917, .int .u64 t918] (0, 0) _ rfl (blk_put (cs := #[.bool t916, .int .u64 t917, .int .u64 0]) (blk_put (cs := #[.bool t916, .int .u64 0, .int .u64 0]) (blk_put (zkq BK908) 0 _ rfl) 1 _ rfl) 2 _ rfl) Try.underlying43 rfl (by kernel_rfl)) rfl ?_
  exact ⟨zaE, zaB⟩
 rw [if_neg c11] at H
 have c11b0 : (a1 == t914) = false := beq_eq_false_iff_ne.mpr c11
 have c11b1 : (a1 != t914) = true := bne_iff_ne.mpr c11
 obtain ⟨⟨t919, t920, t921⟩, A17, H⟩ := zbs H
 try dsimp only at H
 simp only [Option.some.injEq, Prod.mk.injEq] at H
 obtain ⟨rfl, rfl, rfl⟩ := H
 go_enter Try.func172, Try.ntmps172
 go_wp2_with (first | ((with_reducible refine gtd 4 rfl ?_); refine zbx 4 #[.bool false, .int .u64 0, .int .u64 0] 43 (h := ?_); intro gb908 hg w18 hbox hb; have GW908 := zkZ hg (zaB (p := Below w.heap.size w _)); replace HB := Aside0.mk (below_step zaB hb); have BK908 := Aside0.mk (hbox); clear hb hbox hg) | ((with_reducible refine gtc 114 rfl ?_); refine zgL 7 Try.func114 (span_inf.calls k  t909 _ A3.out) (h := ?_); rintro w' ⟨nd, rfl⟩; (try (rw [drewN_self w18]; generalize hq_ : World.drewN w18 _ = w18; have n0_ : Aside0 (w18.heap[gb908]? = some (.cells #[.bool false, .int .u64 0, .int .u64 0] 43 (0, 0))) := ⟨by rw [← hq_]; exact (zkq BK908)⟩; have n1_ : Aside0 (Below w.heap.size w w18) := ⟨by rw [← hq_]; exact zaB⟩; clear BK908 HB hq_; have BK908 := n0_; have HB := n1_; clear n0_ n1_))) | ((with_reducible refine gtc 113 rfl ?_); refine zgL 13 Try.func113 (span_ninf.calls k  t914 _ A10.out) (h := ?_); rintro w' ⟨nd, rfl⟩; (try (rw [drewN_self w18]; generalize hq_ : World.drewN w18 _ = w18; have n0_ : Aside0 (w18.heap[gb908]? = some (.cells #[.bool false, .int .u64 0, .int .u64 0] 43 (0, 0))) := ⟨by rw [← hq_]; exact (zkq BK908)⟩; have n1_ : Aside0 (Below w.heap.size w w18) := ⟨by rw [← hq_]; exact zaB⟩; clear BK908 HB hq_; have BK908 := n0_; have HB := n1_; clear n0_ n1_))) | ((with_reducible refine gtc 37 rfl ?_); refine zgL 19 Try.func37 (span_Make.calls k a0 a1 t919 t920 t921 _ A17.out) (h := ?_); rintro w19 hb; replace BK908 := zkb BK908 hb; replace HB := zkB HB hb; (try clear hb); obtain ⟨_, _, _, _, _, _⟩ := zq3 BK908))
 refine bodyPost_ret (results_cell_row rfl _ _ gb908 43 #[.bool t919, .int .u64 t920, .int .u64 t921] (0, 0) _ rfl (blk_put (cs := #[.bool t919, .int .u64 t920, .int .u64 0]) (blk_put (cs := #[.bool t919, .int .u64 0, .int .u64 0]) (blk_put (zkq BK908) 0 _ rfl) 1 _ rfl) 2 _ rfl) Try.underlying43 rfl (by kernel_rfl)) rfl ?_
 exact ⟨zaE, zaB⟩
theorem pattern_Quiet.calls  (r : Int) (w : World) (h : pattern_Quiet.f  = some r) :
  Calls Try.prog 81 #[] w fun e w' => e = .returned (.int .u64 r) ∧ Drawn0 w w' := by
 have H : (some 9221120237041090560) = some r := h
 clear h
 obtain rfl := Option.some.inj H
 go_enter Try.func81, Try.ntmps81
 go_wp2
 go_ret
 exact ⟨by first | rfl | (simp; done) | (simp [*]; done), by repeat (first | exact Drawn0.refl _ | apply Drawn0.step)⟩
theorem pattern_Split.calls (k : Nat) (a0 : Int) (r1 : Int) (r2 : Int) (w : World) (h : pattern_Split.f k a0 = some (r1, r2)) :
  Calls Try.prog 140 #[.int .u64 a0] w fun e w' => e = .returned (.tuple #[.int .u64 r1, .int .i64 r2]) ∧ Drawn0 w w' := by
 have H : ((pattern_Parts.f a0).bind fun bt104 => ((pattern_Class.f k a0).bind fun t107 => (if t107 = 2 then (some (Go.bits .or .u64 4503599627370496 bt104.2.2, wrap64 (bt104.2.1 - 1075))) else (if t107 = 1 then (some (bt104.2.2, (-1074))) else (some (0, 0)))))) = some (r1, r2) := h
 clear h
 obtain ⟨⟨t104, t105, t106⟩, A2, H⟩ := zbs H
 try dsimp only at H
 obtain ⟨t107, A3, H⟩ := zbs H
 try dsimp only at H
 by_cases c4 : t107 = 2
 ·rw [if_pos c4] at H
  have c4b0 : (t107 == 2) = true := beq_iff_eq.mpr c4
  have c4b1 : (t107 != 2) = false := bne_eq_false_iff_eq.mpr c4
  clear c4
  simp only [Option.some.injEq, Prod.mk.injEq] at H
  obtain ⟨rfl, rfl⟩ := H
  go_enter Try.func140, Try.ntmps140
  go_wp2_with (first | ((with_reducible refine gtc 98 rfl ?_); refine zgL 9 Try.func98 (pattern_Parts.calls a0 t104 t105 t106 _ A2.out) (h := ?_); rintro w' ⟨nd, rfl⟩) | ((with_reducible refine gtc 24 rfl ?_); refine zgL 14 Try.func24 (pattern_Class.calls k a0 t107 _ A3.out) (h := ?_); rintro w' ⟨nd, rfl⟩))
  go_ret2
  exact ⟨by first | rfl | (simp; done) | (simp [*]; done), by repeat (first | exact Drawn0.refl _ | apply Drawn0.step)⟩
 rw [if_neg c4] at H
 have c4b0 : (t107 == 2) = false := beq_eq_false_iff_ne.mpr c4
 have c4b1 : (t107 != 2) = true := bne_iff_ne.mpr c4
 by_cases c5 : t107 = 1
 ·rw [if_pos c5] at H
  have c5b0 : (t107 == 1) = true := beq_iff_eq.mpr c5
  have c5b1 : (t107 != 1) = false := bne_eq_false_iff_eq.mpr c5
  clear c5
  simp only [Option.some.injEq, Prod.mk.injEq] at H
  obtain ⟨rfl, rfl⟩ := H
  go_enter Try.func140, Try.ntmps140
  go_wp2_with (first | ((with_reducible refine gtc 98 rfl ?_); refine zgL 9 Try.func98 (pattern_Parts.calls a0 t104 t105 t106 _ A2.out) (h := ?_); rintro w' ⟨nd, rfl⟩) | ((with_reducible refine gtc 24 rfl ?_); refine zgL 14 Try.func24 (pattern_Class.calls k a0 t107 _ A3.out) (h := ?_); rintro w' ⟨nd, rfl⟩))
  go_ret2
  exact ⟨by first | rfl | (simp; done) | (simp [*]; done), by repeat (first | exact Drawn0.refl _ | apply Drawn0.step)⟩
 rw [if_neg c5] at H
 have c5b0 : (t107 == 1) = false := beq_eq_false_iff_ne.mpr c5
 have c5b1 : (t107 != 1) = true := bne_iff_ne.mpr c5
 simp only [Option.some.injEq, Prod.mk.injEq] at H
 obtain ⟨rfl, rfl⟩ := H
 go_enter Try.func140, Try.ntmps140
 go_wp2_with (first | ((with_reducible refine gtc 98 rfl ?_); refine zgL 9 Try.func98 (pattern_Parts.calls a0 t104 t105 t106 _ A2.out) (h := ?_); rintro w' ⟨nd, rfl⟩) | ((with_reducible refine gtc 24 rfl ?_); refine zgL 14 Try.func24 (pattern_Class.calls k a0 t107 _ A3.out) (h := ?_); rintro w' ⟨nd, rfl⟩))
 go_ret2
 exact ⟨by first | rfl | (simp; done) | (simp [*]; done), by repeat (first | exact Drawn0.refl _ | apply Drawn0.step)⟩
theorem soft_of.calls (k : Nat) (a0 : Int) (r1 : Int) (r2 : Int) (r3 : Bool) (r4 : Int) (r5 : Int) (w : World) (h : soft_of.f k a0 = some (r1, r2, r3, r4, r5)) :
  Calls Try.prog 82 #[.int .u64 a0] w fun e w' => e = .returned (.agg #[.int .u64 r1, .int .u8 r2, .bool r3, .int .u64 r4, .int .i64 r5]) ∧ Below w.heap.size w w' := by
 have hu88 := Try.underlying88
 have HB := Aside0.mk (Below.refl w.heap.size w)
 have H : ((pattern_Split.f k a0).bind fun bt109 => ((pattern_Class.f k a0).bind fun t111 => (some (a0, t111, ((a0 / 9223372036854775808) == 1), bt109.1, bt109.2)))) = some (r1, r2, r3, r4, r5) := h
 clear h
 obtain ⟨⟨t109, t110⟩, A2, H⟩ := zbs H
 try dsimp only at H
 obtain ⟨t111, A3, H⟩ := zbs H
 try dsimp only at H
 simp only [Option.some.injEq, Prod.mk.injEq] at H
 obtain ⟨rfl, rfl, rfl, rfl, rfl⟩ := H
 go_enter Try.func82, Try.ntmps82
 go_wp2_with (first | ((with_reducible refine gtd 2 rfl ?_); refine zbx 2 #[.int .u64 0, .int .u8 0, .bool false, .int .u64 0, .int .i64 0] 88 (h := ?_); intro gb108 hg w4 hbox hb; have GW108 := zkZ hg (zaB (p := Below w.heap.size w _)); replace HB := Aside0.mk (below_step zaB hb); have BK108 := Aside0.mk (hbox); clear hb hbox hg) | ((with_reducible refine gtc 140 rfl ?_); refine zgL 7 Try.func140 (pattern_Split.calls k a0 t109 t110 _ A2.out) (h := ?_); rintro w' ⟨nd, rfl⟩; (try (rw [drewN_self w4]; generalize hq_ : World.drewN w4 _ = w4; have n0_ : Aside0 (w4.heap[gb108]? = some (.cells #[.int .u64 0, .int .u8 0, .bool false, .int .u64 0, .int .i64 0] 88 (0, 0))) := ⟨by rw [← hq_]; exact (zkq BK108)⟩; have n1_ : Aside0 (Below w.heap.size w w4) := ⟨by rw [← hq_]; exact zaB⟩; clear BK108 HB hq_; have BK108 := n0_; have HB := n1_; clear n0_ n1_))) | ((with_reducible refine gtc 24 rfl ?_); refine zgL 12 Try.func24 (pattern_Class.calls k a0 t111 _ A3.out) (h := ?_); rintro w' ⟨nd, rfl⟩; (try (rw [drewN_self w4]; generalize hq_ : World.drewN w4 _ = w4; have n0_ : Aside0 (w4.heap[gb108]? = some (.cells #[.int .u64 0, .int .u8 0, .bool false, .int .u64 0, .int .i64 0] 88 (0, 0))) := ⟨by rw [← hq_]; exact (zkq BK108)⟩; have n1_ : Aside0 (Below w.heap.size w w4) := ⟨by rw [← hq_]; exact zaB⟩; clear BK108 HB hq_; have BK108 := n0_; have HB := n1_; clear n0_ n1_)); obtain ⟨_, _, _, _, _, _, _, _, _, _⟩ := zq5 BK108))
 refine bodyPost_ret (results_cell_row rfl _ _ gb108 88 #[.int .u64 a0, .int .u8 t111, .bool ((a0 / 9223372036854775808) == 1), .int .u64 t109, .int .i64 t110] (0, 0) _ rfl (blk_put (cs := #[.int .u64 a0, .int .u8 t111, .bool ((a0 / 9223372036854775808) == 1), .int .u64 t109, .int .i64 0]) (blk_put (cs := #[.int .u64 a0, .int .u8 t111, .bool ((a0 / 9223372036854775808) == 1), .int .u64 0, .int .i64 0]) (blk_put (cs := #[.int .u64 a0, .int .u8 t111, .bool false, .int .u64 0, .int .i64 0]) (blk_put (cs := #[.int .u64 a0, .int .u8 0, .bool false, .int .u64 0, .int .i64 0]) (blk_put (zkq BK108) 0 _ rfl) 1 _ rfl) 2 _ rfl) 3 _ rfl) 4 _ rfl) Try.underlying88 rfl (by kernel_rfl)) rfl ?_
 exact ⟨zaE, zaB⟩
theorem soft_either.calls (a0_0 : Int) (a0_1 : Int) (a0_2 : Bool) (a0_3 : Int) (a0_4 : Int) (a1_0 : Int) (a1_1 : Int) (a1_2 : Bool) (a1_3 : Int) (a1_4 : Int) (a2 : Int) (r : Bool) (w : World) (h : soft_either.f a0_0 a0_1 a0_2 a0_3 a0_4 a1_0 a1_1 a1_2 a1_3 a1_4 a2 = some r) :
  Calls Try.prog 83 #[.agg #[.int .u64 a0_0, .int .u8 a0_1, .bool a0_2, .int .u64 a0_3, .int .i64 a0_4], .agg #[.int .u64 a1_0, .int .u8 a1_1, .bool a1_2, .int .u64 a1_3, .int .i64 a1_4], .int .u8 a2] w fun e w' => e = .returned (.bool r) ∧ Below w.heap.size w w' := by
 have hu88 := Try.underlying88
 have HB := Aside0.mk (Below.refl w.heap.size w)
 have H : (if a0_1 = a2 then (some true) else (some (a1_1 == a2))) = some r := h
 clear h
 by_cases c4 : a0_1 = a2
 ·rw [if_pos c4] at H
  have c4b0 : (a0_1 == a2) = true := beq_iff_eq.mpr c4
  have c4b1 : (a0_1 != a2) = false := bne_eq_false_iff_eq.mpr c4
  clear c4
  obtain rfl := Option.some.inj H
  go_enter Try.func83, Try.ntmps83
  go_wp2_with (first | ((with_reducible refine gtd 3 rfl ?_); refine zbx 3 #[.int .u64 a0_0, .int .u8 a0_1, .bool a0_2, .int .u64 a0_3, .int .i64 a0_4] 88 (h := ?_); intro gb112 hg w5 hbox hb; have GW112 := zkZ hg (zaB (p := Below w.heap.size w _)); replace HB := Aside0.mk (below_step zaB hb); have BK112 := Aside0.mk (hbox); clear hb hbox hg) | ((with_reducible refine gtd 4 rfl ?_); refine zbx 4 #[.int .u64 a1_0, .int .u8 a1_1, .bool a1_2, .int .u64 a1_3, .int .i64 a1_4] 88 (h := ?_); intro gb113 hg w6 hbox hb; have GW113 := zkz HB hg; have NB112_113 := zkl BK112 hg; have NB113_112 := zkr BK112 hg; replace BK112 := zkb BK112 hb; replace HB := zkB HB hb; have BK113 := Aside0.mk (hbox); clear hb hbox hg; obtain ⟨_, _⟩ := zsy NB112_113; obtain ⟨_, _, _, _, _, _, _, _, _, _⟩ := zq5 BK112))
  go_ret
  exact ⟨zaE, zaB⟩
 rw [if_neg c4] at H
 have c4b0 : (a0_1 == a2) = false := beq_eq_false_iff_ne.mpr c4
 have c4b1 : (a0_1 != a2) = true := bne_iff_ne.mpr c4
 obtain rfl := Option.some.inj H
 go_enter Try.func83, Try.ntmps83
 go_wp2_with (first | ((with_reducible refine gtd 3 rfl ?_); refine zbx 3 #[.int .u64 a0_0, .int .u8 a0_1, .bool a0_2, .int .u64 a0_3, .int .i64 a0_4] 88 (h := ?_); intro gb112 hg w9 hbox hb; have GW112 := zkZ hg (zaB (p := Below w.heap.size w _)); replace HB := Aside0.mk (below_step zaB hb); have BK112 := Aside0.mk (hbox); clear hb hbox hg) | ((with_reducible refine gtd 4 rfl ?_); refine zbx 4 #[.int .u64 a1_0, .int .u8 a1_1, .bool a1_2, .int .u64 a1_3, .int .i64 a1_4] 88 (h := ?_); intro gb113 hg w10 hbox hb; have GW113 := zkz HB hg; have NB112_113 := zkl BK112 hg; have NB113_112 := zkr BK112 hg; replace BK112 := zkb BK112 hb; replace HB := zkB HB hb; have BK113 := Aside0.mk (hbox); clear hb hbox hg; obtain ⟨_, _⟩ := zsy NB112_113; obtain ⟨_, _, _, _, _, _, _, _, _, _⟩ := zq5 BK112; obtain ⟨_, _, _, _, _, _, _, _, _, _⟩ := zq5 BK113))
 go_ret
 exact ⟨zaE, zaB⟩
theorem soft_invalid.calls  (r1 : Int) (r2 : Int) (w : World) (h : soft_invalid.f  = some (r1, r2)) :
  Calls Try.prog 84 #[] w fun e w' => e = .returned (.tuple #[.int .u64 r1, .int .u8 r2]) ∧ Drawn0 w w' := by
 have H : ((pattern_Quiet.f).bind fun t114 => (some (t114, 16))) = some (r1, r2) := h
 clear h
 obtain ⟨t114, A1, H⟩ := zbs H
 try dsimp only at H
 simp only [Option.some.injEq, Prod.mk.injEq] at H
 obtain ⟨rfl, rfl⟩ := H
 go_enter Try.func84, Try.ntmps84
 go_wp2_with (first | ((with_reducible refine gtc 81 rfl ?_); refine zgL 2 Try.func81 (pattern_Quiet.calls  t114 _ A1.out) (h := ?_); rintro w' ⟨nd, rfl⟩))
 go_ret2
 exact ⟨by first | rfl | (simp; done) | (simp [*]; done), by repeat (first | exact Drawn0.refl _ | apply Drawn0.step)⟩
theorem bits_Len64.calls (a0 : Int) (r : Int) (w : World) (h : bits_Len64.f a0 = some r) :
  Calls Try.prog 161 #[.int .u64 a0] w fun e w' => e = .returned (.int .i64 r) ∧ Drawn0 w w' := by
 unfold bits_Len64.f at h
 split at h
 ·rename_i g
  obtain rfl := Option.some.inj h
  exact (Try.bits_Len64 a0 w g.1 g.2).mono fun e w' ⟨h1, h2⟩ => ⟨h1, h2 ▸ Drawn0.refl _⟩
 cases h
theorem wide_U128_Len.calls (a0_0 : Int) (a0_1 : Int) (r : Int) (w : World) (h : wide_U128_Len.f a0_0 a0_1 = some r) :
  Calls Try.prog 103 #[.agg #[.int .u64 a0_0, .int .u64 a0_1]] w fun e w' => e = .returned (.int .i64 r) ∧ Below w.heap.size w w' := by
 have hu109 := Try.underlying109
 have HB := Aside0.mk (Below.refl w.heap.size w)
 have H : (if a0_0 > 0 then ((bits_Len64.f a0_0).bind fun t118 => (some (wrap64 (64 + t118)))) else ((bits_Len64.f a0_1).bind fun t119 => (some t119))) = some r := h
 clear h
 by_cases c2 : a0_0 > 0
 ·rw [if_pos c2] at H
  have c2b0 : decide (0 < a0_0) = true := decide_eq_true c2
  clear c2
  obtain ⟨t118, A3, H⟩ := zbs H
  try dsimp only at H
  obtain rfl := Option.some.inj H
  go_enter Try.func103, Try.ntmps103
  go_wp2_with (first | ((with_reducible refine gtd 1 rfl ?_); refine zbx 1 #[.int .u64 a0_0, .int .u64 a0_1] 109 (h := ?_); intro gb117 hg w4 hbox hb; have GW117 := zkZ hg (zaB (p := Below w.heap.size w _)); replace HB := Aside0.mk (below_step zaB hb); have BK117 := Aside0.mk (hbox); clear hb hbox hg; obtain ⟨_, _, _, _⟩ := zq2 BK117) | ((with_reducible refine gtc 161 rfl ?_); refine zgL 8 Try.func161 (bits_Len64.calls a0_0 t118 _ A3.out) (h := ?_); rintro w' ⟨nd, rfl⟩))
  go_ret
  exact ⟨zaE, zaB⟩
 rw [if_neg c2] at H
 have c2b0 : decide (0 < a0_0) = false := decide_eq_false c2
 clear c2
 obtain ⟨t119, A6, H⟩ := zbs H
 try dsimp only at H
 obtain rfl := Option.some.inj H
 go_enter Try.func103, Try.ntmps103
 go_wp2_with (first | ((with_reducible refine gtd 1 rfl ?_); refine zbx 1 #[.int .u64 a0_0, .int .u64 a0_1] 109 (h := ?_); intro gb117 hg w7 hbox hb; have GW117 := zkZ hg (zaB (p := Below w.heap.size w _)); replace HB := Aside0.mk (below_step zaB hb); have BK117 := Aside0.mk (hbox); clear hb hbox hg; obtain ⟨_, _, _, _⟩ := zq2 BK117) | ((with_reducible refine gtc 161 rfl ?_); refine zgL 12 Try.func161 (bits_Len64.calls a0_1 t119 _ A6.out) (h := ?_); rintro w' ⟨nd, rfl⟩))
 go_ret
 exact ⟨zaE, zaB⟩
theorem eqA109 (d : Nat) (w : World) (x0 y0 : Int) (x1 y1 : Int) :
  (Op.equalIn (d + 2) 109 (.agg #[.int .u64 x0, .int .u64 x1]) (.agg #[.int .u64 y0, .int .u64 y1])).run Try.prog w = .ok (x0 == y0 && (x1 == y1)) w := by
 refine eqA_of Try.underlying109 (by kernel_rfl) ?_
 refine eqf_cons (by rfl) (by go_simp; rfl) (by go_simp; rfl) (by go_simp) ?_
 exact eqf_last (by rfl) (by go_simp; rfl) (by go_simp; rfl) (by go_simp)
end Go.Proofs.Ytmadjhmecfbcmaa.F
end
section
namespace Go.Proofs.Ytmadjhmecfbcmaa.F
open Go.RowKit Go.Proofs.YtmadjhmecfbcmaaW.PrintWords Go.Proofs.YtmadjhmecfbcmaaW.PrintLast Go.Proofs.YtmadjhmecfbcmaaW.PrintMore
attribute [local go_sem] max2_int min2_int max_two min_two max_three min_three max_four min_four
set_option linter.unusedVariables false
set_option linter.unusedSimpArgs false
set_option maxHeartbeats 8000000
set_option maxRecDepth 100000
attribute [local go_sem high] eqA109
def wide_U128_Shl.T8 : Bool × List (List Nat × List Nat) := (true, [([], []), ([0], [0]), ([], []), ([1, 2], [1, 2]), ([], []), ([4], [4]), ([], []), ([6], [6]), ([5, 7], [5, 7]), ([3, 8], [3, 8]), ([], []), ([10], [10]), ([], []), ([11, 12], [11, 12]), ([9, 13], [9, 13]), ([14, 0, 1, 2, 3, 4, 5, 6, 7, 8, 9, 10, 11, 12, 13, 14], [14])])
def wide_U128_Shl.B8 : List Nat := [0, 1, 0, 7, 0, 16, 0, 64, 240, 511, 0, 1024, 0, 7168, 16383, 32767]
theorem wide_U128_Shl.tab8 : rtab .any (opsOf Try.f106 8) = wide_U128_Shl.T8 := by kernel_rfl
theorem wide_U128_Shl.bits8 : waitsOk wide_U128_Shl.T8.2 wide_U128_Shl.B8 = true := by kernel_rfl
theorem wide_U128_Shl.calls (k : Nat) (a0_0 : Int) (a0_1 : Int) (a1 : Int) (r1 : Int) (r2 : Int) (w : World) (h : wide_U128_Shl.f k a0_0 a0_1 a1 = some (r1, r2)) :
  Calls Try.prog 106 #[.agg #[.int .u64 a0_0, .int .u64 a0_1], .int .i64 a1] w fun e w' => e = .returned (.agg #[.int .u64 r1, .int .u64 r2]) ∧ Below w.heap.size w w' := by
 have hu109 := Try.underlying109
 have HB := Aside0.mk (Below.refl w.heap.size w)
 have H : (wide_U128_Shl.l0 k a1 a0_0 a0_1) = some (r1, r2) := h
 clear h
 have H' := Aside0.mk H
 clear H
 go_enter Try.func106, Try.ntmps106
 go_wp2_with (first | ((with_reducible refine gtd 2 rfl ?_); refine zbx 2 #[.int .u64 a0_0, .int .u64 a0_1] 109 (h := ?_); intro gb120 hg w3 hbox hb; have GW120 := zkZ hg (zaB (p := Below w.heap.size w _)); replace HB := Aside0.mk (below_step zaB hb); have BK120 := Aside0.mk (hbox); clear hb hbox hg) | ((with_reducible refine gtd 4 rfl ?_); refine zbx 4 #[.int .u64 0, .int .u64 0] 109 (h := ?_); intro gb121 hg w4 hbox hb; have GW121 := zkz HB hg; have NB120_121 := zkl BK120 hg; have NB121_120 := zkr BK120 hg; replace BK120 := zkb BK120 hb; replace HB := zkB HB hb; have BK121 := Aside0.mk (hbox); clear hb hbox hg))
 (try simp only [Act.put, List.setIfInBounds_toArray, List.set_cons_zero, List.set_cons_succ])
 go_loopg [1] k (fun kq v1 w' => ∃ (x1_1 : Int) (x121000_1 : Int) (x121001_1 : Int) (x122000_1 : Int) (x122001_1 : Int), v1 = .int .i64 x1_1 ∧ Aside0 (wide_U128_Shl.l0 kq x1_1 x121000_1 x121001_1 = some (r1, r2)) ∧ Aside0 (kq ≤ k) ∧ Aside0 (w'.heap[gb120]? = some (.cells #[.int .u64 x121000_1, .int .u64 x121001_1] 109 (0, 0))) ∧ Aside0 (w'.heap[gb121]? = some (.cells #[.int .u64 x122000_1, .int .u64 x122001_1] 109 (0, 0))) ∧ Aside0 (Below w.heap.size w w'))
 case atStart => exact ⟨(a1), (a0_0), (a0_1), (0), (0), zrl, H', ⟨Nat.le_refl _⟩, ⟨zkq BK120⟩, ⟨zkq BK121⟩, ⟨zaB⟩⟩
 case round =>
  clear H'
  try clear c1
  try clear p2
  obtain ⟨x1_1, x121000_1, x121001_1, x122000_1, x122001_1, rfl, HA, HK1, BK120, BK121, HB⟩ := hrel
  cases gk with
  | zero => exact absurd HA.out (by simp [wide_U128_Shl.l0])
  | succ k1 =>
   have H := HA.out
   clear HA
   simp only [wide_U128_Shl.l0] at H
   by_cases c5 : x1_1 ≥ 64
   ·rw [if_pos c5] at H
    have c5b0 : decide (64 ≤ x1_1) = true := decide_eq_true c5
    clear c5
    by_cases c6 : (x121001_1 == 0) = true
    ·rw [if_pos c6] at H
     have c6b0 : (x121001_1 == 0) = true := c6
     (try (have c6b1 : decide (x121001_1 = 0) = true := by simpa using c6))
     (try (have c6b2 : (x121001_1 == 0) = true := by simpa using c6))
     clear c6
     simp only [Option.some.injEq, Prod.mk.injEq] at H
     obtain ⟨rfl, rfl⟩ := H
     obtain ⟨_, _⟩ := zsy NB120_121
     obtain ⟨_, _, _, _⟩ := zq2 BK120
     obtain ⟨_, _, _, _⟩ := zq2 BK121
     go_wp2
     refine bodyPost_ret (results_cell_row rfl _ _ gb121 109 #[.int .u64 x121001_1, .int .u64 0] (0, 0) _ rfl (blk_put (cs := #[.int .u64 x121001_1, .int .u64 x122001_1]) (blk_put (zkf (zkf (zkq BK121) NB121_120.out _) NB121_120.out _) 0 _ rfl) 1 _ rfl) Try.underlying109 rfl (by kernel_rfl)) rfl ?_
     exact ⟨zaE, zaB⟩
    rw [if_neg c6] at H
    have c6b0 : (x121001_1 == 0) = false := by simpa using c6
    (try (have c6b1 : decide (x121001_1 = 0) = false := by simpa using c6))
    (try (have c6b2 : (x121001_1 == 0) = false := by simpa using c6))
    (try (have c6b3 : ¬ (x121001_1 = 0) := by simpa using c6))
    clear c6
    have H' := Aside0.mk H
    clear H
    obtain ⟨_, _⟩ := zsy NB120_121
    obtain ⟨_, _, _, _⟩ := zq2 BK120
    go_wp2
    go_roundg k1
    case measure => have := HK1.out; omega
    case rel => exact ⟨(wrap64 (x1_1 - 64)), (x121001_1), (0), (x122000_1), (x122001_1), zrl, H', ⟨by have := HK1.out; omega⟩, ⟨(blk_put (cs := #[.int .u64 x121001_1, .int .u64 x121001_1]) (blk_put (zkq BK120) 0 _ rfl) 1 _ rfl)⟩, ⟨(zkf (zkf (zkq BK121) NB121_120.out _) NB121_120.out _)⟩, ⟨zaB⟩⟩
   rw [if_neg c5] at H
   have c5b0 : decide (64 ≤ x1_1) = false := decide_eq_false c5
   clear c5
   by_cases c12 : x1_1 ≤ 0
   ·rw [if_pos c12] at H
    have c12b0 : decide (x1_1 ≤ 0) = true := decide_eq_true c12
    clear c12
    simp only [Option.some.injEq, Prod.mk.injEq] at H
    obtain ⟨rfl, rfl⟩ := H
    obtain ⟨_, _⟩ := zsy NB120_121
    obtain ⟨_, _, _, _⟩ := zq2 BK120
    obtain ⟨_, _, _, _⟩ := zq2 BK121
    go_wp2
    refine bodyPost_ret (results_cell_row rfl _ _ gb121 109 #[.int .u64 x121000_1, .int .u64 x121001_1] (0, 0) _ rfl (blk_put (cs := #[.int .u64 x121000_1, .int .u64 x122001_1]) (blk_put (zkq BK121) 0 _ rfl) 1 _ rfl) Try.underlying109 rfl (by kernel_rfl)) rfl ?_
    exact ⟨zaE, zaB⟩
   rw [if_neg c12] at H
   have c12b0 : decide (x1_1 ≤ 0) = false := decide_eq_false c12
   clear c12
   by_cases c16 : 0 ≤ x1_1
   ·rw [if_pos c16] at H
    have c16b0 := eq_true c16
    have c16b1 : decide (0 ≤ x1_1) = true := decide_eq_true c16
    clear c16
    obtain ⟨ji17, hji17⟩ : ∃ j_ : Int, (shl .u64 x121000_1 x1_1) = j_ := ⟨_, rfl⟩
    replace H : (if 0 ≤ (wrap64 (64 - x1_1)) then (some (Go.bits .or .u64 (ji17) (shr .u64 x121001_1 (wrap64 (64 - x1_1))), shl .u64 x121001_1 x1_1)) else (none)) = some (r1, r2) := by first | (rw [hji17] at H; exact H) | (simp only [hji17] at H ⊢; exact H)
    have hji17_ : (IntKind.u64.wrap (x121000_1 * 2 ^ min x1_1.toNat 64)) = ji17 := hji17
    have hji17z : x1_1 ≤ 64 → (IntKind.u64.wrap (x121000_1 * 2 ^ x1_1.toNat)) = ji17 := shl_small hji17
    obtain ⟨ji18, hji18⟩ : ∃ j_ : Int, (wrap64 (64 - x1_1)) = j_ := ⟨_, rfl⟩
    replace H : (if 0 ≤ (ji18) then (some (Go.bits .or .u64 (ji17) (shr .u64 x121001_1 (ji18)), shl .u64 x121001_1 x1_1)) else (none)) = some (r1, r2) := by first | (rw [hji18] at H; exact H) | (simp only [hji18] at H ⊢; exact H)
    have hji18w : (IntKind.i64.wrap (64 - x1_1)) = ji18 := (i64_w _).trans hji18
    by_cases c19 : 0 ≤ (ji18)
    ·rw [if_pos c19] at H
     have c19b0 := eq_true c19
     have c19b1 : decide (0 ≤ (ji18)) = true := decide_eq_true c19
     clear c19
     obtain ⟨ji20, hji20⟩ : ∃ j_ : Int, (shr .u64 x121001_1 (ji18)) = j_ := ⟨_, rfl⟩
     replace H : (some (Go.bits .or .u64 (ji17) (ji20), shl .u64 x121001_1 x1_1)) = some (r1, r2) := by first | (rw [hji20] at H; exact H) | (simp only [hji20] at H ⊢; exact H)
     have hji20_ : (x121001_1 / 2 ^ min (ji18).toNat 64) = ji20 := hji20
     have hji20z : (ji18) ≤ 64 → (x121001_1 / 2 ^ (ji18).toNat) = ji20 := shr_small hji20
     have c21b0 := eq_true (of_decide_eq_true (by first | (with_reducible assumption) | assumption) : 0 ≤ x1_1)
     obtain ⟨ji22, hji22⟩ : ∃ j_ : Int, (shl .u64 x121001_1 x1_1) = j_ := ⟨_, rfl⟩
     replace H : (some (Go.bits .or .u64 (ji17) (ji20), ji22)) = some (r1, r2) := by first | (rw [hji22] at H; exact H) | (simp only [hji22] at H ⊢; exact H)
     have hji22_ : (IntKind.u64.wrap (x121001_1 * 2 ^ min x1_1.toNat 64)) = ji22 := hji22
     have hji22z : x1_1 ≤ 64 → (IntKind.u64.wrap (x121001_1 * 2 ^ x1_1.toNat)) = ji22 := shl_small hji22
     simp only [Option.some.injEq, Prod.mk.injEq] at H
     obtain ⟨rfl, rfl⟩ := H
     try go_wp2
     replace BK120 := Aside0.mk (blk_drew BK120.out)
     replace BK121 := Aside0.mk (blk_drew BK121.out)
     replace HB := Aside0.mk (below_drew1 HB.out)
     refine start_ (n := 16) (S := fun w' => w'.cell? ⟨gb120, 0, none⟩ = some (.int .u64 x121000_1) ∧ w'.cell? ⟨gb120, 1, none⟩ = some (.int .u64 x121001_1)) (ds := []) #[false, false, false, false, false, false, false, false, false, false, false, false, false, false, false, false] (by kernel_rfl) rfl rfl (ze2 BK120) (fun hHeld => ?_); refine with_tabW wide_U128_Shl.tab8 wide_U128_Shl.bits8 (fun HT_ HW_ => ?_)
     generalize wr.drew = w23 at BK120 BK121 HB hHeld ⊢
     refine zpA 0 19 (h := ?_)
     refine zpA 2 21 (h := ?_)
     refine zpA 4 23 (h := ?_)
     refine zpA 6 25 (h := ?_)
     refine zpA 7 26 (h := ?_)
     refine zpA 10 29 (h := ?_)
     refine zpA 12 31 (h := ?_)
     refine ztA 1 20 (h := ?_)
     refine zpA 3 22 (h := ?_)
     refine ztA 5 24 (h := ?_)
     refine zpA 8 27 (h := ?_)
     refine zpA 9 28 (h := ?_)
     refine ztA 11 30 (h := ?_)
     refine zpA 13 32 (h := ?_)
     refine zpA 14 33 (h := ?_)
     refine one_ (i := 15) (N := none) #[true, true, true, true, true, true, true, true, true, true, true, true, true, true, true, true] rfl rfl (one_of HT_.out (by kernel_rfl)) (by decide) (fun K hK => ?_)
     have hs24 := zc0 BK121
     have hfs24 := blk_frozen BK121.out 0
     have hns24_0 := NB120_121.out
     have hms24_0 := NB121_120.out
     have hs25 := zc1 BK121
     have hfs25 := blk_frozen BK121.out 1
     have hns25_0 := NB120_121.out
     have hms25_0 := NB121_120.out
     refine skip_ (w1 := ?_) (by rfl) rfl ?_ ?_
     rotate_left
     ·go_simp
      rfl
     refine hK.out _ _ ⟨(zff NB120_121 (zff NB120_121 hHeld.1)), (zff NB120_121 (zff NB120_121 hHeld.2))⟩ (fun hHeld => ?_)
     clear hK K
     refine done_ (done_of HT_.out (by kernel_rfl)) ?_
     try go_wp2
     refine bodyPost_ret (results_cell_row rfl _ _ gb121 109 #[.int .u64 (Go.bits .or .u64 (ji17) (ji20)), .int .u64 ji22] (0, 0) _ rfl (blk_put (cs := #[.int .u64 (Go.bits .or .u64 (ji17) (ji20)), .int .u64 x122001_1]) (blk_put (zkq BK121) 0 _ rfl) 1 _ rfl) Try.underlying109 rfl (by kernel_rfl)) rfl ?_
     exact ⟨by first | rfl | (simp [errW_none, errW_some] <;> rfl) | (simp only [← hji17, ← hji18, ← hji20, ← hji22]; first | rfl | (simp [errW_none, errW_some] <;> rfl)) | (simp [*, errW_none, errW_some] <;> rfl), zaB⟩
    rw [if_neg c19] at H
    exact absurd H (by simp)
   rw [if_neg c16] at H
   exact absurd H (by simp)
def wide_U128_Shr.T10 : Bool × List (List Nat × List Nat) := (true, [([], []), ([0], [0]), ([], []), ([1, 2], [1, 2]), ([], []), ([4], [4]), ([], []), ([5, 6], [5, 6]), ([], []), ([8], [8]), ([], []), ([10], [10]), ([9, 11], [9, 11]), ([7, 12], [7, 12]), ([3, 13], [3, 13]), ([], []), ([15], [15]), ([16], [16]), ([17, 16], [16, 17]), ([16], [16]), ([19, 16], [16, 19]), ([18, 20, 16], [16, 18, 20]), ([21, 16], [16, 21]), ([16, 22], [16, 22]), ([14, 16, 0, 1, 2, 3, 4, 5, 6, 7, 8, 9, 10, 11, 12, 13, 14], [14]), ([23, 24, 0, 1, 2, 3, 4, 5, 6, 7, 8, 9, 10, 11, 12, 13, 14, 15, 16, 17, 18, 19, 20, 21, 22, 23, 24], [23])])
def wide_U128_Shr.B10 : List Nat := [0, 1, 0, 7, 0, 16, 0, 112, 0, 256, 0, 1024, 3840, 8176, 16383, 0, 32768, 98304, 229376, 98304, 622592, 2064384, 4161536, 8355840, 131071, 33554431]
theorem wide_U128_Shr.tab10 : rtab .any (opsOf Try.f151 10) = wide_U128_Shr.T10 := by kernel_rfl
theorem wide_U128_Shr.bits10 : waitsOk wide_U128_Shr.T10.2 wide_U128_Shr.B10 = true := by kernel_rfl
theorem wide_U128_Shr.calls (k : Nat) (a0_0 : Int) (a0_1 : Int) (a1 : Int) (r1 : Int) (r2 : Int) (r3 : Bool) (w : World) (h : wide_U128_Shr.f k a0_0 a0_1 a1 = some (r1, r2, r3)) :
  Calls Try.prog 151 #[.agg #[.int .u64 a0_0, .int .u64 a0_1], .int .i64 a1] w fun e w' => e = .returned (.tuple #[.agg #[.int .u64 r1, .int .u64 r2], .bool r3]) ∧ Below w.heap.size w w' := by
 have hu109 := Try.underlying109
 have HB := Aside0.mk (Below.refl w.heap.size w)
 have H : (wide_U128_Shr.l0 k a1 false a0_0 a0_1) = some (r1, r2, r3) := h
 clear h
 have H' := Aside0.mk H
 clear H
 go_enter Try.func151, Try.ntmps151
 go_wp2_with (first | ((with_reducible refine gtd 2 rfl ?_); refine zbx 2 #[.int .u64 a0_0, .int .u64 a0_1] 109 (h := ?_); intro gb122 hg w3 hbox hb; have GW122 := zkZ hg (zaB (p := Below w.heap.size w _)); replace HB := Aside0.mk (below_step zaB hb); have BK122 := Aside0.mk (hbox); clear hb hbox hg) | ((with_reducible refine gtd 4 rfl ?_); refine zbx 4 #[.int .u64 0, .int .u64 0] 109 (h := ?_); intro gb123 hg w4 hbox hb; have GW123 := zkz HB hg; have NB122_123 := zkl BK122 hg; have NB123_122 := zkr BK122 hg; replace BK122 := zkb BK122 hb; replace HB := zkB HB hb; have BK123 := Aside0.mk (hbox); clear hb hbox hg))
 (try simp only [Act.put, List.setIfInBounds_toArray, List.set_cons_zero, List.set_cons_succ])
 go_loopg [1, 6] k (fun kq v1 v6 w' => ∃ (x1_1 : Int) (x6_1 : Bool) (x123000_1 : Int) (x123001_1 : Int) (x124000_1 : Int) (x124001_1 : Int), v1 = .int .i64 x1_1 ∧ v6 = .bool x6_1 ∧ Aside0 (wide_U128_Shr.l0 kq x1_1 x6_1 x123000_1 x123001_1 = some (r1, r2, r3)) ∧ Aside0 (kq ≤ k) ∧ Aside0 (w'.heap[gb122]? = some (.cells #[.int .u64 x123000_1, .int .u64 x123001_1] 109 (0, 0))) ∧ Aside0 (w'.heap[gb123]? = some (.cells #[.int .u64 x124000_1, .int .u64 x124001_1] 109 (0, 0))) ∧ Aside0 (Below w.heap.size w w'))
 case atStart => exact ⟨(a1), (false), (a0_0), (a0_1), (0), (0), zrl, zrl, H', ⟨Nat.le_refl _⟩, ⟨zkq BK122⟩, ⟨zkq BK123⟩, ⟨zaB⟩⟩
 case round =>
  clear H'
  try clear c1
  try clear p2
  obtain ⟨x1_1, x6_1, x123000_1, x123001_1, x124000_1, x124001_1, rfl, rfl, HA, HK1, BK122, BK123, HB⟩ := hrel
  cases gk with
  | zero => exact absurd HA.out (by simp [wide_U128_Shr.l0])
  | succ k1 =>
   have H := HA.out
   clear HA
   simp only [wide_U128_Shr.l0] at H
   by_cases c5 : x1_1 ≥ 64
   ·rw [if_pos c5] at H
    have c5b0 : decide (64 ≤ x1_1) = true := decide_eq_true c5
    clear c5
    by_cases c6 : x6_1 = true
    ·subst c6
     replace H := zit H
     by_cases c7 : (x123000_1 == 0) = true
     ·rw [if_pos c7] at H
      have c7b0 : (x123000_1 == 0) = true := c7
      (try (have c7b1 : decide (x123000_1 = 0) = true := by simpa using c7))
      (try (have c7b2 : (x123000_1 == 0) = true := by simpa using c7))
      clear c7
      simp only [Option.some.injEq, Prod.mk.injEq] at H
      obtain ⟨rfl, rfl, rfl⟩ := H
      obtain ⟨_, _⟩ := zsy NB122_123
      obtain ⟨_, _, _, _⟩ := zq2 BK122
      obtain ⟨_, _, _, _⟩ := zq2 BK123
      go_wp2
      refine bodyPost_ret (results_ct rfl _ _ gb123 109 #[.int .u64 0, .int .u64 x123000_1] (0, 0) _ rfl (blk_put (cs := #[.int .u64 0, .int .u64 x124001_1]) (blk_put (zkf (zkf (zkq BK123) NB123_122.out _) NB123_122.out _) 0 _ rfl) 1 _ rfl) Try.underlying109 rfl (by kernel_rfl)) rfl ?_
      exact ⟨zaE, zaB⟩
     rw [if_neg c7] at H
     have c7b0 : (x123000_1 == 0) = false := by simpa using c7
     (try (have c7b1 : decide (x123000_1 = 0) = false := by simpa using c7))
     (try (have c7b2 : (x123000_1 == 0) = false := by simpa using c7))
     (try (have c7b3 : ¬ (x123000_1 = 0) := by simpa using c7))
     clear c7
     have H' := Aside0.mk H
     clear H
     obtain ⟨_, _⟩ := zsy NB122_123
     obtain ⟨_, _, _, _⟩ := zq2 BK122
     go_wp2
     go_roundg k1
     case measure => have := HK1.out; omega
     case rel => exact ⟨(wrap64 (x1_1 - 64)), (true), (0), (x123000_1), (x124000_1), (x124001_1), zrl, zrl, H', ⟨by have := HK1.out; omega⟩, ⟨(blk_put (cs := #[.int .u64 0, .int .u64 x123001_1]) (blk_put (zkq BK122) 0 _ rfl) 1 _ rfl)⟩, ⟨(zkf (zkf (zkq BK123) NB123_122.out _) NB123_122.out _)⟩, ⟨zaB⟩⟩
    replace c6 := Bool.eq_false_iff.mpr c6
    subst c6
    replace H := zif H
    by_cases c13 : (x123000_1 == 0) = true
    ·rw [if_pos c13] at H
     have c13b0 : (x123000_1 == 0) = true := c13
     (try (have c13b1 : decide (x123000_1 = 0) = true := by simpa using c13))
     (try (have c13b2 : (x123000_1 == 0) = true := by simpa using c13))
     clear c13
     simp only [Option.some.injEq, Prod.mk.injEq] at H
     obtain ⟨rfl, rfl, rfl⟩ := H
     obtain ⟨_, _⟩ := zsy NB122_123
     obtain ⟨_, _, _, _⟩ := zq2 BK122
     obtain ⟨_, _, _, _⟩ := zq2 BK123
     go_wp2
     refine bodyPost_ret (results_ct rfl _ _ gb123 109 #[.int .u64 0, .int .u64 x123000_1] (0, 0) _ rfl (blk_put (cs := #[.int .u64 0, .int .u64 x124001_1]) (blk_put (zkf (zkf (zkq BK123) NB123_122.out _) NB123_122.out _) 0 _ rfl) 1 _ rfl) Try.underlying109 rfl (by kernel_rfl)) rfl ?_
     exact ⟨zaE, zaB⟩
    rw [if_neg c13] at H
    have c13b0 : (x123000_1 == 0) = false := by simpa using c13
    (try (have c13b1 : decide (x123000_1 = 0) = false := by simpa using c13))
    (try (have c13b2 : (x123000_1 == 0) = false := by simpa using c13))
    (try (have c13b3 : ¬ (x123000_1 = 0) := by simpa using c13))
    clear c13
    have H' := Aside0.mk H
    clear H
    obtain ⟨_, _⟩ := zsy NB122_123
    obtain ⟨_, _, _, _⟩ := zq2 BK122
    go_wp2
    go_roundg k1
    case measure => have := HK1.out; omega
    case rel => exact ⟨(wrap64 (x1_1 - 64)), ((x123001_1 != 0)), (0), (x123000_1), (x124000_1), (x124001_1), zrl, zrl, H', ⟨by have := HK1.out; omega⟩, ⟨(blk_put (cs := #[.int .u64 0, .int .u64 x123001_1]) (blk_put (zkq BK122) 0 _ rfl) 1 _ rfl)⟩, ⟨(zkf (zkf (zkq BK123) NB123_122.out _) NB123_122.out _)⟩, ⟨zaB⟩⟩
   rw [if_neg c5] at H
   have c5b0 : decide (64 ≤ x1_1) = false := decide_eq_false c5
   clear c5
   by_cases c19 : x1_1 ≤ 0
   ·rw [if_pos c19] at H
    have c19b0 : decide (x1_1 ≤ 0) = true := decide_eq_true c19
    clear c19
    simp only [Option.some.injEq, Prod.mk.injEq] at H
    obtain ⟨rfl, rfl, rfl⟩ := H
    obtain ⟨_, _⟩ := zsy NB122_123
    obtain ⟨_, _, _, _⟩ := zq2 BK122
    obtain ⟨_, _, _, _⟩ := zq2 BK123
    go_wp2
    refine bodyPost_ret (results_ct rfl _ _ gb123 109 #[.int .u64 x123000_1, .int .u64 x123001_1] (0, 0) _ rfl (blk_put (cs := #[.int .u64 x123000_1, .int .u64 x124001_1]) (blk_put (zkq BK123) 0 _ rfl) 1 _ rfl) Try.underlying109 rfl (by kernel_rfl)) rfl ?_
    exact ⟨zaE, zaB⟩
   rw [if_neg c19] at H
   have c19b0 : decide (x1_1 ≤ 0) = false := decide_eq_false c19
   clear c19
   by_cases c23 : 0 ≤ x1_1
   ·rw [if_pos c23] at H
    have c23b0 := eq_true c23
    have c23b1 : decide (0 ≤ x1_1) = true := decide_eq_true c23
    clear c23
    obtain ⟨ji24, hji24⟩ : ∃ j_ : Int, (shr .u64 x123000_1 x1_1) = j_ := ⟨_, rfl⟩
    replace H : (if 0 ≤ (wrap64 (64 - x1_1)) then (if x6_1 = true then (some (ji24, Go.bits .or .u64 (shr .u64 x123001_1 x1_1) (shl .u64 x123000_1 (wrap64 (64 - x1_1))), true)) else (some (ji24, Go.bits .or .u64 (shr .u64 x123001_1 x1_1) (shl .u64 x123000_1 (wrap64 (64 - x1_1))), ((shl .u64 x123001_1 (wrap64 (64 - x1_1))) != 0)))) else (none)) = some (r1, r2, r3) := by first | (rw [hji24] at H; exact H) | (simp only [hji24] at H ⊢; exact H)
    have hji24_ : (x123000_1 / 2 ^ min x1_1.toNat 64) = ji24 := hji24
    have hji24z : x1_1 ≤ 64 → (x123000_1 / 2 ^ x1_1.toNat) = ji24 := shr_small hji24
    have c25b0 := eq_true (of_decide_eq_true (by first | (with_reducible assumption) | assumption) : 0 ≤ x1_1)
    obtain ⟨ji26, hji26⟩ : ∃ j_ : Int, (shr .u64 x123001_1 x1_1) = j_ := ⟨_, rfl⟩
    replace H : (if 0 ≤ (wrap64 (64 - x1_1)) then (if x6_1 = true then (some (ji24, Go.bits .or .u64 (ji26) (shl .u64 x123000_1 (wrap64 (64 - x1_1))), true)) else (some (ji24, Go.bits .or .u64 (ji26) (shl .u64 x123000_1 (wrap64 (64 - x1_1))), ((shl .u64 x123001_1 (wrap64 (64 - x1_1))) != 0)))) else (none)) = some (r1, r2, r3) := by first | (rw [hji26] at H; exact H) | (simp only [hji26] at H ⊢; exact H)
    have hji26_ : (x123001_1 / 2 ^ min x1_1.toNat 64) = ji26 := hji26
    have hji26z : x1_1 ≤ 64 → (x123001_1 / 2 ^ x1_1.toNat) = ji26 := shr_small hji26
    obtain ⟨ji27, hji27⟩ : ∃ j_ : Int, (wrap64 (64 - x1_1)) = j_ := ⟨_, rfl⟩
    replace H : (if 0 ≤ (ji27) then (if x6_1 = true then (some (ji24, Go.bits .or .u64 (ji26) (shl .u64 x123000_1 (ji27)), true)) else (some (ji24, Go.bits .or .u64 (ji26) (shl .u64 x123000_1 (ji27)), ((shl .u64 x123001_1 (ji27)) != 0)))) else (none)) = some (r1, r2, r3) := by first | (rw [hji27] at H; exact H) | (simp only [hji27] at H ⊢; exact H)
    have hji27w : (IntKind.i64.wrap (64 - x1_1)) = ji27 := (i64_w _).trans hji27
    by_cases c28 : 0 ≤ (ji27)
    ·rw [if_pos c28] at H
     have c28b0 := eq_true c28
     have c28b1 : decide (0 ≤ (ji27)) = true := decide_eq_true c28
     clear c28
     obtain ⟨ji29, hji29⟩ : ∃ j_ : Int, (shl .u64 x123000_1 (ji27)) = j_ := ⟨_, rfl⟩
     replace H : (if x6_1 = true then (some (ji24, Go.bits .or .u64 (ji26) (ji29), true)) else (some (ji24, Go.bits .or .u64 (ji26) (ji29), ((shl .u64 x123001_1 (ji27)) != 0)))) = some (r1, r2, r3) := by first | (rw [hji29] at H; exact H) | (simp only [hji29] at H ⊢; exact H)
     have hji29_ : (IntKind.u64.wrap (x123000_1 * 2 ^ min (ji27).toNat 64)) = ji29 := hji29
     have hji29z : (ji27) ≤ 64 → (IntKind.u64.wrap (x123000_1 * 2 ^ (ji27).toNat)) = ji29 := shl_small hji29
     by_cases c30 : x6_1 = true
     ·subst c30
      replace H := zit H
      simp only [Option.some.injEq, Prod.mk.injEq] at H
      obtain ⟨rfl, rfl, rfl⟩ := H
      try go_wp2
      replace BK122 := Aside0.mk (blk_drew BK122.out)
      replace BK123 := Aside0.mk (blk_drew BK123.out)
      replace HB := Aside0.mk (below_drew1 HB.out)
      refine start_ (n := 26) (S := fun w' => w'.cell? ⟨gb122, 0, none⟩ = some (.int .u64 x123000_1) ∧ w'.cell? ⟨gb122, 1, none⟩ = some (.int .u64 x123001_1)) (ds := []) #[false, false, false, false, false, false, false, false, false, false, false, false, false, false, false, false, false, false, false, false, false, false, false, false, false, false] (by kernel_rfl) rfl rfl (ze2 BK122) (fun hHeld => ?_); refine with_tabW wide_U128_Shr.tab10 wide_U128_Shr.bits10 (fun HT_ HW_ => ?_)
      generalize wr.drew = w31 at BK122 BK123 HB hHeld ⊢
      refine zpA 0 29 (h := ?_)
      refine zpA 2 31 (h := ?_)
      refine zpA 4 33 (h := ?_)
      refine zpA 6 35 (h := ?_)
      refine zpA 8 37 (h := ?_)
      refine zpA 10 39 (h := ?_)
      refine zpA 11 40 (h := ?_)
      refine zpA 15 44 (h := ?_)
      refine zpA 16 45 (h := ?_)
      refine zpU 17 46 (h := ?_)
      refine zpU 18 47 (h := ?_)
      refine zpU 19 48 (h := ?_)
      refine zpU 20 49 (h := ?_)
      refine zpU 21 50 (h := ?_)
      refine zpU 22 51 (h := ?_)
      refine zpA 23 52 (h := ?_)
      refine ztA 1 30 (h := ?_)
      refine zpA 3 32 (h := ?_)
      refine ztA 5 34 (h := ?_)
      refine zpA 7 36 (h := ?_)
      refine ztA 9 38 (h := ?_)
      refine zpA 12 41 (h := ?_)
      refine zpA 13 42 (h := ?_)
      refine zpA 14 43 (h := ?_)
      refine one_ (i := 24) (N := none) #[true, true, true, true, true, true, true, true, true, true, true, true, true, true, true, true, true, true, true, true, true, true, true, true, true, false] rfl rfl (one_of HT_.out (by kernel_rfl)) (by decide) (fun K hK => ?_)
      have hs32 := zc0 BK123
      have hfs32 := blk_frozen BK123.out 0
      have hns32_0 := NB122_123.out
      have hms32_0 := NB123_122.out
      have hs33 := zc1 BK123
      have hfs33 := blk_frozen BK123.out 1
      have hns33_0 := NB122_123.out
      have hms33_0 := NB123_122.out
      refine skip_ (w1 := ?_) (by rfl) rfl ?_ ?_
      rotate_left
      ·go_simp
       rfl
      refine hK.out _ _ ⟨(zff NB122_123 (zff NB122_123 hHeld.1)), (zff NB122_123 (zff NB122_123 hHeld.2))⟩ (fun hHeld => ?_)
      clear hK K
      refine zpA 25 5 (h := ?_)
      refine done_ (done_of HT_.out (by kernel_rfl)) ?_
      try go_wp2
      refine bodyPost_ret (results_ct rfl _ _ gb123 109 #[.int .u64 ji24, .int .u64 (Go.bits .or .u64 (ji26) (ji29))] (0, 0) _ rfl (blk_put (cs := #[.int .u64 ji24, .int .u64 x124001_1]) (blk_put (zkq BK123) 0 _ rfl) 1 _ rfl) Try.underlying109 rfl (by kernel_rfl)) rfl ?_
      exact ⟨by first | rfl | (simp [errW_none, errW_some] <;> rfl) | (simp only [← hji24, ← hji26, ← hji27, ← hji29]; first | rfl | (simp [errW_none, errW_some] <;> rfl)) | (simp [*, errW_none, errW_some] <;> rfl), zaB⟩
     replace c30 := Bool.eq_false_iff.mpr c30
     subst c30
     replace H := zif H
     have c34b0 := eq_true (of_decide_eq_true (by first | (with_reducible assumption) | assumption) : 0 ≤ (ji27))
     obtain ⟨ji35, hji35⟩ : ∃ j_ : Int, (shl .u64 x123001_1 (ji27)) = j_ := ⟨_, rfl⟩
     replace H : (some (ji24, Go.bits .or .u64 (ji26) (ji29), ((ji35) != 0))) = some (r1, r2, r3) := by first | (rw [hji35] at H; exact H) | (simp only [hji35] at H ⊢; exact H)
     have hji35_ : (IntKind.u64.wrap (x123001_1 * 2 ^ min (ji27).toNat 64)) = ji35 := hji35
     have hji35z : (ji27) ≤ 64 → (IntKind.u64.wrap (x123001_1 * 2 ^ (ji27).toNat)) = ji35 := shl_small hji35
     simp only [Option.some.injEq, Prod.mk.injEq] at H
     obtain ⟨rfl, rfl, rfl⟩ := H
     try go_wp2
     replace BK122 := Aside0.mk (blk_drew BK122.out)
     replace BK123 := Aside0.mk (blk_drew BK123.out)
     replace HB := Aside0.mk (below_drew1 HB.out)
     refine start_ (n := 26) (S := fun w' => w'.cell? ⟨gb122, 0, none⟩ = some (.int .u64 x123000_1) ∧ w'.cell? ⟨gb122, 1, none⟩ = some (.int .u64 x123001_1)) (ds := []) #[false, false, false, false, false, false, false, false, false, false, false, false, false, false, false, false, false, false, false, false, false, false, false, false, false, false] (by kernel_rfl) rfl rfl (ze2 BK122) (fun hHeld => ?_); refine with_tabW wide_U128_Shr.tab10 wide_U128_Shr.bits10 (fun HT_ HW_ => ?_)
     generalize wr.drew = w36 at BK122 BK123 HB hHeld ⊢
     refine zpA 0 29 (h := ?_)
     refine zpA 2 31 (h := ?_)
     refine zpA 4 33 (h := ?_)
     refine zpA 6 35 (h := ?_)
     refine zpA 8 37 (h := ?_)
     refine zpA 10 39 (h := ?_)
     refine zpA 11 40 (h := ?_)
     refine zpA 15 44 (h := ?_)
     refine zpA 16 45 (h := ?_)
     refine zpA 17 46 (h := ?_)
     refine zpA 19 48 (h := ?_)
     refine zpA 20 49 (h := ?_)
     refine ztA 1 30 (h := ?_)
     refine zpA 3 32 (h := ?_)
     refine ztA 5 34 (h := ?_)
     refine zpA 7 36 (h := ?_)
     refine ztA 9 38 (h := ?_)
     refine zpA 12 41 (h := ?_)
     refine zpA 13 42 (h := ?_)
     refine zpA 14 43 (h := ?_)
     refine ztA 18 47 (h := ?_)
     refine zpA 21 50 (h := ?_)
     refine zpA 22 51 (h := ?_)
     refine zpA 23 52 (h := ?_)
     refine one_ (i := 24) (N := none) #[true, true, true, true, true, true, true, true, true, true, true, true, true, true, true, true, true, true, true, true, true, true, true, true, true, false] rfl rfl (one_of HT_.out (by kernel_rfl)) (by decide) (fun K hK => ?_)
     have hs37 := zc0 BK123
     have hfs37 := blk_frozen BK123.out 0
     have hns37_0 := NB122_123.out
     have hms37_0 := NB123_122.out
     have hs38 := zc1 BK123
     have hfs38 := blk_frozen BK123.out 1
     have hns38_0 := NB122_123.out
     have hms38_0 := NB123_122.out
     refine skip_ (w1 := ?_) (by rfl) rfl ?_ ?_
     rotate_left
     ·go_simp
      rfl
     refine hK.out _ _ ⟨(zff NB122_123 (zff NB122_123 hHeld.1)), (zff NB122_123 (zff NB122_123 hHeld.2))⟩ (fun hHeld => ?_)
     clear hK K
     refine zpA 25 5 (h := ?_)
     refine done_ (done_of HT_.out (by kernel_rfl)) ?_
     try go_wp2
     refine bodyPost_ret (results_ct rfl _ _ gb123 109 #[.int .u64 ji24, .int .u64 (Go.bits .or .u64 (ji26) (ji29))] (0, 0) _ rfl (blk_put (cs := #[.int .u64 ji24, .int .u64 x124001_1]) (blk_put (zkq BK123) 0 _ rfl) 1 _ rfl) Try.underlying109 rfl (by kernel_rfl)) rfl ?_
     exact ⟨by first | rfl | (simp [errW_none, errW_some] <;> rfl) | (simp only [← hji24, ← hji26, ← hji27, ← hji29, ← hji35]; first | rfl | (simp [errW_none, errW_some] <;> rfl)) | (simp [*, errW_none, errW_some] <;> rfl), zaB⟩
    rw [if_neg c28] at H
    exact absurd H (by simp)
   rw [if_neg c23] at H
   exact absurd H (by simp)
end Go.Proofs.Ytmadjhmecfbcmaa.F
end
section
namespace Go.Proofs.Ytmadjhmecfbcmaa.F
open Go.RowKit Go.Proofs.YtmadjhmecfbcmaaW.PrintWords Go.Proofs.YtmadjhmecfbcmaaW.PrintLast Go.Proofs.YtmadjhmecfbcmaaW.PrintMore
attribute [local go_sem] max2_int min2_int max_two min_two max_three min_three max_four min_four
set_option linter.unusedVariables false
set_option linter.unusedSimpArgs false
set_option maxHeartbeats 8000000
set_option maxRecDepth 100000
theorem round_number_away.calls (a0_0 : Bool) (a0_1 : Int) (a0_2 : Int) (a0_3 : Int) (a0_4 : Bool) (a1 : Int) (r : Bool) (w : World) (h : round_number_away.f a0_0 a0_1 a0_2 a0_3 a0_4 a1 = some r) :
  Calls Try.prog 200 #[.agg #[.bool a0_0, .int .u64 a0_1, .int .u64 a0_2, .int .i64 a0_3, .bool a0_4], .int .u8 a1] w fun e w' => e = .returned (.bool r) ∧ Below w.heap.size w w' := by
 have hu151 := Try.underlying151
 have HB := Aside0.mk (Below.refl w.heap.size w)
 have H : (if a1 = 1 then (if a0_0 = true then (if a1 = 2 then (some a0_0) else (some false)) else (some true)) else (if a1 = 2 then (some a0_0) else (some false))) = some r := h
 clear h
 by_cases c3 : a1 = 1
 ·rw [if_pos c3] at H
  have c3b0 : (a1 == 1) = true := beq_iff_eq.mpr c3
  have c3b1 : (a1 != 1) = false := bne_eq_false_iff_eq.mpr c3
  clear c3
  by_cases c4 : a0_0 = true
  ·subst c4
   replace H := zit H
   by_cases c5 : a1 = 2
   ·rw [if_pos c5] at H
    have c5b0 : (a1 == 2) = true := beq_iff_eq.mpr c5
    have c5b1 : (a1 != 2) = false := bne_eq_false_iff_eq.mpr c5
    clear c5
    obtain rfl := Option.some.inj H
    go_enter Try.func200, Try.ntmps200
    go_wp2_with (first | ((with_reducible refine gtd 2 rfl ?_); refine zbx 2 #[.bool true, .int .u64 a0_1, .int .u64 a0_2, .int .i64 a0_3, .bool a0_4] 151 (h := ?_); intro gb124 hg w6 hbox hb; have GW124 := zkZ hg (zaB (p := Below w.heap.size w _)); replace HB := Aside0.mk (below_step zaB hb); have BK124 := Aside0.mk (hbox); clear hb hbox hg; obtain ⟨_, _, _, _, _, _, _, _, _, _⟩ := zq5 BK124))
    go_ret
    exact ⟨zaE, zaB⟩
   rw [if_neg c5] at H
   have c5b0 : (a1 == 2) = false := beq_eq_false_iff_ne.mpr c5
   have c5b1 : (a1 != 2) = true := bne_iff_ne.mpr c5
   obtain rfl := Option.some.inj H
   go_enter Try.func200, Try.ntmps200
   go_wp2_with (first | ((with_reducible refine gtd 2 rfl ?_); refine zbx 2 #[.bool true, .int .u64 a0_1, .int .u64 a0_2, .int .i64 a0_3, .bool a0_4] 151 (h := ?_); intro gb124 hg w8 hbox hb; have GW124 := zkZ hg (zaB (p := Below w.heap.size w _)); replace HB := Aside0.mk (below_step zaB hb); have BK124 := Aside0.mk (hbox); clear hb hbox hg; obtain ⟨_, _, _, _, _, _, _, _, _, _⟩ := zq5 BK124))
   go_ret
   exact ⟨zaE, zaB⟩
  replace c4 := Bool.eq_false_iff.mpr c4
  subst c4
  replace H := zif H
  obtain rfl := Option.some.inj H
  go_enter Try.func200, Try.ntmps200
  go_wp2_with (first | ((with_reducible refine gtd 2 rfl ?_); refine zbx 2 #[.bool false, .int .u64 a0_1, .int .u64 a0_2, .int .i64 a0_3, .bool a0_4] 151 (h := ?_); intro gb124 hg w10 hbox hb; have GW124 := zkZ hg (zaB (p := Below w.heap.size w _)); replace HB := Aside0.mk (below_step zaB hb); have BK124 := Aside0.mk (hbox); clear hb hbox hg; obtain ⟨_, _, _, _, _, _, _, _, _, _⟩ := zq5 BK124))
  go_ret
  exact ⟨zaE, zaB⟩
 rw [if_neg c3] at H
 have c3b0 : (a1 == 1) = false := beq_eq_false_iff_ne.mpr c3
 have c3b1 : (a1 != 1) = true := bne_iff_ne.mpr c3
 by_cases c12 : a1 = 2
 ·rw [if_pos c12] at H
  have c12b0 : (a1 == 2) = true := beq_iff_eq.mpr c12
  have c12b1 : (a1 != 2) = false := bne_eq_false_iff_eq.mpr c12
  clear c12
  obtain rfl := Option.some.inj H
  go_enter Try.func200, Try.ntmps200
  go_wp2_with (first | ((with_reducible refine gtd 2 rfl ?_); refine zbx 2 #[.bool a0_0, .int .u64 a0_1, .int .u64 a0_2, .int .i64 a0_3, .bool a0_4] 151 (h := ?_); intro gb124 hg w13 hbox hb; have GW124 := zkZ hg (zaB (p := Below w.heap.size w _)); replace HB := Aside0.mk (below_step zaB hb); have BK124 := Aside0.mk (hbox); clear hb hbox hg; obtain ⟨_, _, _, _, _, _, _, _, _, _⟩ := zq5 BK124))
  go_ret
  exact ⟨zaE, zaB⟩
 rw [if_neg c12] at H
 have c12b0 : (a1 == 2) = false := beq_eq_false_iff_ne.mpr c12
 have c12b1 : (a1 != 2) = true := bne_iff_ne.mpr c12
 obtain rfl := Option.some.inj H
 go_enter Try.func200, Try.ntmps200
 go_wp2_with (first | ((with_reducible refine gtd 2 rfl ?_); refine zbx 2 #[.bool a0_0, .int .u64 a0_1, .int .u64 a0_2, .int .i64 a0_3, .bool a0_4] 151 (h := ?_); intro gb124 hg w15 hbox hb; have GW124 := zkZ hg (zaB (p := Below w.heap.size w _)); replace HB := Aside0.mk (below_step zaB hb); have BK124 := Aside0.mk (hbox); clear hb hbox hg))
 go_ret
 exact ⟨zaE, zaB⟩
theorem round_number_towards.calls (a0_0 : Bool) (a0_1 : Int) (a0_2 : Int) (a0_3 : Int) (a0_4 : Bool) (a1 : Int) (r : Bool) (w : World) (h : round_number_towards.f a0_0 a0_1 a0_2 a0_3 a0_4 a1 = some r) :
  Calls Try.prog 201 #[.agg #[.bool a0_0, .int .u64 a0_1, .int .u64 a0_2, .int .i64 a0_3, .bool a0_4], .int .u8 a1] w fun e w' => e = .returned (.bool r) ∧ Below w.heap.size w w' := by
 have hu151 := Try.underlying151
 have HB := Aside0.mk (Below.refl w.heap.size w)
 have H : (if a1 = 1 then (if a0_0 = true then (some true) else (if a1 = 2 then (some (!a0_0)) else (some false))) else (if a1 = 2 then (some (!a0_0)) else (some false))) = some r := h
 clear h
 by_cases c3 : a1 = 1
 ·rw [if_pos c3] at H
  have c3b0 : (a1 == 1) = true := beq_iff_eq.mpr c3
  have c3b1 : (a1 != 1) = false := bne_eq_false_iff_eq.mpr c3
  clear c3
  by_cases c4 : a0_0 = true
  ·subst c4
   replace H := zit H
   obtain rfl := Option.some.inj H
   go_enter Try.func201, Try.ntmps201
   go_wp2_with (first | ((with_reducible refine gtd 2 rfl ?_); refine zbx 2 #[.bool true, .int .u64 a0_1, .int .u64 a0_2, .int .i64 a0_3, .bool a0_4] 151 (h := ?_); intro gb125 hg w5 hbox hb; have GW125 := zkZ hg (zaB (p := Below w.heap.size w _)); replace HB := Aside0.mk (below_step zaB hb); have BK125 := Aside0.mk (hbox); clear hb hbox hg; obtain ⟨_, _, _, _, _, _, _, _, _, _⟩ := zq5 BK125))
   go_ret
   exact ⟨zaE, zaB⟩
  replace c4 := Bool.eq_false_iff.mpr c4
  subst c4
  replace H := zif H
  by_cases c7 : a1 = 2
  ·rw [if_pos c7] at H
   have c7b0 : (a1 == 2) = true := beq_iff_eq.mpr c7
   have c7b1 : (a1 != 2) = false := bne_eq_false_iff_eq.mpr c7
   clear c7
   obtain rfl := Option.some.inj H
   go_enter Try.func201, Try.ntmps201
   go_wp2_with (first | ((with_reducible refine gtd 2 rfl ?_); refine zbx 2 #[.bool false, .int .u64 a0_1, .int .u64 a0_2, .int .i64 a0_3, .bool a0_4] 151 (h := ?_); intro gb125 hg w8 hbox hb; have GW125 := zkZ hg (zaB (p := Below w.heap.size w _)); replace HB := Aside0.mk (below_step zaB hb); have BK125 := Aside0.mk (hbox); clear hb hbox hg; obtain ⟨_, _, _, _, _, _, _, _, _, _⟩ := zq5 BK125))
   go_ret
   exact ⟨zaE, zaB⟩
  rw [if_neg c7] at H
  have c7b0 : (a1 == 2) = false := beq_eq_false_iff_ne.mpr c7
  have c7b1 : (a1 != 2) = true := bne_iff_ne.mpr c7
  obtain rfl := Option.some.inj H
  go_enter Try.func201, Try.ntmps201
  go_wp2_with (first | ((with_reducible refine gtd 2 rfl ?_); refine zbx 2 #[.bool false, .int .u64 a0_1, .int .u64 a0_2, .int .i64 a0_3, .bool a0_4] 151 (h := ?_); intro gb125 hg w10 hbox hb; have GW125 := zkZ hg (zaB (p := Below w.heap.size w _)); replace HB := Aside0.mk (below_step zaB hb); have BK125 := Aside0.mk (hbox); clear hb hbox hg; obtain ⟨_, _, _, _, _, _, _, _, _, _⟩ := zq5 BK125))
  go_ret
  exact ⟨zaE, zaB⟩
 rw [if_neg c3] at H
 have c3b0 : (a1 == 1) = false := beq_eq_false_iff_ne.mpr c3
 have c3b1 : (a1 != 1) = true := bne_iff_ne.mpr c3
 by_cases c12 : a1 = 2
 ·rw [if_pos c12] at H
  have c12b0 : (a1 == 2) = true := beq_iff_eq.mpr c12
  have c12b1 : (a1 != 2) = false := bne_eq_false_iff_eq.mpr c12
  clear c12
  obtain rfl := Option.some.inj H
  go_enter Try.func201, Try.ntmps201
  go_wp2_with (first | ((with_reducible refine gtd 2 rfl ?_); refine zbx 2 #[.bool a0_0, .int .u64 a0_1, .int .u64 a0_2, .int .i64 a0_3, .bool a0_4] 151 (h := ?_); intro gb125 hg w13 hbox hb; have GW125 := zkZ hg (zaB (p := Below w.heap.size w _)); replace HB := Aside0.mk (below_step zaB hb); have BK125 := Aside0.mk (hbox); clear hb hbox hg; obtain ⟨_, _, _, _, _, _, _, _, _, _⟩ := zq5 BK125))
  go_ret
  exact ⟨zaE, zaB⟩
 rw [if_neg c12] at H
 have c12b0 : (a1 == 2) = false := beq_eq_false_iff_ne.mpr c12
 have c12b1 : (a1 != 2) = true := bne_iff_ne.mpr c12
 obtain rfl := Option.some.inj H
 go_enter Try.func201, Try.ntmps201
 go_wp2_with (first | ((with_reducible refine gtd 2 rfl ?_); refine zbx 2 #[.bool a0_0, .int .u64 a0_1, .int .u64 a0_2, .int .i64 a0_3, .bool a0_4] 151 (h := ?_); intro gb125 hg w15 hbox hb; have GW125 := zkZ hg (zaB (p := Below w.heap.size w _)); replace HB := Aside0.mk (below_step zaB hb); have BK125 := Aside0.mk (hbox); clear hb hbox hg))
 go_ret
 exact ⟨zaE, zaB⟩
theorem round_number_up.calls (a0_0 : Bool) (a0_1 : Int) (a0_2 : Int) (a0_3 : Int) (a0_4 : Bool) (a1 : Int) (a2 : Bool) (a3 : Bool) (a4 : Bool) (r : Bool) (w : World) (h : round_number_up.f a0_0 a0_1 a0_2 a0_3 a0_4 a1 a2 a3 a4 = some r) :
  Calls Try.prog 184 #[.agg #[.bool a0_0, .int .u64 a0_1, .int .u64 a0_2, .int .i64 a0_3, .bool a0_4], .int .u8 a1, .bool a2, .bool a3, .bool a4] w fun e w' => e = .returned (.bool r) ∧ Below w.heap.size w w' := by
 have hu151 := Try.underlying151
 have HB := Aside0.mk (Below.refl w.heap.size w)
 have H : ((round_number_away.f a0_0 a0_1 a0_2 a0_3 a0_4 a1).bind fun t127 => (if t127 = true then (if a3 = true then (some true) else (some a4)) else ((round_number_towards.f a0_0 a0_1 a0_2 a0_3 a0_4 a1).bind fun t128 => (if t128 = true then (some false) else (if a3 = true then (if a4 = true then (some true) else (some a2)) else (some false)))))) = some r := h
 clear h
 obtain ⟨t127, A6, H⟩ := zbs H
 try dsimp only at H
 by_cases c7 : t127 = true
 ·subst c7
  replace H := zit H
  by_cases c8 : a3 = true
  ·subst c8
   replace H := zit H
   obtain rfl := Option.some.inj H
   go_enter Try.func184, Try.ntmps184
   go_wp2_with (first | ((with_reducible refine gtd 5 rfl ?_); refine zbx 5 #[.bool a0_0, .int .u64 a0_1, .int .u64 a0_2, .int .i64 a0_3, .bool a0_4] 151 (h := ?_); intro gb126 hg w9 hbox hb; have GW126 := zkZ hg (zaB (p := Below w.heap.size w _)); replace HB := Aside0.mk (below_step zaB hb); have BK126 := Aside0.mk (hbox); clear hb hbox hg; obtain ⟨_, _, _, _, _, _, _, _, _, _⟩ := zq5 BK126) | ((with_reducible refine gtc 200 rfl ?_); refine zgL 14 Try.func200 (round_number_away.calls a0_0 a0_1 a0_2 a0_3 a0_4 a1 true _ A6.out) (h := ?_); rintro w11 hb; replace BK126 := zkb BK126 hb; replace HB := zkB HB hb; (try clear hb)))
   go_ret
   exact ⟨zaE, zaB⟩
  replace c8 := Bool.eq_false_iff.mpr c8
  subst c8
  replace H := zif H
  obtain rfl := Option.some.inj H
  go_enter Try.func184, Try.ntmps184
  go_wp2_with (first | ((with_reducible refine gtd 5 rfl ?_); refine zbx 5 #[.bool a0_0, .int .u64 a0_1, .int .u64 a0_2, .int .i64 a0_3, .bool a0_4] 151 (h := ?_); intro gb126 hg w12 hbox hb; have GW126 := zkZ hg (zaB (p := Below w.heap.size w _)); replace HB := Aside0.mk (below_step zaB hb); have BK126 := Aside0.mk (hbox); clear hb hbox hg; obtain ⟨_, _, _, _, _, _, _, _, _, _⟩ := zq5 BK126) | ((with_reducible refine gtc 200 rfl ?_); refine zgL 14 Try.func200 (round_number_away.calls a0_0 a0_1 a0_2 a0_3 a0_4 a1 true _ A6.out) (h := ?_); rintro w14 hb; replace BK126 := zkb BK126 hb; replace HB := zkB HB hb; (try clear hb)))
  go_ret
  exact ⟨zaE, zaB⟩
 replace c7 := Bool.eq_false_iff.mpr c7
 subst c7
 replace H := zif H
 obtain ⟨t128, A15, H⟩ := zbs H
 try dsimp only at H
 by_cases c16 : t128 = true
 ·subst c16
  replace H := zit H
  obtain rfl := Option.some.inj H
  go_enter Try.func184, Try.ntmps184
  go_wp2_with (first | ((with_reducible refine gtd 5 rfl ?_); refine zbx 5 #[.bool a0_0, .int .u64 a0_1, .int .u64 a0_2, .int .i64 a0_3, .bool a0_4] 151 (h := ?_); intro gb126 hg w17 hbox hb; have GW126 := zkZ hg (zaB (p := Below w.heap.size w _)); replace HB := Aside0.mk (below_step zaB hb); have BK126 := Aside0.mk (hbox); clear hb hbox hg; obtain ⟨_, _, _, _, _, _, _, _, _, _⟩ := zq5 BK126) | ((with_reducible refine gtc 200 rfl ?_); refine zgL 14 Try.func200 (round_number_away.calls a0_0 a0_1 a0_2 a0_3 a0_4 a1 false _ A6.out) (h := ?_); rintro w19 hb; replace BK126 := zkb BK126 hb; replace HB := zkB HB hb; (try clear hb); obtain ⟨_, _, _, _, _, _, _, _, _, _⟩ := zq5 BK126) | ((with_reducible refine gtc 201 rfl ?_); refine zgL 22 Try.func201 (round_number_towards.calls a0_0 a0_1 a0_2 a0_3 a0_4 a1 true _ A15.out) (h := ?_); rintro w21 hb; replace BK126 := zkb BK126 hb; replace HB := zkB HB hb; (try clear hb)))
  go_ret
  exact ⟨zaE, zaB⟩
 replace c16 := Bool.eq_false_iff.mpr c16
 subst c16
 replace H := zif H
 by_cases c22 : a3 = true
 ·subst c22
  replace H := zit H
  by_cases c23 : a4 = true
  ·subst c23
   replace H := zit H
   obtain rfl := Option.some.inj H
   go_enter Try.func184, Try.ntmps184
   go_wp2_with (first | ((with_reducible refine gtd 5 rfl ?_); refine zbx 5 #[.bool a0_0, .int .u64 a0_1, .int .u64 a0_2, .int .i64 a0_3, .bool a0_4] 151 (h := ?_); intro gb126 hg w24 hbox hb; have GW126 := zkZ hg (zaB (p := Below w.heap.size w _)); replace HB := Aside0.mk (below_step zaB hb); have BK126 := Aside0.mk (hbox); clear hb hbox hg; obtain ⟨_, _, _, _, _, _, _, _, _, _⟩ := zq5 BK126) | ((with_reducible refine gtc 200 rfl ?_); refine zgL 14 Try.func200 (round_number_away.calls a0_0 a0_1 a0_2 a0_3 a0_4 a1 false _ A6.out) (h := ?_); rintro w26 hb; replace BK126 := zkb BK126 hb; replace HB := zkB HB hb; (try clear hb); obtain ⟨_, _, _, _, _, _, _, _, _, _⟩ := zq5 BK126) | ((with_reducible refine gtc 201 rfl ?_); refine zgL 22 Try.func201 (round_number_towards.calls a0_0 a0_1 a0_2 a0_3 a0_4 a1 false _ A15.out) (h := ?_); rintro w28 hb; replace BK126 := zkb BK126 hb; replace HB := zkB HB hb; (try clear hb)))
   go_ret
   exact ⟨zaE, zaB⟩
  replace c23 := Bool.eq_false_iff.mpr c23
  subst c23
  replace H := zif H
  obtain rfl := Option.some.inj H
  go_enter Try.func184, Try.ntmps184
  go_wp2_with (first | ((with_reducible refine gtd 5 rfl ?_); refine zbx 5 #[.bool a0_0, .int .u64 a0_1, .int .u64 a0_2, .int .i64 a0_3, .bool a0_4] 151 (h := ?_); intro gb126 hg w29 hbox hb; have GW126 := zkZ hg (zaB (p := Below w.heap.size w _)); replace HB := Aside0.mk (below_step zaB hb); have BK126 := Aside0.mk (hbox); clear hb hbox hg; obtain ⟨_, _, _, _, _, _, _, _, _, _⟩ := zq5 BK126) | ((with_reducible refine gtc 200 rfl ?_); refine zgL 14 Try.func200 (round_number_away.calls a0_0 a0_1 a0_2 a0_3 a0_4 a1 false _ A6.out) (h := ?_); rintro w31 hb; replace BK126 := zkb BK126 hb; replace HB := zkB HB hb; (try clear hb); obtain ⟨_, _, _, _, _, _, _, _, _, _⟩ := zq5 BK126) | ((with_reducible refine gtc 201 rfl ?_); refine zgL 22 Try.func201 (round_number_towards.calls a0_0 a0_1 a0_2 a0_3 a0_4 a1 false _ A15.out) (h := ?_); rintro w33 hb; replace BK126 := zkb BK126 hb; replace HB := zkB HB hb; (try clear hb)))
  go_ret
  exact ⟨zaE, zaB⟩
 replace c22 := Bool.eq_false_iff.mpr c22
 subst c22
 replace H := zif H
 obtain rfl := Option.some.inj H
 go_enter Try.func184, Try.ntmps184
 go_wp2_with (first | ((with_reducible refine gtd 5 rfl ?_); refine zbx 5 #[.bool a0_0, .int .u64 a0_1, .int .u64 a0_2, .int .i64 a0_3, .bool a0_4] 151 (h := ?_); intro gb126 hg w34 hbox hb; have GW126 := zkZ hg (zaB (p := Below w.heap.size w _)); replace HB := Aside0.mk (below_step zaB hb); have BK126 := Aside0.mk (hbox); clear hb hbox hg; obtain ⟨_, _, _, _, _, _, _, _, _, _⟩ := zq5 BK126) | ((with_reducible refine gtc 200 rfl ?_); refine zgL 14 Try.func200 (round_number_away.calls a0_0 a0_1 a0_2 a0_3 a0_4 a1 false _ A6.out) (h := ?_); rintro w36 hb; replace BK126 := zkb BK126 hb; replace HB := zkB HB hb; (try clear hb); obtain ⟨_, _, _, _, _, _, _, _, _, _⟩ := zq5 BK126) | ((with_reducible refine gtc 201 rfl ?_); refine zgL 22 Try.func201 (round_number_towards.calls a0_0 a0_1 a0_2 a0_3 a0_4 a1 false _ A15.out) (h := ?_); rintro w38 hb; replace BK126 := zkb BK126 hb; replace HB := zkB HB hb; (try clear hb)))
 go_ret
 exact ⟨zaE, zaB⟩
theorem round_number_over.calls (k : Nat) (a0_0 : Bool) (a0_1 : Int) (a0_2 : Int) (a0_3 : Int) (a0_4 : Bool) (a1 : Int) (r1 : Int) (r2 : Int) (w : World) (h : round_number_over.f k a0_0 a0_1 a0_2 a0_3 a0_4 a1 = some (r1, r2)) :
  Calls Try.prog 185 #[.agg #[.bool a0_0, .int .u64 a0_1, .int .u64 a0_2, .int .i64 a0_3, .bool a0_4], .int .u8 a1] w fun e w' => e = .returned (.tuple #[.int .u64 r1, .int .u8 r2]) ∧ Below w.heap.size w w' := by
 have hu151 := Try.underlying151
 have HB := Aside0.mk (Below.refl w.heap.size w)
 have H : ((pattern_Inf.f k a0_0).bind fun t132 => ((round_number_towards.f a0_0 a0_1 a0_2 a0_3 a0_4 a1).bind fun t133 => (if t133 = true then (some (IntKind.u64.wrap (t132 - 1), 5)) else (some (t132, 5))))) = some (r1, r2) := h
 clear h
 obtain ⟨t132, A3, H⟩ := zbs H
 try dsimp only at H
 obtain ⟨t133, A4, H⟩ := zbs H
 try dsimp only at H
 by_cases c5 : t133 = true
 ·subst c5
  replace H := zit H
  simp only [Option.some.injEq, Prod.mk.injEq] at H
  obtain ⟨rfl, rfl⟩ := H
  go_enter Try.func185, Try.ntmps185
  go_wp2_with (first | ((with_reducible refine gtd 2 rfl ?_); refine zbx 2 #[.bool a0_0, .int .u64 a0_1, .int .u64 a0_2, .int .i64 a0_3, .bool a0_4] 151 (h := ?_); intro gb131 hg w6 hbox hb; have GW131 := zkZ hg (zaB (p := Below w.heap.size w _)); replace HB := Aside0.mk (below_step zaB hb); have BK131 := Aside0.mk (hbox); clear hb hbox hg; obtain ⟨_, _, _, _, _, _, _, _, _, _⟩ := zq5 BK131) | ((with_reducible refine gtc 79 rfl ?_); refine zgL 9 Try.func79 (pattern_Inf.calls k a0_0 t132 _ A3.out) (h := ?_); rintro w' ⟨nd, rfl⟩) | ((with_reducible refine gtc 201 rfl ?_); refine zgL 12 Try.func201 (round_number_towards.calls a0_0 a0_1 a0_2 a0_3 a0_4 a1 true _ A4.out) (h := ?_); rintro w8 hb; replace BK131 := zkb BK131 hb; replace HB := zkB HB hb; (try clear hb)))
  go_ret2
  exact ⟨zaE, zaB⟩
 replace c5 := Bool.eq_false_iff.mpr c5
 subst c5
 replace H := zif H
 simp only [Option.some.injEq, Prod.mk.injEq] at H
 obtain ⟨rfl, rfl⟩ := H
 go_enter Try.func185, Try.ntmps185
 go_wp2_with (first | ((with_reducible refine gtd 2 rfl ?_); refine zbx 2 #[.bool a0_0, .int .u64 a0_1, .int .u64 a0_2, .int .i64 a0_3, .bool a0_4] 151 (h := ?_); intro gb131 hg w9 hbox hb; have GW131 := zkZ hg (zaB (p := Below w.heap.size w _)); replace HB := Aside0.mk (below_step zaB hb); have BK131 := Aside0.mk (hbox); clear hb hbox hg; obtain ⟨_, _, _, _, _, _, _, _, _, _⟩ := zq5 BK131) | ((with_reducible refine gtc 79 rfl ?_); refine zgL 9 Try.func79 (pattern_Inf.calls k a0_0 t132 _ A3.out) (h := ?_); rintro w' ⟨nd, rfl⟩) | ((with_reducible refine gtc 201 rfl ?_); refine zgL 12 Try.func201 (round_number_towards.calls a0_0 a0_1 a0_2 a0_3 a0_4 a1 false _ A4.out) (h := ?_); rintro w11 hb; replace BK131 := zkb BK131 hb; replace HB := zkB HB hb; (try clear hb)))
 go_ret2
 exact ⟨zaE, zaB⟩
def round_number_float.T3 : Bool × List (List Nat × List Nat) := (true, [([], []), ([0], [0]), ([], []), ([2], [2]), ([], []), ([4, 1, 0, 1, 4], [1, 4]), ([5, 0, 1, 4, 5], []), ([3, 6, 0, 1, 2, 3, 4, 5, 6], [3])])
def round_number_float.B3 : List Nat := [0, 1, 0, 4, 0, 19, 51, 127]
theorem round_number_float.tab3 : rtab .any (opsOf Try.f159 3) = round_number_float.T3 := by kernel_rfl
theorem round_number_float.bits3 : waitsOk round_number_float.T3.2 round_number_float.B3 = true := by kernel_rfl
theorem round_number_float.calls (k : Nat) (a0_0 : Bool) (a0_1 : Int) (a0_2 : Int) (a0_3 : Int) (a0_4 : Bool) (a1 : Int) (r1 : Int) (r2 : Int) (w : World) (h : round_number_float.f k a0_0 a0_1 a0_2 a0_3 a0_4 a1 = some (r1, r2)) :
  Calls Try.prog 159 #[.agg #[.bool a0_0, .int .u64 a0_1, .int .u64 a0_2, .int .i64 a0_3, .bool a0_4], .int .u8 a1] w fun e w' => e = .returned (.tuple #[.int .u64 r1, .int .u8 r2]) ∧ Below w.heap.size w w' := by
 have hu151 := Try.underlying151
 have hu109 := Try.underlying109
 have HB := Aside0.mk (Below.refl w.heap.size w)
 have H : ((wide_U128_Len.f a0_1 a0_2).bind fun t135 => (if (wrap64 ((mx (wrap64 ((wrap64 (t135 - 53)) + a0_3)) (-1074)) - a0_3)) > 0 then ((wide_U128_Shr.f k a0_1 a0_2 (wrap64 ((wrap64 ((mx (wrap64 ((wrap64 (t135 - 53)) + a0_3)) (-1074)) - a0_3)) - 1))).bind fun bt137 => (if a0_4 = true then ((wide_U128_Shr.f k bt137.1 bt137.2.1 1).bind fun bt140 => (round_number_float.j0 k a1 t135 (mx (wrap64 ((wrap64 (t135 - 53)) + a0_3)) (-1074)) ((Go.bits .and .u64 bt137.2.1 1) == 1) true a0_0 a0_1 a0_2 a0_3 a0_4 bt140.1 bt140.2.1)) else ((wide_U128_Shr.f k bt137.1 bt137.2.1 1).bind fun bt143 => (round_number_float.j0 k a1 t135 (mx (wrap64 ((wrap64 (t135 - 53)) + a0_3)) (-1074)) ((Go.bits .and .u64 bt137.2.1 1) == 1) bt137.2.2 a0_0 a0_1 a0_2 a0_3 a0_4 bt143.1 bt143.2.1)))) else ((wide_U128_Shl.f k a0_1 a0_2 (wrap64 (-(wrap64 ((mx (wrap64 ((wrap64 (t135 - 53)) + a0_3)) (-1074)) - a0_3))))).bind fun bt146 => (round_number_float.j0 k a1 t135 (mx (wrap64 ((wrap64 (t135 - 53)) + a0_3)) (-1074)) false a0_4 a0_0 a0_1 a0_2 a0_3 a0_4 bt146.1 bt146.2)))) = some (r1, r2) := h
 clear h
 obtain ⟨t135, A3, H⟩ := zbs H
 try dsimp only at H
 obtain ⟨ji4, hji4⟩ : ∃ j_ : Int, (mx (wrap64 ((wrap64 (t135 - 53)) + a0_3)) (-1074)) = j_ := ⟨_, rfl⟩
 replace H : (if (wrap64 ((ji4) - a0_3)) > 0 then ((wide_U128_Shr.f k a0_1 a0_2 (wrap64 ((wrap64 ((ji4) - a0_3)) - 1))).bind fun bt137 => (if a0_4 = true then ((wide_U128_Shr.f k bt137.1 bt137.2.1 1).bind fun bt140 => (round_number_float.j0 k a1 t135 ji4 ((Go.bits .and .u64 bt137.2.1 1) == 1) true a0_0 a0_1 a0_2 a0_3 a0_4 bt140.1 bt140.2.1)) else ((wide_U128_Shr.f k bt137.1 bt137.2.1 1).bind fun bt143 => (round_number_float.j0 k a1 t135 ji4 ((Go.bits .and .u64 bt137.2.1 1) == 1) bt137.2.2 a0_0 a0_1 a0_2 a0_3 a0_4 bt143.1 bt143.2.1)))) else ((wide_U128_Shl.f k a0_1 a0_2 (wrap64 (-(wrap64 ((ji4) - a0_3))))).bind fun bt146 => (round_number_float.j0 k a1 t135 ji4 false a0_4 a0_0 a0_1 a0_2 a0_3 a0_4 bt146.1 bt146.2))) = some (r1, r2) := by first | (rw [hji4] at H; exact H) | (simp only [hji4] at H ⊢; exact H)
 (try rw [hji4] at A3)
 have hji4_ : (if (wrap64 ((wrap64 (t135 - 53)) + a0_3)) < (-1074) then (-1074) else (wrap64 ((wrap64 (t135 - 53)) + a0_3))) = ji4 := hji4
 (try (have hji4n := hji4_; simp only [Int.ofNat_lt] at hji4n))
 have HC5 := Aside0.mk H
 clear H
 go_enter Try.func159, Try.ntmps159
 try go_wp2_with (first | ((with_reducible refine gtd 2 rfl ?_); refine zbx 2 #[.bool a0_0, .int .u64 a0_1, .int .u64 a0_2, .int .i64 a0_3, .bool a0_4] 151 (h := ?_); intro gb134 hg w6 hbox hb; have GW134 := zkZ hg (zaB (p := Below w.heap.size w _)); replace HB := Aside0.mk (below_step zaB hb); have BK134 := Aside0.mk (hbox); clear hb hbox hg; obtain ⟨z7_0, z7_1, z7_2, z7_3, z7_4, f7_0, f7_1, f7_2, f7_3, f7_4⟩ := zq5 BK134) | ((with_reducible refine gtc 103 rfl ?_); refine zgL 20 Try.func103 (wide_U128_Len.calls a0_1 a0_2 t135 _ A3.out) (h := ?_); rintro w8 hb; replace BK134 := zkb BK134 hb; replace HB := zkB HB hb; (try clear hb); obtain ⟨z9_0, z9_1, z9_2, z9_3, z9_4, f9_0, f9_1, f9_2, f9_3, f9_4⟩ := zq5 BK134))
 replace BK134 := Aside0.mk (blk_drew BK134.out)
 replace HB := Aside0.mk (below_drew1 HB.out)
 refine start_ (n := 8) (S := fun w' => w'.cell? ⟨gb134, 0, none⟩ = some (.bool a0_0) ∧ w'.cell? ⟨gb134, 1, none⟩ = some (.int .u64 a0_1) ∧ w'.cell? ⟨gb134, 2, none⟩ = some (.int .u64 a0_2) ∧ w'.cell? ⟨gb134, 3, none⟩ = some (.int .i64 a0_3) ∧ w'.cell? ⟨gb134, 4, none⟩ = some (.bool a0_4)) (ds := []) #[false, false, false, false, false, false, false, false] (by kernel_rfl) rfl rfl (ze5 BK134) (fun hHeld => ?_); refine with_tabW round_number_float.tab3 round_number_float.bits3 (fun HT_ HW_ => ?_)
 generalize w8.drew = w10 at BK134 HB hHeld ⊢
 refine zpA 0 27 (h := ?_)
 refine zpA 2 29 (h := ?_)
 refine ztA 1 28 (h := ?_)
 refine ztA 3 30 (h := ?_)
 refine zoA 4 8 (h := fun K hK => ?_)
 refine box_step ?hg (N := 8) ?hd (cs := #[.int .u64 0, .int .u64 0]) (t := 109) ?hr ?_; (case hd => rfl); (case hg => rfl); (case hr => first | (go_simp; done) | (go_simp; rfl))
 intro gb136 hg w11 hbox hb
 have GW136 := zkz HB hg
 have NB134_136 := zkl BK134 hg
 have NB136_134 := zkr BK134 hg
 replace BK134 := zkb BK134 hb
 replace HB := zkB HB hb
 have BK136 := Aside0.mk (hbox)
 clear hb hbox hg
 refine hK.out _ _ (ze5 BK134) (fun hHeld => ?_)
 clear hK K
 refine znA 8 (h := ?_)
 refine one_ (i := 5) (N := none) #[true, true, true, true, true, true, false, false] rfl rfl (one_of HT_.out (by kernel_rfl)) (by decide) (fun K hK => ?_)
 have hs12 := zc0 BK136
 have hfs12 := blk_frozen BK136.out 0
 have hns12_0 := NB134_136.out
 have hms12_0 := NB136_134.out
 have hs13 := zc1 BK136
 have hfs13 := blk_frozen BK136.out 1
 have hns13_0 := NB134_136.out
 have hms13_0 := NB136_134.out
 refine skip_ (w1 := ?_) (by rfl) rfl ?_ ?_
 rotate_left
 ·go_simp
  rfl
 refine hK.out _ _ ⟨(zff NB134_136 (zff NB134_136 hHeld.1)), (zff NB134_136 (zff NB134_136 hHeld.2.1)), (zff NB134_136 (zff NB134_136 hHeld.2.2.1)), (zff NB134_136 (zff NB134_136 hHeld.2.2.2.1)), (zff NB134_136 (zff NB134_136 hHeld.2.2.2.2))⟩ (fun hHeld => ?_)
 clear hK K
 refine zpA 6 9 (h := ?_)
 refine zpA 7 10 (h := ?_)
 refine done_ (done_of HT_.out (by kernel_rfl)) ?_
 obtain ⟨_, _⟩ := zsy NB134_136
 obtain ⟨z15_0, z15_1, z15_2, z15_3, z15_4, f15_0, f15_1, f15_2, f15_3, f15_4⟩ := zq5 BK134
 go_upto_if 36 with (fail)
 go_cut [9, 10] (fun v9 v10 wc => ∃ (kq : Nat) (x9_4 : Bool) (x10_4 : Bool) (x137000_4 : Int) (x137001_4 : Int), v9 = .bool x9_4 ∧ v10 = .bool x10_4 ∧ Aside0 (round_number_float.j0 kq a1 t135 ji4 x9_4 x10_4 a0_0 a0_1 a0_2 a0_3 a0_4 x137000_4 x137001_4 = some (r1, r2)) ∧ Aside0 (kq ≤ k) ∧ Aside0 (wc.heap[gb134]? = some (.cells #[.bool a0_0, .int .u64 a0_1, .int .u64 a0_2, .int .i64 a0_3, .bool a0_4] 151 (0, 0))) ∧ Aside0 (wc.heap[gb136]? = some (.cells #[.int .u64 x137000_4, .int .u64 x137001_4] 109 (0, 0))) ∧ Aside0 (Below w.heap.size w wc))
 case first =>
  have H := HC5.out
  clear HC5
  by_cases c16 : (wrap64 ((ji4) - a0_3)) > 0
  ·rw [if_pos c16] at H
   have c16b0 : decide (0 < (wrap64 ((ji4) - a0_3))) = true := decide_eq_true c16
   clear c16
   (first | rw [c16b0] | (simp only [i64_w, i32_w]; rw [c16b0]) | skip)
   obtain ⟨⟨t137, t138, t139⟩, A17, H⟩ := zbs H
   try dsimp only at H
   by_cases c18 : a0_4 = true
   ·subst c18
    replace H := zit H
    obtain ⟨⟨t140, t141, t142⟩, A19, H⟩ := zbs H
    try dsimp only at H
    have H' := Aside0.mk H
    clear H
    obtain ⟨_, _⟩ := zsy NB134_136
    obtain ⟨z21_0, z21_1, z21_2, z21_3, z21_4, f21_0, f21_1, f21_2, f21_3, f21_4⟩ := zq5 BK134
    go_wp2_with (first | ((with_reducible refine gtc 151 rfl ?_); refine goesL_ (some 42) rfl rfl Try.func151 (by kernel_rfl) rfl #[.agg #[.int .u64 a0_1, .int .u64 a0_2], .int .i64 (wrap64 ((wrap64 ((ji4) - a0_3)) - 1))] rfl (by (try simp only [List.map_toArray, List.map_cons, List.map_nil]); first | done | (simp only [hji4]; rfl) | rfl | (simp only [List.length_drop, List.length_take]; rfl)) ?_; (with_reducible refine (wide_U128_Shr.calls k a0_1 a0_2 (wrap64 ((wrap64 ((ji4) - a0_3)) - 1)) t137 t138 t139 _ A17.out).mono ?_); rintro e w22 ⟨rfl, hb⟩; refine ⟨_, rfl, ?_⟩; replace BK134 := Aside0.mk (blk_below (zkf (zkf BK134.out NB134_136.out _) NB134_136.out _) hb); replace BK136 := Aside0.mk (blk_below (o := .cells #[.int .u64 a0_1, .int .u64 a0_2] 109 (0, 0)) (blk_put (cs := #[.int .u64 a0_1, .int .u64 0]) (blk_put BK136.out 0 _ rfl) 1 _ rfl) hb); replace HB := Aside0.mk (below_step (below_set (below_set HB.out GW136.out) GW136.out) hb); (try clear hb); obtain ⟨z23_0, z23_1, f23_0, f23_1⟩ := zq2 BK136) | ((with_reducible refine gtc 151 rfl ?_); refine zgL 55 Try.func151 (wide_U128_Shr.calls k t137 t138 1 t140 t141 t142 _ A19.out) (h := ?_); rintro w24 hb; replace BK134 := Aside0.mk (blk_below (zkf (zkf BK134.out NB134_136.out _) NB134_136.out _) hb); replace BK136 := Aside0.mk (blk_below (o := .cells #[.int .u64 t137, .int .u64 t138] 109 (0, 0)) (blk_put (cs := #[.int .u64 t137, .int .u64 a0_2]) (blk_put BK136.out 0 _ rfl) 1 _ rfl) hb); replace HB := Aside0.mk (below_step (below_set (below_set HB.out GW136.out) GW136.out) hb); (try clear hb); obtain ⟨z25_0, z25_1, f25_0, f25_1⟩ := zq2 BK136))
    go_meet
    case rel => exact ⟨_, (((Go.bits .and .u64 t138 1) == 1)), (true), (t140), (t141), zrl, zrl, H', ⟨zle⟩, ⟨(zkf (zkf (zkq BK134) NB134_136.out _) NB134_136.out _)⟩, ⟨(blk_put (cs := #[.int .u64 t140, .int .u64 t138]) (blk_put (zkq BK136) 0 _ rfl) 1 _ rfl)⟩, ⟨zaB⟩⟩
   replace c18 := Bool.eq_false_iff.mpr c18
   subst c18
   replace H := zif H
   obtain ⟨⟨t143, t144, t145⟩, A26, H⟩ := zbs H
   try dsimp only at H
   have H' := Aside0.mk H
   clear H
   obtain ⟨_, _⟩ := zsy NB134_136
   obtain ⟨z28_0, z28_1, z28_2, z28_3, z28_4, f28_0, f28_1, f28_2, f28_3, f28_4⟩ := zq5 BK134
   go_wp2_with (first | ((with_reducible refine gtc 151 rfl ?_); refine goesL_ (some 42) rfl rfl Try.func151 (by kernel_rfl) rfl #[.agg #[.int .u64 a0_1, .int .u64 a0_2], .int .i64 (wrap64 ((wrap64 ((ji4) - a0_3)) - 1))] rfl (by (try simp only [List.map_toArray, List.map_cons, List.map_nil]); first | done | (simp only [hji4]; rfl) | rfl | (simp only [List.length_drop, List.length_take]; rfl)) ?_; (with_reducible refine (wide_U128_Shr.calls k a0_1 a0_2 (wrap64 ((wrap64 ((ji4) - a0_3)) - 1)) t137 t138 t139 _ A17.out).mono ?_); rintro e w29 ⟨rfl, hb⟩; refine ⟨_, rfl, ?_⟩; replace BK134 := Aside0.mk (blk_below (zkf (zkf BK134.out NB134_136.out _) NB134_136.out _) hb); replace BK136 := Aside0.mk (blk_below (o := .cells #[.int .u64 a0_1, .int .u64 a0_2] 109 (0, 0)) (blk_put (cs := #[.int .u64 a0_1, .int .u64 0]) (blk_put BK136.out 0 _ rfl) 1 _ rfl) hb); replace HB := Aside0.mk (below_step (below_set (below_set HB.out GW136.out) GW136.out) hb); (try clear hb); obtain ⟨z30_0, z30_1, f30_0, f30_1⟩ := zq2 BK136) | ((with_reducible refine gtc 151 rfl ?_); refine zgL 55 Try.func151 (wide_U128_Shr.calls k t137 t138 1 t143 t144 t145 _ A26.out) (h := ?_); rintro w31 hb; replace BK134 := Aside0.mk (blk_below (zkf (zkf BK134.out NB134_136.out _) NB134_136.out _) hb); replace BK136 := Aside0.mk (blk_below (o := .cells #[.int .u64 t137, .int .u64 t138] 109 (0, 0)) (blk_put (cs := #[.int .u64 t137, .int .u64 a0_2]) (blk_put BK136.out 0 _ rfl) 1 _ rfl) hb); replace HB := Aside0.mk (below_step (below_set (below_set HB.out GW136.out) GW136.out) hb); (try clear hb); obtain ⟨z32_0, z32_1, f32_0, f32_1⟩ := zq2 BK136))
   go_meet
   case rel => exact ⟨_, (((Go.bits .and .u64 t138 1) == 1)), (t139), (t143), (t144), zrl, zrl, H', ⟨zle⟩, ⟨(zkf (zkf (zkq BK134) NB134_136.out _) NB134_136.out _)⟩, ⟨(blk_put (cs := #[.int .u64 t143, .int .u64 t138]) (blk_put (zkq BK136) 0 _ rfl) 1 _ rfl)⟩, ⟨zaB⟩⟩
  rw [if_neg c16] at H
  have c16b0 : decide (0 < (wrap64 ((ji4) - a0_3))) = false := decide_eq_false c16
  clear c16
  (first | rw [c16b0] | (simp only [i64_w, i32_w]; rw [c16b0]) | skip)
  obtain ⟨⟨t146, t147⟩, A33, H⟩ := zbs H
  try dsimp only at H
  have H' := Aside0.mk H
  clear H
  obtain ⟨_, _⟩ := zsy NB136_134
  obtain ⟨z35_0, z35_1, f35_0, f35_1⟩ := zq2 BK136
  go_wp2_with (first | ((with_reducible refine gtc 106 rfl ?_); refine goesL_ (some 61) rfl rfl Try.func106 (by kernel_rfl) rfl #[.agg #[.int .u64 a0_1, .int .u64 a0_2], .int .i64 (wrap64 (-(wrap64 ((ji4) - a0_3))))] rfl (by (try simp only [List.map_toArray, List.map_cons, List.map_nil]); first | done | (simp only [hji4]; rfl) | rfl | (simp only [List.length_drop, List.length_take]; rfl)) ?_; (with_reducible refine (wide_U128_Shl.calls k a0_1 a0_2 (wrap64 (-(wrap64 ((ji4) - a0_3)))) t146 t147 _ A33.out).mono ?_); rintro e w36 ⟨rfl, hb⟩; refine ⟨_, rfl, ?_⟩; replace BK134 := Aside0.mk (blk_below (zkf (zkf BK134.out NB134_136.out _) NB134_136.out _) hb); replace BK136 := Aside0.mk (blk_below (o := .cells #[.int .u64 a0_1, .int .u64 a0_2] 109 (0, 0)) (blk_put (cs := #[.int .u64 a0_1, .int .u64 0]) (blk_put BK136.out 0 _ rfl) 1 _ rfl) hb); replace HB := Aside0.mk (below_step (below_set (below_set HB.out GW136.out) GW136.out) hb); (try clear hb); obtain ⟨z37_0, z37_1, f37_0, f37_1⟩ := zq2 BK136))
  go_meet
  case rel => exact ⟨_, (false), (a0_4), (t146), (t147), zrl, zrl, H', ⟨zle⟩, ⟨(zkf (zkf (zkq BK134) NB134_136.out _) NB134_136.out _)⟩, ⟨(blk_put (cs := #[.int .u64 t146, .int .u64 a0_2]) (blk_put (zkq BK136) 0 _ rfl) 1 _ rfl)⟩, ⟨zaB⟩⟩
 case rest =>
  clear HC5
  try clear c1
  try clear c2
  try clear p2
  try clear c3
  try clear p6
  try clear c10
  try clear c14
  try clear c15
  try clear c16
  try clear c16b0
  try clear c18
  try clear c20
  try clear c27
  try clear c34
  try clear z15_0
  try clear z15_1
  try clear z15_2
  try clear z15_3
  try clear z15_4
  try clear z21_0
  try clear z21_1
  try clear z21_2
  try clear z21_3
  try clear z21_4
  try clear z23_0
  try clear z23_1
  try clear z25_0
  try clear z25_1
  try clear z28_0
  try clear z28_1
  try clear z28_2
  try clear z28_3
  try clear z28_4
  try clear z30_0
  try clear z30_1
  try clear z32_0
  try clear z32_1
  try clear z35_0
  try clear z35_1
  try clear z37_0
  try clear z37_1
  try clear z7_0
  try clear z7_1
  try clear z7_2
  try clear z7_3
  try clear z7_4
  try clear z9_0
  try clear z9_1
  try clear z9_2
  try clear z9_3
  try clear z9_4
  try clear f15_0
  try clear f15_1
  try clear f15_2
  try clear f15_3
  try clear f15_4
  try clear f21_0
  try clear f21_1
  try clear f21_2
  try clear f21_3
  try clear f21_4
  try clear f23_0
  try clear f23_1
  try clear f25_0
  try clear f25_1
  try clear f28_0
  try clear f28_1
  try clear f28_2
  try clear f28_3
  try clear f28_4
  try clear f30_0
  try clear f30_1
  try clear f32_0
  try clear f32_1
  try clear f35_0
  try clear f35_1
  try clear f37_0
  try clear f37_1
  try clear f7_0
  try clear f7_1
  try clear f7_2
  try clear f7_3
  try clear f7_4
  try clear f9_0
  try clear f9_1
  try clear f9_2
  try clear f9_3
  try clear f9_4
  obtain ⟨kq, x9_4, x10_4, x137000_4, x137001_4, rfl, rfl, HA, HJ4, BK134, BK136, HB⟩ := hcut
  cases kq with
  | zero => exact absurd HA.out (by simp [round_number_float.j0])
  | succ kj4 =>
   have H := HA.out
   clear HA
   simp only [round_number_float.j0] at H
   obtain ⟨t148, A38, H⟩ := zbs H
   try dsimp only at H
   have HC39 := Aside0.mk H
   clear H
   obtain ⟨_, _⟩ := zsy NB136_134
   obtain ⟨z41_0, z41_1, f41_0, f41_1⟩ := zq2 BK136
   obtain ⟨z42_0, z42_1, z42_2, z42_3, z42_4, f42_0, f42_1, f42_2, f42_3, f42_4⟩ := zq5 BK134
   go_upto_if 71 with (first | ((with_reducible refine gtc 184 rfl ?_); refine zgL 71 Try.func184 (round_number_up.calls a0_0 a0_1 a0_2 a0_3 a0_4 a1 ((Go.bits .and .u64 x137001_4 1) == 1) x9_4 x10_4 t148 _ A38.out) (h := ?_); rintro w43 hb; replace BK134 := zkb BK134 hb; replace BK136 := zkb BK136 hb; replace HB := zkB HB hb; (try clear hb)))
   (try simp only [Act.put, List.setIfInBounds_toArray, List.set_cons_zero, List.set_cons_succ])
   go_cut [13] (fun v13 wc => ∃ (kq : Nat) (x13_38 : Int), v13 = .int .u64 x13_38 ∧ Aside0 (round_number_float.j1 kq a1 t135 ji4 x9_4 x10_4 x13_38 a0_0 a0_1 a0_2 a0_3 a0_4 = some (r1, r2)) ∧ Aside0 (kq ≤ kj4) ∧ Aside0 (wc.heap[gb134]? = some (.cells #[.bool a0_0, .int .u64 a0_1, .int .u64 a0_2, .int .i64 a0_3, .bool a0_4] 151 (0, 0))) ∧ Aside0 (wc.heap[gb136]? = some (.cells #[.int .u64 x137000_4, .int .u64 x137001_4] 109 (0, 0))) ∧ Aside0 (Below w.heap.size w wc))
   case first =>
    have H := HC39.out
    clear HC39
    by_cases c44 : t148 = true
    ·subst c44
     replace H := zit H
     have H' := Aside0.mk H
     clear H
     go_wp2
     go_meet
     case rel => exact ⟨_, (IntKind.u64.wrap (x137001_4 + 1)), zrl, H', ⟨by have := HJ4.out; first | omega | exact Nat.le_refl _⟩, ⟨zkq BK134⟩, ⟨zkq BK136⟩, ⟨zaB⟩⟩
    replace c44 := Bool.eq_false_iff.mpr c44
    subst c44
    replace H := zif H
    have H' := Aside0.mk H
    clear H
    go_wp2
    go_meet
    case rel => exact ⟨_, (x137001_4), zrl, H', ⟨by have := HJ4.out; first | omega | exact Nat.le_refl _⟩, ⟨zkq BK134⟩, ⟨zkq BK136⟩, ⟨zaB⟩⟩
   case rest =>
    clear HC39
    try clear c1
    try clear c2
    try clear p2
    try clear c3
    try clear c4
    try clear p6
    try clear c10
    try clear c14
    try clear c15
    try clear c16
    try clear c16b0
    try clear c18
    try clear c20
    try clear c27
    try clear c34
    try clear c40
    try clear c44
    try clear z15_0
    try clear z15_1
    try clear z15_2
    try clear z15_3
    try clear z15_4
    try clear z21_0
    try clear z21_1
    try clear z21_2
    try clear z21_3
    try clear z21_4
    try clear z23_0
    try clear z23_1
    try clear z25_0
    try clear z25_1
    try clear z28_0
    try clear z28_1
    try clear z28_2
    try clear z28_3
    try clear z28_4
    try clear z30_0
    try clear z30_1
    try clear z32_0
    try clear z32_1
    try clear z35_0
    try clear z35_1
    try clear z37_0
    try clear z37_1
    try clear z41_0
    try clear z41_1
    try clear z42_0
    try clear z42_1
    try clear z42_2
    try clear z42_3
    try clear z42_4
    try clear z7_0
    try clear z7_1
    try clear z7_2
    try clear z7_3
    try clear z7_4
    try clear z9_0
    try clear z9_1
    try clear z9_2
    try clear z9_3
    try clear z9_4
    try clear f15_0
    try clear f15_1
    try clear f15_2
    try clear f15_3
    try clear f15_4
    try clear f21_0
    try clear f21_1
    try clear f21_2
    try clear f21_3
    try clear f21_4
    try clear f23_0
    try clear f23_1
    try clear f25_0
    try clear f25_1
    try clear f28_0
    try clear f28_1
    try clear f28_2
    try clear f28_3
    try clear f28_4
    try clear f30_0
    try clear f30_1
    try clear f32_0
    try clear f32_1
    try clear f35_0
    try clear f35_1
    try clear f37_0
    try clear f37_1
    try clear f41_0
    try clear f41_1
    try clear f42_0
    try clear f42_1
    try clear f42_2
    try clear f42_3
    try clear f42_4
    try clear f7_0
    try clear f7_1
    try clear f7_2
    try clear f7_3
    try clear f7_4
    try clear f9_0
    try clear f9_1
    try clear f9_2
    try clear f9_3
    try clear f9_4
    try clear p2
    try clear p6
    obtain ⟨kq, x13_38, rfl, HA, HJ38, BK134, BK136, HB⟩ := hcut
    cases kq with
    | zero => exact absurd HA.out (by simp [round_number_float.j1])
    | succ kj38 =>
     have H := HA.out
     clear HA
     simp only [round_number_float.j1] at H
     have HC45 := Aside0.mk H
     clear H
     go_upto_if 75 with (fail)
     go_cut [7, 13] (fun v7 v13 wc => ∃ (kq : Nat) (x7_44 : Int) (x13_44 : Int), v7 = .int .i64 x7_44 ∧ v13 = .int .u64 x13_44 ∧ Aside0 (round_number_float.j2 kq a1 t135 x7_44 x9_4 x10_4 x13_44 a0_0 a0_1 a0_2 a0_3 a0_4 = some (r1, r2)) ∧ Aside0 (kq ≤ kj38) ∧ Aside0 (wc.heap[gb134]? = some (.cells #[.bool a0_0, .int .u64 a0_1, .int .u64 a0_2, .int .i64 a0_3, .bool a0_4] 151 (0, 0))) ∧ Aside0 (wc.heap[gb136]? = some (.cells #[.int .u64 x137000_4, .int .u64 x137001_4] 109 (0, 0))) ∧ Aside0 (Below w.heap.size w wc))
     case first =>
      have H := HC45.out
      clear HC45
      by_cases c46 : x13_38 = 9007199254740992
      ·rw [if_pos c46] at H
       have c46b0 : (x13_38 == 9007199254740992) = true := beq_iff_eq.mpr c46
       have c46b1 : (x13_38 != 9007199254740992) = false := bne_eq_false_iff_eq.mpr c46
       clear c46
       (first | rw [c46b0] | (simp only [i64_w, i32_w]; rw [c46b0]) | skip)
       have H' := Aside0.mk H
       clear H
       go_wp2
       go_meet
       case rel => exact ⟨_, (wrap64 (ji4 + 1)), (x13_38 / 2), (by first | rfl | (simp; done) | (simp only [← hji4] <;> (first | rfl | simp)) | (simp [*]; done)), zrl, H', ⟨by have := HJ4.out; have := HJ38.out; first | omega | exact Nat.le_refl _⟩, ⟨zkq BK134⟩, ⟨zkq BK136⟩, ⟨zaB⟩⟩
      rw [if_neg c46] at H
      have c46b0 : (x13_38 == 9007199254740992) = false := beq_eq_false_iff_ne.mpr c46
      have c46b1 : (x13_38 != 9007199254740992) = true := bne_iff_ne.mpr c46
      (first | rw [c46b0] | (simp only [i64_w, i32_w]; rw [c46b0]) | skip)
      have H' := Aside0.mk H
      clear H
      go_wp2
      go_meet
      case rel => exact ⟨_, (ji4), (x13_38), (by first | rfl | (simp; done) | (simp only [← hji4] <;> (first | rfl | simp)) | (simp [*]; done)), zrl, H', ⟨by have := HJ4.out; have := HJ38.out; first | omega | exact Nat.le_refl _⟩, ⟨zkq BK134⟩, ⟨zkq BK136⟩, ⟨zaB⟩⟩
     case rest =>
      clear HC45
      try clear c1
      try clear c2
      try clear p2
      try clear c3
      try clear c4
      try clear p6
      try clear c10
      try clear c14
      try clear c15
      try clear c16
      try clear c16b0
      try clear c18
      try clear c20
      try clear c27
      try clear c34
      try clear c40
      try clear c44
      try clear c46
      try clear c46b0
      try clear c46b1
      try clear z15_0
      try clear z15_1
      try clear z15_2
      try clear z15_3
      try clear z15_4
      try clear z21_0
      try clear z21_1
      try clear z21_2
      try clear z21_3
      try clear z21_4
      try clear z23_0
      try clear z23_1
      try clear z25_0
      try clear z25_1
      try clear z28_0
      try clear z28_1
      try clear z28_2
      try clear z28_3
      try clear z28_4
      try clear z30_0
      try clear z30_1
      try clear z32_0
      try clear z32_1
      try clear z35_0
      try clear z35_1
      try clear z37_0
      try clear z37_1
      try clear z41_0
      try clear z41_1
      try clear z42_0
      try clear z42_1
      try clear z42_2
      try clear z42_3
      try clear z42_4
      try clear z7_0
      try clear z7_1
      try clear z7_2
      try clear z7_3
      try clear z7_4
      try clear z9_0
      try clear z9_1
      try clear z9_2
      try clear z9_3
      try clear z9_4
      try clear f15_0
      try clear f15_1
      try clear f15_2
      try clear f15_3
      try clear f15_4
      try clear f21_0
      try clear f21_1
      try clear f21_2
      try clear f21_3
      try clear f21_4
      try clear f23_0
      try clear f23_1
      try clear f25_0
      try clear f25_1
      try clear f28_0
      try clear f28_1
      try clear f28_2
      try clear f28_3
      try clear f28_4
      try clear f30_0
      try clear f30_1
      try clear f32_0
      try clear f32_1
      try clear f35_0
      try clear f35_1
      try clear f37_0
      try clear f37_1
      try clear f41_0
      try clear f41_1
      try clear f42_0
      try clear f42_1
      try clear f42_2
      try clear f42_3
      try clear f42_4
      try clear f7_0
      try clear f7_1
      try clear f7_2
      try clear f7_3
      try clear f7_4
      try clear f9_0
      try clear f9_1
      try clear f9_2
      try clear f9_3
      try clear f9_4
      try clear p2
      try clear p6
      obtain ⟨kq, x7_44, x13_44, rfl, rfl, HA, HJ44, BK134, BK136, HB⟩ := hcut
      cases kq with
      | zero => exact absurd HA.out (by simp [round_number_float.j2])
      | succ kj44 =>
       have H := HA.out
       clear HA
       simp only [round_number_float.j2] at H
       by_cases c47 : x7_44 > 971
       ·rw [if_pos c47] at H
        have c47b0 : decide (971 < x7_44) = true := decide_eq_true c47
        clear c47
        obtain ⟨⟨t149, t150⟩, A48, H⟩ := zbs H
        try dsimp only at H
        simp only [Option.some.injEq, Prod.mk.injEq] at H
        obtain ⟨rfl, rfl⟩ := H
        obtain ⟨_, _⟩ := zsy NB134_136
        obtain ⟨z50_0, z50_1, z50_2, z50_3, z50_4, f50_0, f50_1, f50_2, f50_3, f50_4⟩ := zq5 BK134
        go_wp2_with (first | ((with_reducible refine gtc 185 rfl ?_); refine zgL 84 Try.func185 (round_number_over.calls kj44 a0_0 a0_1 a0_2 a0_3 a0_4 a1 t149 t150 _ A48.out) (h := ?_); rintro w51 hb; replace BK134 := zkb BK134 hb; replace BK136 := zkb BK136 hb; replace HB := zkB HB hb; (try clear hb)))
        go_ret2
        exact ⟨by first | rfl | (simp [errW_none, errW_some] <;> rfl) | (simp only [← hji4]; first | rfl | (simp [errW_none, errW_some] <;> rfl)) | (simp [*, errW_none, errW_some] <;> rfl), zaB⟩
       rw [if_neg c47] at H
       have c47b0 : decide (971 < x7_44) = false := decide_eq_false c47
       clear c47
       have HC52 := Aside0.mk H
       clear H
       go_upto_region 19 with (fail)
       go_cut [90] (fun v90 wc => ∃ (kq : Nat) (x90_51 : Bool), v90 = .bool x90_51 ∧ Aside0 (round_number_float.j3 kq t135 x7_44 x13_44 0 x90_51 a0_0 a0_1 a0_2 a0_3 a0_4 = some (r1, r2)) ∧ Aside0 (kq ≤ kj44) ∧ Aside0 (wc.heap[gb134]? = some (.cells #[.bool a0_0, .int .u64 a0_1, .int .u64 a0_2, .int .i64 a0_3, .bool a0_4] 151 (0, 0))) ∧ Aside0 (wc.heap[gb136]? = some (.cells #[.int .u64 x137000_4, .int .u64 x137001_4] 109 (0, 0))) ∧ Aside0 (Below w.heap.size w wc))
       case first =>
        have H := HC52.out
        clear HC52
        by_cases c53 : x9_4 = true
        ·subst c53
         replace H := zit H
         have H' := Aside0.mk H
         clear H
         go_wp2
         go_meet
         case rel => exact ⟨_, (true), zrl, H', ⟨by have := HJ4.out; have := HJ38.out; have := HJ44.out; first | omega | exact Nat.le_refl _⟩, ⟨zkq BK134⟩, ⟨zkq BK136⟩, ⟨zaB⟩⟩
        replace c53 := Bool.eq_false_iff.mpr c53
        subst c53
        replace H := zif H
        have H' := Aside0.mk H
        clear H
        go_wp2
        go_meet
        case rel => exact ⟨_, (x10_4), zrl, H', ⟨by have := HJ4.out; have := HJ38.out; have := HJ44.out; first | omega | exact Nat.le_refl _⟩, ⟨zkq BK134⟩, ⟨zkq BK136⟩, ⟨zaB⟩⟩
       case rest =>
        clear HC52
        try clear c1
        try clear c2
        try clear p2
        try clear c3
        try clear c4
        try clear c5
        try clear p6
        try clear c10
        try clear c14
        try clear c15
        try clear c16
        try clear c16b0
        try clear c18
        try clear c20
        try clear c27
        try clear c34
        try clear c40
        try clear c44
        try clear c46
        try clear c46b0
        try clear c46b1
        try clear c47
        try clear c47b0
        try clear c49
        try clear c53
        try clear z15_0
        try clear z15_1
        try clear z15_2
        try clear z15_3
        try clear z15_4
        try clear z21_0
        try clear z21_1
        try clear z21_2
        try clear z21_3
        try clear z21_4
        try clear z23_0
        try clear z23_1
        try clear z25_0
        try clear z25_1
        try clear z28_0
        try clear z28_1
        try clear z28_2
        try clear z28_3
        try clear z28_4
        try clear z30_0
        try clear z30_1
        try clear z32_0
        try clear z32_1
        try clear z35_0
        try clear z35_1
        try clear z37_0
        try clear z37_1
        try clear z41_0
        try clear z41_1
        try clear z42_0
        try clear z42_1
        try clear z42_2
        try clear z42_3
        try clear z42_4
        try clear z50_0
        try clear z50_1
        try clear z50_2
        try clear z50_3
        try clear z50_4
        try clear z7_0
        try clear z7_1
        try clear z7_2
        try clear z7_3
        try clear z7_4
        try clear z9_0
        try clear z9_1
        try clear z9_2
        try clear z9_3
        try clear z9_4
        try clear f15_0
        try clear f15_1
        try clear f15_2
        try clear f15_3
        try clear f15_4
        try clear f21_0
        try clear f21_1
        try clear f21_2
        try clear f21_3
        try clear f21_4
        try clear f23_0
        try clear f23_1
        try clear f25_0
        try clear f25_1
        try clear f28_0
        try clear f28_1
        try clear f28_2
        try clear f28_3
        try clear f28_4
        try clear f30_0
        try clear f30_1
        try clear f32_0
        try clear f32_1
        try clear f35_0
        try clear f35_1
        try clear f37_0
        try clear f37_1
        try clear f41_0
        try clear f41_1
        try clear f42_0
        try clear f42_1
        try clear f42_2
        try clear f42_3
        try clear f42_4
        try clear f50_0
        try clear f50_1
        try clear f50_2
        try clear f50_3
        try clear f50_4
        try clear f7_0
        try clear f7_1
        try clear f7_2
        try clear f7_3
        try clear f7_4
        try clear f9_0
        try clear f9_1
        try clear f9_2
        try clear f9_3
        try clear f9_4
        try clear p2
        try clear p6
        obtain ⟨kq, x90_51, rfl, HA, HJ51, BK134, BK136, HB⟩ := hcut
        cases kq with
        | zero => exact absurd HA.out (by simp [round_number_float.j3])
        | succ kj51 =>
         have H := HA.out
         clear HA
         simp only [round_number_float.j3] at H
         by_cases c54 : x90_51 = true
         ·subst c54
          replace H := zit H
          by_cases c55 : (wrap64 (t135 + a0_3)) ≤ (-1022)
          ·rw [if_pos c55] at H
           have c55b0 : decide ((wrap64 (t135 + a0_3)) ≤ (-1022)) = true := decide_eq_true c55
           clear c55
           by_cases c56 : (x13_44 / 4503599627370496) = 1
           ·rw [if_pos c56] at H
            have c56b0 : ((x13_44 / 4503599627370496) == 1) = true := beq_iff_eq.mpr c56
            have c56b1 : ((x13_44 / 4503599627370496) != 1) = false := bne_eq_false_iff_eq.mpr c56
            clear c56
            obtain ⟨⟨t151, t152⟩, A57, H⟩ := zbs H
            try dsimp only at H
            simp only [Option.some.injEq, Prod.mk.injEq] at H
            obtain ⟨rfl, rfl⟩ := H
            obtain ⟨_, _⟩ := zsy NB134_136
            obtain ⟨_, _, _, _, _, _, _, _, _, _⟩ := zq5 BK134
            go_wp2_with (first | ((with_reducible refine gtc 150 rfl ?_); refine zgL 110 Try.func150 (pattern_Make.calls kj51 a0_0 (wrap64 ((wrap64 (x7_44 - (-1074))) + 1)) (Go.bits .and .u64 x13_44 4503599627370495) t151 t152 _ A57.out) (h := ?_); rintro w' ⟨nd, rfl⟩))
            go_ret2
            exact ⟨by first | rfl | (simp [errW_none, errW_some] <;> rfl) | (simp only [← hji4]; first | rfl | (simp [errW_none, errW_some] <;> rfl)) | (simp [*, errW_none, errW_some] <;> rfl), zaB⟩
           rw [if_neg c56] at H
           have c56b0 : ((x13_44 / 4503599627370496) == 1) = false := beq_eq_false_iff_ne.mpr c56
           have c56b1 : ((x13_44 / 4503599627370496) != 1) = true := bne_iff_ne.mpr c56
           obtain ⟨⟨t153, t154⟩, A60, H⟩ := zbs H
           try dsimp only at H
           simp only [Option.some.injEq, Prod.mk.injEq] at H
           obtain ⟨rfl, rfl⟩ := H
           obtain ⟨_, _⟩ := zsy NB134_136
           obtain ⟨_, _, _, _, _, _, _, _, _, _⟩ := zq5 BK134
           go_wp2_with (first | ((with_reducible refine gtc 150 rfl ?_); refine zgL 110 Try.func150 (pattern_Make.calls kj51 a0_0 0 (Go.bits .and .u64 x13_44 4503599627370495) t153 t154 _ A60.out) (h := ?_); rintro w' ⟨nd, rfl⟩))
           go_ret2
           exact ⟨by first | rfl | (simp [errW_none, errW_some] <;> rfl) | (simp only [← hji4]; first | rfl | (simp [errW_none, errW_some] <;> rfl)) | (simp [*, errW_none, errW_some] <;> rfl), zaB⟩
          rw [if_neg c55] at H
          have c55b0 : decide ((wrap64 (t135 + a0_3)) ≤ (-1022)) = false := decide_eq_false c55
          clear c55
          by_cases c63 : (x13_44 / 4503599627370496) = 1
          ·rw [if_pos c63] at H
           have c63b0 : ((x13_44 / 4503599627370496) == 1) = true := beq_iff_eq.mpr c63
           have c63b1 : ((x13_44 / 4503599627370496) != 1) = false := bne_eq_false_iff_eq.mpr c63
           clear c63
           obtain ⟨⟨t155, t156⟩, A64, H⟩ := zbs H
           try dsimp only at H
           simp only [Option.some.injEq, Prod.mk.injEq] at H
           obtain ⟨rfl, rfl⟩ := H
           obtain ⟨_, _⟩ := zsy NB134_136
           obtain ⟨_, _, _, _, _, _, _, _, _, _⟩ := zq5 BK134
           go_wp2_with (first | ((with_reducible refine gtc 150 rfl ?_); refine zgL 110 Try.func150 (pattern_Make.calls kj51 a0_0 (wrap64 ((wrap64 (x7_44 - (-1074))) + 1)) (Go.bits .and .u64 x13_44 4503599627370495) t155 t156 _ A64.out) (h := ?_); rintro w' ⟨nd, rfl⟩))
           go_ret2
           exact ⟨by first | rfl | (simp [errW_none, errW_some] <;> rfl) | (simp only [← hji4]; first | rfl | (simp [errW_none, errW_some] <;> rfl)) | (simp [*, errW_none, errW_some] <;> rfl), zaB⟩
          rw [if_neg c63] at H
          have c63b0 : ((x13_44 / 4503599627370496) == 1) = false := beq_eq_false_iff_ne.mpr c63
          have c63b1 : ((x13_44 / 4503599627370496) != 1) = true := bne_iff_ne.mpr c63
          obtain ⟨⟨t157, t158⟩, A67, H⟩ := zbs H
          try dsimp only at H
          simp only [Option.some.injEq, Prod.mk.injEq] at H
          obtain ⟨rfl, rfl⟩ := H
          obtain ⟨_, _⟩ := zsy NB134_136
          obtain ⟨_, _, _, _, _, _, _, _, _, _⟩ := zq5 BK134
          go_wp2_with (first | ((with_reducible refine gtc 150 rfl ?_); refine zgL 110 Try.func150 (pattern_Make.calls kj51 a0_0 0 (Go.bits .and .u64 x13_44 4503599627370495) t157 t158 _ A67.out) (h := ?_); rintro w' ⟨nd, rfl⟩))
          go_ret2
          exact ⟨by first | rfl | (simp [errW_none, errW_some] <;> rfl) | (simp only [← hji4]; first | rfl | (simp [errW_none, errW_some] <;> rfl)) | (simp [*, errW_none, errW_some] <;> rfl), zaB⟩
         replace c54 := Bool.eq_false_iff.mpr c54
         subst c54
         replace H := zif H
         by_cases c70 : (x13_44 / 4503599627370496) = 1
         ·rw [if_pos c70] at H
          have c70b0 : ((x13_44 / 4503599627370496) == 1) = true := beq_iff_eq.mpr c70
          have c70b1 : ((x13_44 / 4503599627370496) != 1) = false := bne_eq_false_iff_eq.mpr c70
          clear c70
          obtain ⟨⟨t159, t160⟩, A71, H⟩ := zbs H
          try dsimp only at H
          simp only [Option.some.injEq, Prod.mk.injEq] at H
          obtain ⟨rfl, rfl⟩ := H
          obtain ⟨_, _⟩ := zsy NB134_136
          obtain ⟨_, _, _, _, _, _, _, _, _, _⟩ := zq5 BK134
          go_wp2_with (first | ((with_reducible refine gtc 150 rfl ?_); refine zgL 110 Try.func150 (pattern_Make.calls kj51 a0_0 (wrap64 ((wrap64 (x7_44 - (-1074))) + 1)) (Go.bits .and .u64 x13_44 4503599627370495) t159 t160 _ A71.out) (h := ?_); rintro w' ⟨nd, rfl⟩))
          go_ret2
          exact ⟨by first | rfl | (simp [errW_none, errW_some] <;> rfl) | (simp only [← hji4]; first | rfl | (simp [errW_none, errW_some] <;> rfl)) | (simp [*, errW_none, errW_some] <;> rfl), zaB⟩
         rw [if_neg c70] at H
         have c70b0 : ((x13_44 / 4503599627370496) == 1) = false := beq_eq_false_iff_ne.mpr c70
         have c70b1 : ((x13_44 / 4503599627370496) != 1) = true := bne_iff_ne.mpr c70
         obtain ⟨⟨t161, t162⟩, A74, H⟩ := zbs H
         try dsimp only at H
         simp only [Option.some.injEq, Prod.mk.injEq] at H
         obtain ⟨rfl, rfl⟩ := H
         obtain ⟨_, _⟩ := zsy NB134_136
         obtain ⟨_, _, _, _, _, _, _, _, _, _⟩ := zq5 BK134
         go_wp2_with (first | ((with_reducible refine gtc 150 rfl ?_); refine zgL 110 Try.func150 (pattern_Make.calls kj51 a0_0 0 (Go.bits .and .u64 x13_44 4503599627370495) t161 t162 _ A74.out) (h := ?_); rintro w' ⟨nd, rfl⟩))
         go_ret2
         exact ⟨by first | rfl | (simp [errW_none, errW_some] <;> rfl) | (simp only [← hji4]; first | rfl | (simp [errW_none, errW_some] <;> rfl)) | (simp [*, errW_none, errW_some] <;> rfl), zaB⟩
theorem round_Round.calls (k : Nat) (a0 : Bool) (a1_0 : Int) (a1_1 : Int) (a2 : Int) (a3 : Bool) (a4 : Int) (r1 : Int) (r2 : Int) (w : World) (h : round_Round.f k a0 a1_0 a1_1 a2 a3 a4 = some (r1, r2)) :
  Calls Try.prog 99 #[.bool a0, .agg #[.int .u64 a1_0, .int .u64 a1_1], .int .i64 a2, .bool a3, .int .u8 a4] w fun e w' => e = .returned (.tuple #[.int .u64 r1, .int .u8 r2]) ∧ Below w.heap.size w w' := by
 have hu109 := Try.underlying109
 have hu151 := Try.underlying151
 have HB := Aside0.mk (Below.refl w.heap.size w)
 have H : ((wide_U128_Len.f a1_0 a1_1).bind fun t164 => (if t164 = 0 then ((pattern_Make.f k a0 0 0).bind fun bt165 => (some (bt165.1, 0))) else (if a3 = true then ((round_number_float.f k a0 a1_0 a1_1 (mn (mx a2 (-5000)) 5000) (decide (t164 > 53)) a4).bind fun bt167 => (some (bt167.1, bt167.2))) else ((round_number_float.f k a0 a1_0 a1_1 (mn (mx a2 (-5000)) 5000) false a4).bind fun bt169 => (some (bt169.1, bt169.2)))))) = some (r1, r2) := h
 clear h
 obtain ⟨t164, A6, H⟩ := zbs H
 try dsimp only at H
 by_cases c7 : t164 = 0
 ·rw [if_pos c7] at H
  have c7b0 : (t164 == 0) = true := beq_iff_eq.mpr c7
  have c7b1 : (t164 != 0) = false := bne_eq_false_iff_eq.mpr c7
  clear c7
  obtain ⟨⟨t165, t166⟩, A8, H⟩ := zbs H
  try dsimp only at H
  simp only [Option.some.injEq, Prod.mk.injEq] at H
  obtain ⟨rfl, rfl⟩ := H
  go_enter Try.func99, Try.ntmps99
  go_wp2_with (first | ((with_reducible refine gtd 6 rfl ?_); refine zbx 6 #[.int .u64 a1_0, .int .u64 a1_1] 109 (h := ?_); intro gb163 hg w9 hbox hb; have GW163 := zkZ hg (zaB (p := Below w.heap.size w _)); replace HB := Aside0.mk (below_step zaB hb); have BK163 := Aside0.mk (hbox); clear hb hbox hg; obtain ⟨_, _, _, _⟩ := zq2 BK163) | ((with_reducible refine gtc 103 rfl ?_); refine zgL 16 Try.func103 (wide_U128_Len.calls a1_0 a1_1 t164 _ A6.out) (h := ?_); rintro w11 hb; replace BK163 := zkb BK163 hb; replace HB := zkB HB hb; (try clear hb)) | ((with_reducible refine gtc 150 rfl ?_); refine zgL 21 Try.func150 (pattern_Make.calls k a0 0 0 t165 t166 _ A8.out) (h := ?_); rintro w' ⟨nd, rfl⟩))
  go_ret2
  exact ⟨zaE, zaB⟩
 rw [if_neg c7] at H
 have c7b0 : (t164 == 0) = false := beq_eq_false_iff_ne.mpr c7
 have c7b1 : (t164 != 0) = true := bne_iff_ne.mpr c7
 obtain ⟨ji12, hji12⟩ : ∃ j_ : Int, (mx a2 (-5000)) = j_ := ⟨_, rfl⟩
 replace H : (if a3 = true then ((round_number_float.f k a0 a1_0 a1_1 (mn (ji12) 5000) (decide (t164 > 53)) a4).bind fun bt167 => (some (bt167.1, bt167.2))) else ((round_number_float.f k a0 a1_0 a1_1 (mn (ji12) 5000) false a4).bind fun bt169 => (some (bt169.1, bt169.2)))) = some (r1, r2) := by first | (rw [hji12] at H; exact H) | (simp only [hji12] at H ⊢; exact H)
 (try rw [hji12] at A6)
 have hji12_ : (if a2 < (-5000) then (-5000) else a2) = ji12 := hji12
 (try (have hji12n := hji12_; simp only [Int.ofNat_lt] at hji12n))
 obtain ⟨ji13, hji13⟩ : ∃ j_ : Int, (mn (ji12) 5000) = j_ := ⟨_, rfl⟩
 replace H : (if a3 = true then ((round_number_float.f k a0 a1_0 a1_1 (ji13) (decide (t164 > 53)) a4).bind fun bt167 => (some (bt167.1, bt167.2))) else ((round_number_float.f k a0 a1_0 a1_1 (ji13) false a4).bind fun bt169 => (some (bt169.1, bt169.2)))) = some (r1, r2) := by first | (rw [hji13] at H; exact H) | (simp only [hji13] at H ⊢; exact H)
 (try rw [hji13] at A6)
 have hji13_ : (if 5000 < (ji12) then 5000 else (ji12)) = ji13 := hji13
 (try (have hji13n := hji13_; simp only [Int.ofNat_lt] at hji13n))
 by_cases c14 : a3 = true
 ·subst c14
  replace H := zit H
  obtain ⟨⟨t167, t168⟩, A15, H⟩ := zbs H
  try dsimp only at H
  simp only [Option.some.injEq, Prod.mk.injEq] at H
  obtain ⟨rfl, rfl⟩ := H
  go_enter Try.func99, Try.ntmps99
  go_wp2_with (first | ((with_reducible refine gtd 6 rfl ?_); refine zbx 6 #[.int .u64 a1_0, .int .u64 a1_1] 109 (h := ?_); intro gb163 hg w16 hbox hb; have GW163 := zkZ hg (zaB (p := Below w.heap.size w _)); replace HB := Aside0.mk (below_step zaB hb); have BK163 := Aside0.mk (hbox); clear hb hbox hg; obtain ⟨_, _, _, _⟩ := zq2 BK163) | ((with_reducible refine gtc 103 rfl ?_); refine zgL 16 Try.func103 (wide_U128_Len.calls a1_0 a1_1 t164 _ A6.out) (h := ?_); rintro w18 hb; replace BK163 := zkb BK163 hb; replace HB := zkB HB hb; (try clear hb); obtain ⟨_, _, _, _⟩ := zq2 BK163) | ((with_reducible refine gtc 159 rfl ?_); refine goesL_ (some 37) rfl rfl Try.func159 (by kernel_rfl) rfl #[.agg #[.bool a0, .int .u64 a1_0, .int .u64 a1_1, .int .i64 ji13, .bool (decide (t164 > 53))], .int .u8 a4] rfl (by (try simp only [List.map_toArray, List.map_cons, List.map_nil]); first | done | (simp only [hji13]; rfl) | rfl | (simp only [List.length_drop, List.length_take]; rfl)) ?_; (with_reducible refine (round_number_float.calls k a0 a1_0 a1_1 ji13 (decide (t164 > 53)) a4 t167 t168 _ A15.out).mono ?_); rintro e w20 ⟨rfl, hb⟩; refine ⟨_, rfl, ?_⟩; replace BK163 := zkb BK163 hb; replace HB := zkB HB hb; (try clear hb)))
  go_ret2
  exact ⟨by first | rfl | (simp [errW_none, errW_some] <;> rfl) | (simp only [← hji12, ← hji13]; first | rfl | (simp [errW_none, errW_some] <;> rfl)) | (simp [*, errW_none, errW_some] <;> rfl), zaB⟩
 replace c14 := Bool.eq_false_iff.mpr c14
 subst c14
 replace H := zif H
 obtain ⟨⟨t169, t170⟩, A21, H⟩ := zbs H
 try dsimp only at H
 simp only [Option.some.injEq, Prod.mk.injEq] at H
 obtain ⟨rfl, rfl⟩ := H
 go_enter Try.func99, Try.ntmps99
 go_wp2_with (first | ((with_reducible refine gtd 6 rfl ?_); refine zbx 6 #[.int .u64 a1_0, .int .u64 a1_1] 109 (h := ?_); intro gb163 hg w22 hbox hb; have GW163 := zkZ hg (zaB (p := Below w.heap.size w _)); replace HB := Aside0.mk (below_step zaB hb); have BK163 := Aside0.mk (hbox); clear hb hbox hg; obtain ⟨_, _, _, _⟩ := zq2 BK163) | ((with_reducible refine gtc 103 rfl ?_); refine zgL 16 Try.func103 (wide_U128_Len.calls a1_0 a1_1 t164 _ A6.out) (h := ?_); rintro w24 hb; replace BK163 := zkb BK163 hb; replace HB := zkB HB hb; (try clear hb); obtain ⟨_, _, _, _⟩ := zq2 BK163) | ((with_reducible refine gtc 159 rfl ?_); refine goesL_ (some 37) rfl rfl Try.func159 (by kernel_rfl) rfl #[.agg #[.bool a0, .int .u64 a1_0, .int .u64 a1_1, .int .i64 ji13, .bool false], .int .u8 a4] rfl (by (try simp only [List.map_toArray, List.map_cons, List.map_nil]); first | done | (simp only [hji13]; rfl) | rfl | (simp only [List.length_drop, List.length_take]; rfl)) ?_; (with_reducible refine (round_number_float.calls k a0 a1_0 a1_1 ji13 false a4 t169 t170 _ A21.out).mono ?_); rintro e w26 ⟨rfl, hb⟩; refine ⟨_, rfl, ?_⟩; replace BK163 := zkb BK163 hb; replace HB := zkB HB hb; (try clear hb)))
 go_ret2
 exact ⟨by first | rfl | (simp [errW_none, errW_some] <;> rfl) | (simp only [← hji12, ← hji13]; first | rfl | (simp [errW_none, errW_some] <;> rfl)) | (simp [*, errW_none, errW_some] <;> rfl), zaB⟩
theorem bits_Mul64.calls (a0 : Int) (a1 : Int) (r1 : Int) (r2 : Int) (w : World) (h : bits_Mul64.f a0 a1 = some (r1, r2)) :
  Calls Try.prog 160 #[.int .u64 a0, .int .u64 a1] w fun e w' => e = .returned (.tuple #[.int .u64 r1, .int .u64 r2]) ∧ Drawn0 w w' := by
 unfold bits_Mul64.f at h
 split at h
 ·rename_i g
  obtain ⟨x, rfl⟩ := Int.eq_ofNat_of_zero_le g.1
  obtain ⟨y, rfl⟩ := Int.eq_ofNat_of_zero_le g.2.1
  simp only [Option.some.injEq, Prod.mk.injEq] at h
  obtain ⟨rfl, rfl⟩ := h
  exact (Try.bits_Mul64 x y (by omega) (by omega) w).mono fun e w' ⟨h1, h2⟩ => ⟨by rw [h1]; rfl, h2 ▸ Drawn0.refl _⟩
 cases h
theorem wide_Mul.calls (a0 : Int) (a1 : Int) (r1 : Int) (r2 : Int) (w : World) (h : wide_Mul.f a0 a1 = some (r1, r2)) :
  Calls Try.prog 100 #[.int .u64 a0, .int .u64 a1] w fun e w' => e = .returned (.agg #[.int .u64 r1, .int .u64 r2]) ∧ Below w.heap.size w w' := by
 have hu109 := Try.underlying109
 have HB := Aside0.mk (Below.refl w.heap.size w)
 have H : ((bits_Mul64.f a0 a1).bind fun bt230 => (some (bt230.1, bt230.2))) = some (r1, r2) := h
 clear h
 obtain ⟨⟨t230, t231⟩, A3, H⟩ := zbs H
 try dsimp only at H
 simp only [Option.some.injEq, Prod.mk.injEq] at H
 obtain ⟨rfl, rfl⟩ := H
 go_enter Try.func100, Try.ntmps100
 go_wp2_with (first | ((with_reducible refine gtd 4 rfl ?_); refine zbx 4 #[.int .u64 0, .int .u64 0] 109 (h := ?_); intro gb229 hg w4 hbox hb; have GW229 := zkZ hg (zaB (p := Below w.heap.size w _)); replace HB := Aside0.mk (below_step zaB hb); have BK229 := Aside0.mk (hbox); clear hb hbox hg) | ((with_reducible refine gtc 160 rfl ?_); refine zgL 10 Try.func160 (bits_Mul64.calls a0 a1 t230 t231 _ A3.out) (h := ?_); rintro w' ⟨nd, rfl⟩; (try (rw [drewN_self w4]; generalize hq_ : World.drewN w4 _ = w4; have n0_ : Aside0 (w4.heap[gb229]? = some (.cells #[.int .u64 0, .int .u64 0] 109 (0, 0))) := ⟨by rw [← hq_]; exact (zkq BK229)⟩; have n1_ : Aside0 (Below w.heap.size w w4) := ⟨by rw [← hq_]; exact zaB⟩; clear BK229 HB hq_; have BK229 := n0_; have HB := n1_; clear n0_ n1_)); obtain ⟨_, _, _, _⟩ := zq2 BK229))
 refine bodyPost_ret (results_cell_row rfl _ _ gb229 109 #[.int .u64 t230, .int .u64 t231] (0, 0) _ rfl (blk_put (cs := #[.int .u64 t230, .int .u64 0]) (blk_put (zkq BK229) 0 _ rfl) 1 _ rfl) Try.underlying109 rfl (by kernel_rfl)) rfl ?_
 exact ⟨zaE, zaB⟩
def soft_Mul.T9 : Bool × List (List Nat × List Nat) := (true, [([], []), ([], []), ([1], [1]), ([], []), ([3], [3]), ([2, 4], [2, 4]), ([], []), ([6], [6]), ([], []), ([8], [8]), ([7, 9], [7, 9]), ([], []), ([0, 5, 10, 11, 5], [0, 5, 10, 11]), ([12], [12]), ([12], [12]), ([13, 12, 0, 1, 2, 3, 4, 5, 6, 7, 8, 9, 10, 11, 12, 13, 14], [13]), ([14, 15, 0, 1, 2, 3, 4, 5, 6, 7, 8, 9, 10, 11, 12, 13, 14, 15], [14])])
def soft_Mul.B9 : List Nat := [0, 0, 2, 0, 8, 30, 0, 64, 0, 256, 960, 0, 4095, 8191, 8191, 32767, 65535]
theorem soft_Mul.tab9 : rtab .any (opsOf Try.f25 9) = soft_Mul.T9 := by kernel_rfl
theorem soft_Mul.bits9 : waitsOk soft_Mul.T9.2 soft_Mul.B9 = true := by kernel_rfl
theorem soft_Mul.calls (k : Nat) (a0 : Int) (a1 : Int) (a2 : Int) (r1 : Int) (r2 : Int) (w : World) (h : soft_Mul.f k a0 a1 a2 = some (r1, r2)) :
  Calls Try.prog 25 #[.int .u64 a0, .int .u64 a1, .int .u8 a2] w fun e w' => e = .returned (.tuple #[.int .u64 r1, .int .u8 r2]) ∧ Below w.heap.size w w' := by
 have hu88 := Try.underlying88
 have HB := Aside0.mk (Below.refl w.heap.size w)
 have H : ((soft_of.f k a0).bind fun bt232 => ((soft_of.f k a1).bind fun bt237 => ((soft_either.f bt232.1 bt232.2.1 bt232.2.2.1 bt232.2.2.2.1 bt232.2.2.2.2 bt237.1 bt237.2.1 bt237.2.2.1 bt237.2.2.2.1 bt237.2.2.2.2 4).bind fun t244 => (if t244 = true then ((pattern_Quiet.f).bind fun t245 => (some (t245, 0))) else ((soft_either.f bt232.1 bt232.2.1 bt232.2.2.1 bt232.2.2.2.1 bt232.2.2.2.2 bt237.1 bt237.2.1 bt237.2.2.1 bt237.2.2.2.1 bt237.2.2.2.2 3).bind fun t246 => (if t246 = true then ((soft_either.f bt232.1 bt232.2.1 bt232.2.2.1 bt232.2.2.2.1 bt232.2.2.2.2 bt237.1 bt237.2.1 bt237.2.2.1 bt237.2.2.2.1 bt237.2.2.2.2 0).bind fun t247 => (soft_Mul.j0 k a2 (bt232.2.2.1 != bt237.2.2.1) t247 bt232.1 bt232.2.1 bt232.2.2.1 bt232.2.2.2.1 bt232.2.2.2.2 bt237.1 bt237.2.1 bt237.2.2.1 bt237.2.2.2.1 bt237.2.2.2.2)) else (soft_Mul.j0 k a2 (bt232.2.2.1 != bt237.2.2.1) false bt232.1 bt232.2.1 bt232.2.2.1 bt232.2.2.2.1 bt232.2.2.2.2 bt237.1 bt237.2.1 bt237.2.2.1 bt237.2.2.2.1 bt237.2.2.2.2))))))) = some (r1, r2) := h
 clear h
 obtain ⟨⟨t232, t233, t234, t235, t236⟩, A4, H⟩ := zbs H
 try dsimp only at H
 obtain ⟨⟨t237, t238, t239, t240, t241⟩, A5, H⟩ := zbs H
 try dsimp only at H
 obtain ⟨t244, A6, H⟩ := zbs H
 try dsimp only at H
 by_cases c7 : t244 = true
 ·subst c7
  replace H := zit H
  obtain ⟨t245, A8, H⟩ := zbs H
  try dsimp only at H
  simp only [Option.some.injEq, Prod.mk.injEq] at H
  obtain ⟨rfl, rfl⟩ := H
  go_enter Try.func25, Try.ntmps25
  go_wp2_with (first | ((with_reducible refine gtc 82 rfl ?_); refine zgL 12 Try.func82 (soft_of.calls k a0 t232 t233 t234 t235 t236 _ A4.out) (h := ?_); rintro w9 hb; replace HB := Aside0.mk (below_step zaB hb); (try clear hb)) | ((with_reducible refine gtc 82 rfl ?_); refine zgL 14 Try.func82 (soft_of.calls k a1 t237 t238 t239 t240 t241 _ A5.out) (h := ?_); rintro w10 hb; replace HB := Aside0.mk (below_step zaB hb); (try clear hb)) | ((with_reducible refine gtd 8 rfl ?_); refine zbx 8 #[.int .u64 0, .int .u8 0, .bool false, .int .u64 0, .int .i64 0] 88 (h := ?_); intro gb242 hg w11 hbox hb; have GW242 := zkZ hg (zaB (p := Below w.heap.size w _)); replace HB := Aside0.mk (below_step zaB hb); have BK242 := Aside0.mk (hbox); clear hb hbox hg) | ((with_reducible refine gtd 9 rfl ?_); refine zbx 9 #[.int .u64 0, .int .u8 0, .bool false, .int .u64 0, .int .i64 0] 88 (h := ?_); intro gb243 hg w12 hbox hb; have GW243 := zkz HB hg; have NB242_243 := zkl BK242 hg; have NB243_242 := zkr BK242 hg; replace BK242 := zkb BK242 hb; replace HB := zkB HB hb; have BK243 := Aside0.mk (hbox); clear hb hbox hg; obtain ⟨_, _⟩ := zsy NB242_243; obtain ⟨z14_0, z14_1, z14_2, z14_3, z14_4, f14_0, f14_1, f14_2, f14_3, f14_4⟩ := zq5 BK242; obtain ⟨z15_0, z15_1, z15_2, z15_3, z15_4, f15_0, f15_1, f15_2, f15_3, f15_4⟩ := zq5 BK243) | ((with_reducible refine gtc 83 rfl ?_); refine zgL 23 Try.func83 (soft_either.calls t232 t233 t234 t235 t236 t237 t238 t239 t240 t241 4 true _ A6.out) (h := ?_); rintro w16 hb; replace BK242 := Aside0.mk (blk_below (o := .cells #[.int .u64 t232, .int .u8 t233, .bool t234, .int .u64 t235, .int .i64 t236] 88 (0, 0)) (zkf (zkf (zkf (zkf (zkf (blk_put (cs := #[.int .u64 t232, .int .u8 t233, .bool t234, .int .u64 t235, .int .i64 0]) (blk_put (cs := #[.int .u64 t232, .int .u8 t233, .bool t234, .int .u64 0, .int .i64 0]) (blk_put (cs := #[.int .u64 t232, .int .u8 t233, .bool false, .int .u64 0, .int .i64 0]) (blk_put (cs := #[.int .u64 t232, .int .u8 0, .bool false, .int .u64 0, .int .i64 0]) (blk_put BK242.out 0 _ rfl) 1 _ rfl) 2 _ rfl) 3 _ rfl) 4 _ rfl) NB242_243.out _) NB242_243.out _) NB242_243.out _) NB242_243.out _) NB242_243.out _) hb); replace BK243 := Aside0.mk (blk_below (o := .cells #[.int .u64 t237, .int .u8 t238, .bool t239, .int .u64 t240, .int .i64 t241] 88 (0, 0)) (blk_put (cs := #[.int .u64 t237, .int .u8 t238, .bool t239, .int .u64 t240, .int .i64 0]) (blk_put (cs := #[.int .u64 t237, .int .u8 t238, .bool t239, .int .u64 0, .int .i64 0]) (blk_put (cs := #[.int .u64 t237, .int .u8 t238, .bool false, .int .u64 0, .int .i64 0]) (blk_put (cs := #[.int .u64 t237, .int .u8 0, .bool false, .int .u64 0, .int .i64 0]) (blk_put (zkf (zkf (zkf (zkf (zkf BK243.out NB243_242.out _) NB243_242.out _) NB243_242.out _) NB243_242.out _) NB243_242.out _) 0 _ rfl) 1 _ rfl) 2 _ rfl) 3 _ rfl) 4 _ rfl) hb); replace HB := Aside0.mk (below_step (below_set (below_set (below_set (below_set (below_set (below_set (below_set (below_set (below_set (below_set HB.out GW242.out) GW242.out) GW242.out) GW242.out) GW242.out) GW243.out) GW243.out) GW243.out) GW243.out) GW243.out) hb); (try clear hb)) | ((with_reducible refine gtc 81 rfl ?_); refine zgL 24 Try.func81 (pattern_Quiet.calls  t245 _ A8.out) (h := ?_); rintro w' ⟨nd, rfl⟩))
  go_ret2
  exact ⟨zaE, zaB⟩
 replace c7 := Bool.eq_false_iff.mpr c7
 subst c7
 replace H := zif H
 have HC17 := Aside0.mk H
 clear H
 go_enter Try.func25, Try.ntmps25
 go_upto_region 5 with (first | ((with_reducible refine gtc 82 rfl ?_); refine zgL 12 Try.func82 (soft_of.calls k a0 t232 t233 t234 t235 t236 _ A4.out) (h := ?_); rintro w18 hb; replace HB := Aside0.mk (below_step zaB hb); (try clear hb)) | ((with_reducible refine gtc 82 rfl ?_); refine zgL 14 Try.func82 (soft_of.calls k a1 t237 t238 t239 t240 t241 _ A5.out) (h := ?_); rintro w19 hb; replace HB := Aside0.mk (below_step zaB hb); (try clear hb)) | ((with_reducible refine gtd 8 rfl ?_); refine zbx 8 #[.int .u64 0, .int .u8 0, .bool false, .int .u64 0, .int .i64 0] 88 (h := ?_); intro gb242 hg w20 hbox hb; have GW242 := zkZ hg (zaB (p := Below w.heap.size w _)); replace HB := Aside0.mk (below_step zaB hb); have BK242 := Aside0.mk (hbox); clear hb hbox hg) | ((with_reducible refine gtd 9 rfl ?_); refine zbx 9 #[.int .u64 0, .int .u8 0, .bool false, .int .u64 0, .int .i64 0] 88 (h := ?_); intro gb243 hg w21 hbox hb; have GW243 := zkz HB hg; have NB242_243 := zkl BK242 hg; have NB243_242 := zkr BK242 hg; replace BK242 := zkb BK242 hb; replace HB := zkB HB hb; have BK243 := Aside0.mk (hbox); clear hb hbox hg; obtain ⟨_, _⟩ := zsy NB242_243; obtain ⟨z23_0, z23_1, z23_2, z23_3, z23_4, f23_0, f23_1, f23_2, f23_3, f23_4⟩ := zq5 BK242; obtain ⟨z24_0, z24_1, z24_2, z24_3, z24_4, f24_0, f24_1, f24_2, f24_3, f24_4⟩ := zq5 BK243) | ((with_reducible refine gtc 83 rfl ?_); refine zgL 23 Try.func83 (soft_either.calls t232 t233 t234 t235 t236 t237 t238 t239 t240 t241 4 false _ A6.out) (h := ?_); rintro w25 hb; replace BK242 := Aside0.mk (blk_below (o := .cells #[.int .u64 t232, .int .u8 t233, .bool t234, .int .u64 t235, .int .i64 t236] 88 (0, 0)) (zkf (zkf (zkf (zkf (zkf (blk_put (cs := #[.int .u64 t232, .int .u8 t233, .bool t234, .int .u64 t235, .int .i64 0]) (blk_put (cs := #[.int .u64 t232, .int .u8 t233, .bool t234, .int .u64 0, .int .i64 0]) (blk_put (cs := #[.int .u64 t232, .int .u8 t233, .bool false, .int .u64 0, .int .i64 0]) (blk_put (cs := #[.int .u64 t232, .int .u8 0, .bool false, .int .u64 0, .int .i64 0]) (blk_put BK242.out 0 _ rfl) 1 _ rfl) 2 _ rfl) 3 _ rfl) 4 _ rfl) NB242_243.out _) NB242_243.out _) NB242_243.out _) NB242_243.out _) NB242_243.out _) hb); replace BK243 := Aside0.mk (blk_below (o := .cells #[.int .u64 t237, .int .u8 t238, .bool t239, .int .u64 t240, .int .i64 t241] 88 (0, 0)) (blk_put (cs := #[.int .u64 t237, .int .u8 t238, .bool t239, .int .u64 t240, .int .i64 0]) (blk_put (cs := #[.int .u64 t237, .int .u8 t238, .bool t239, .int .u64 0, .int .i64 0]) (blk_put (cs := #[.int .u64 t237, .int .u8 t238, .bool false, .int .u64 0, .int .i64 0]) (blk_put (cs := #[.int .u64 t237, .int .u8 0, .bool false, .int .u64 0, .int .i64 0]) (blk_put (zkf (zkf (zkf (zkf (zkf BK243.out NB243_242.out _) NB243_242.out _) NB243_242.out _) NB243_242.out _) NB243_242.out _) 0 _ rfl) 1 _ rfl) 2 _ rfl) 3 _ rfl) 4 _ rfl) hb); replace HB := Aside0.mk (below_step (below_set (below_set (below_set (below_set (below_set (below_set (below_set (below_set (below_set (below_set HB.out GW242.out) GW242.out) GW242.out) GW242.out) GW242.out) GW243.out) GW243.out) GW243.out) GW243.out) GW243.out) hb); (try clear hb)))
 (try simp only [Act.put, List.setIfInBounds_toArray, List.set_cons_zero, List.set_cons_succ])
 go_cut [25] (fun v25 wc => ∃ (kq : Nat) (x25_16 : Bool), v25 = .bool x25_16 ∧ Aside0 (soft_Mul.j0 kq a2 (t234 != t239) x25_16 t232 t233 t234 t235 t236 t237 t238 t239 t240 t241 = some (r1, r2)) ∧ Aside0 (kq ≤ k) ∧ Aside0 (wc.heap[gb242]? = some (.cells #[.int .u64 t232, .int .u8 t233, .bool t234, .int .u64 t235, .int .i64 t236] 88 (0, 0))) ∧ Aside0 (wc.heap[gb243]? = some (.cells #[.int .u64 t237, .int .u8 t238, .bool t239, .int .u64 t240, .int .i64 t241] 88 (0, 0))) ∧ Aside0 (Below w.heap.size w wc))
 case first =>
  have H := HC17.out
  clear HC17
  obtain ⟨t246, A26, H⟩ := zbs H
  try dsimp only at H
  by_cases c27 : t246 = true
  ·subst c27
   replace H := zit H
   obtain ⟨t247, A28, H⟩ := zbs H
   try dsimp only at H
   have H' := Aside0.mk H
   clear H
   obtain ⟨_, _⟩ := zsy NB242_243
   obtain ⟨z30_0, z30_1, z30_2, z30_3, z30_4, f30_0, f30_1, f30_2, f30_3, f30_4⟩ := zq5 BK242
   obtain ⟨z31_0, z31_1, z31_2, z31_3, z31_4, f31_0, f31_1, f31_2, f31_3, f31_4⟩ := zq5 BK243
   go_wp2_with (first | ((with_reducible refine gtc 83 rfl ?_); refine zgL 28 Try.func83 (soft_either.calls t232 t233 t234 t235 t236 t237 t238 t239 t240 t241 3 true _ A26.out) (h := ?_); rintro w32 hb; replace BK242 := zkb BK242 hb; replace BK243 := zkb BK243 hb; replace HB := zkB HB hb; (try clear hb); obtain ⟨z33_0, z33_1, z33_2, z33_3, z33_4, f33_0, f33_1, f33_2, f33_3, f33_4⟩ := zq5 BK242; obtain ⟨z34_0, z34_1, z34_2, z34_3, z34_4, f34_0, f34_1, f34_2, f34_3, f34_4⟩ := zq5 BK243) | (go_at_call 83; (with_reducible refine (soft_either.calls t232 t233 t234 t235 t236 t237 t238 t239 t240 t241 0 t247 _ A28.out).mono ?_); rintro e w35 ⟨rfl, hb⟩; replace BK242 := zkb BK242 hb; replace BK243 := zkb BK243 hb; replace HB := zkB HB hb; (try clear hb)))
   go_meet
   case rel => exact ⟨_, (t247), zrl, H', ⟨zle⟩, ⟨zkq BK242⟩, ⟨zkq BK243⟩, ⟨zaB⟩⟩
  replace c27 := Bool.eq_false_iff.mpr c27
  subst c27
  replace H := zif H
  have H' := Aside0.mk H
  clear H
  obtain ⟨_, _⟩ := zsy NB242_243
  obtain ⟨z37_0, z37_1, z37_2, z37_3, z37_4, f37_0, f37_1, f37_2, f37_3, f37_4⟩ := zq5 BK242
  obtain ⟨z38_0, z38_1, z38_2, z38_3, z38_4, f38_0, f38_1, f38_2, f38_3, f38_4⟩ := zq5 BK243
  go_wp2_with (first | ((with_reducible refine gtc 83 rfl ?_); refine zgL 28 Try.func83 (soft_either.calls t232 t233 t234 t235 t236 t237 t238 t239 t240 t241 3 false _ A26.out) (h := ?_); rintro w39 hb; replace BK242 := zkb BK242 hb; replace BK243 := zkb BK243 hb; replace HB := zkB HB hb; (try clear hb)))
  go_meet
  case rel => exact ⟨_, (false), zrl, H', ⟨zle⟩, ⟨zkq BK242⟩, ⟨zkq BK243⟩, ⟨zaB⟩⟩
 case rest =>
  clear HC17
  try clear c1
  try clear c2
  try clear p2
  try clear c3
  try clear c7
  try clear c8
  try clear c13
  try clear c22
  try clear c25
  try clear c27
  try clear c29
  try clear c36
  try clear z14_0
  try clear z14_1
  try clear z14_2
  try clear z14_3
  try clear z14_4
  try clear z15_0
  try clear z15_1
  try clear z15_2
  try clear z15_3
  try clear z15_4
  try clear z23_0
  try clear z23_1
  try clear z23_2
  try clear z23_3
  try clear z23_4
  try clear z24_0
  try clear z24_1
  try clear z24_2
  try clear z24_3
  try clear z24_4
  try clear z30_0
  try clear z30_1
  try clear z30_2
  try clear z30_3
  try clear z30_4
  try clear z31_0
  try clear z31_1
  try clear z31_2
  try clear z31_3
  try clear z31_4
  try clear z33_0
  try clear z33_1
  try clear z33_2
  try clear z33_3
  try clear z33_4
  try clear z34_0
  try clear z34_1
  try clear z34_2
  try clear z34_3
  try clear z34_4
  try clear z37_0
  try clear z37_1
  try clear z37_2
  try clear z37_3
  try clear z37_4
  try clear z38_0
  try clear z38_1
  try clear z38_2
  try clear z38_3
  try clear z38_4
  try clear f14_0
  try clear f14_1
  try clear f14_2
  try clear f14_3
  try clear f14_4
  try clear f15_0
  try clear f15_1
  try clear f15_2
  try clear f15_3
  try clear f15_4
  try clear f23_0
  try clear f23_1
  try clear f23_2
  try clear f23_3
  try clear f23_4
  try clear f24_0
  try clear f24_1
  try clear f24_2
  try clear f24_3
  try clear f24_4
  try clear f30_0
  try clear f30_1
  try clear f30_2
  try clear f30_3
  try clear f30_4
  try clear f31_0
  try clear f31_1
  try clear f31_2
  try clear f31_3
  try clear f31_4
  try clear f33_0
  try clear f33_1
  try clear f33_2
  try clear f33_3
  try clear f33_4
  try clear f34_0
  try clear f34_1
  try clear f34_2
  try clear f34_3
  try clear f34_4
  try clear f37_0
  try clear f37_1
  try clear f37_2
  try clear f37_3
  try clear f37_4
  try clear f38_0
  try clear f38_1
  try clear f38_2
  try clear f38_3
  try clear f38_4
  obtain ⟨kq, x25_16, rfl, HA, HJ16, BK242, BK243, HB⟩ := hcut
  cases kq with
  | zero => exact absurd HA.out (by simp [soft_Mul.j0])
  | succ kj16 =>
   have H := HA.out
   clear HA
   simp only [soft_Mul.j0] at H
   by_cases c40 : x25_16 = true
   ·subst c40
    replace H := zit H
    obtain ⟨⟨t248, t249⟩, A41, H⟩ := zbs H
    try dsimp only at H
    simp only [Option.some.injEq, Prod.mk.injEq] at H
    obtain ⟨rfl, rfl⟩ := H
    go_wp2_with (first | ((with_reducible refine gtc 84 rfl ?_); refine zgL 34 Try.func84 (soft_invalid.calls  t248 t249 _ A41.out) (h := ?_); rintro w' ⟨nd, rfl⟩))
    go_ret2
    exact ⟨zaE, zaB⟩
   replace c40 := Bool.eq_false_iff.mpr c40
   subst c40
   replace H := zif H
   obtain ⟨t250, A42, H⟩ := zbs H
   try dsimp only at H
   by_cases c43 : t250 = true
   ·subst c43
    replace H := zit H
    obtain ⟨t251, A44, H⟩ := zbs H
    try dsimp only at H
    simp only [Option.some.injEq, Prod.mk.injEq] at H
    obtain ⟨rfl, rfl⟩ := H
    obtain ⟨_, _⟩ := zsy NB242_243
    obtain ⟨_, _, _, _, _, _, _, _, _, _⟩ := zq5 BK242
    obtain ⟨_, _, _, _, _, _, _, _, _, _⟩ := zq5 BK243
    go_wp2_with (first | ((with_reducible refine gtc 83 rfl ?_); refine zgL 40 Try.func83 (soft_either.calls t232 t233 t234 t235 t236 t237 t238 t239 t240 t241 3 true _ A42.out) (h := ?_); rintro w48 hb; replace BK242 := zkb BK242 hb; replace BK243 := zkb BK243 hb; replace HB := zkB HB hb; (try clear hb)) | ((with_reducible refine gtc 79 rfl ?_); refine zgL 42 Try.func79 (pattern_Inf.calls kj16 (t234 != t239) t251 _ A44.out) (h := ?_); rintro w' ⟨nd, rfl⟩))
    go_ret2
    exact ⟨zaE, zaB⟩
   replace c43 := Bool.eq_false_iff.mpr c43
   subst c43
   replace H := zif H
   obtain ⟨⟨t252, t253⟩, A49, H⟩ := zbs H
   try dsimp only at H
   obtain ⟨⟨t254, t255⟩, A50, H⟩ := zbs H
   try dsimp only at H
   simp only [Option.some.injEq, Prod.mk.injEq] at H
   obtain ⟨rfl, rfl⟩ := H
   obtain ⟨_, _⟩ := zsy NB242_243
   obtain ⟨_, _, _, _, _, _, _, _, _, _⟩ := zq5 BK242
   obtain ⟨_, _, _, _, _, _, _, _, _, _⟩ := zq5 BK243
   try go_wp2_with (first | ((with_reducible refine gtc 83 rfl ?_); refine zgL 40 Try.func83 (soft_either.calls t232 t233 t234 t235 t236 t237 t238 t239 t240 t241 3 false _ A42.out) (h := ?_); rintro w54 hb; replace BK242 := zkb BK242 hb; replace BK243 := zkb BK243 hb; replace HB := zkB HB hb; (try clear hb)))
   replace BK242 := Aside0.mk (blk_drew BK242.out)
   replace BK243 := Aside0.mk (blk_drew BK243.out)
   replace HB := Aside0.mk (below_drew1 HB.out)
   refine start_ (n := 17) (S := fun w' => w'.cell? ⟨gb242, 0, none⟩ = some (.int .u64 t232) ∧ w'.cell? ⟨gb242, 1, none⟩ = some (.int .u8 t233) ∧ w'.cell? ⟨gb242, 2, none⟩ = some (.bool t234) ∧ w'.cell? ⟨gb242, 3, none⟩ = some (.int .u64 t235) ∧ w'.cell? ⟨gb242, 4, none⟩ = some (.int .i64 t236) ∧ w'.cell? ⟨gb243, 0, none⟩ = some (.int .u64 t237) ∧ w'.cell? ⟨gb243, 1, none⟩ = some (.int .u8 t238) ∧ w'.cell? ⟨gb243, 2, none⟩ = some (.bool t239) ∧ w'.cell? ⟨gb243, 3, none⟩ = some (.int .u64 t240) ∧ w'.cell? ⟨gb243, 4, none⟩ = some (.int .i64 t241)) (ds := []) #[false, false, false, false, false, false, false, false, false, false, false, false, false, false, false, false, false] (by kernel_rfl) rfl rfl (zk5 BK242 (ze5 BK243)) (fun hHeld => ?_); refine with_tabW soft_Mul.tab9 soft_Mul.bits9 (fun HT_ HW_ => ?_)
   generalize w54.drew = w55 at BK242 BK243 HB hHeld ⊢
   refine zpA 0 43 (h := ?_)
   refine zpA 1 44 (h := ?_)
   refine zpA 3 46 (h := ?_)
   refine zpA 6 49 (h := ?_)
   refine zpA 8 51 (h := ?_)
   refine zpA 11 54 (h := ?_)
   refine ztA 2 45 (h := ?_)
   refine ztA 4 47 (h := ?_)
   refine ztA 7 50 (h := ?_)
   refine ztA 9 52 (h := ?_)
   refine zpA 10 53 (h := ?_)
   refine zoA 5 48 (h := fun K hK => ?_)
   refine zgA Try.func100 (wide_Mul.calls t235 t240 t252 t253 _ A49.out) (h := ?_)
   rintro w56 hb
   replace BK242 := zkb BK242 hb
   replace BK243 := zkb BK243 hb
   replace HB := zkB HB hb
   (try clear hb)
   refine hK.out _ _ (zk5 BK242 (ze5 BK243)) (fun hHeld => ?_)
   clear hK K
   refine znA 48 (h := ?_)
   refine zoA 12 55 (h := fun K hK => ?_)
   refine zgA Try.func99 (round_Round.calls kj16 (t234 != t239) t252 t253 (wrap64 (t236 + t241)) false a2 t254 t255 _ A50.out) (h := ?_)
   rintro w57 hb
   replace BK242 := zkb BK242 hb
   replace BK243 := zkb BK243 hb
   replace HB := zkB HB hb
   (try clear hb)
   refine hK.out _ _ (zk5 BK242 (ze5 BK243)) (fun hHeld => ?_)
   clear hK K
   refine znA 55 (h := ?_)
   refine zpA 13 56 (h := ?_)
   refine zpA 14 57 (h := ?_)
   refine zpA 15 6 (h := ?_)
   refine zpA 16 7 (h := ?_)
   refine done_ (done_of HT_.out (by kernel_rfl)) ?_
   try go_wp2
   go_ret2
   exact ⟨zaE, zaB⟩
theorem span_zero.calls (k : Nat) (a0 : Int) (r : Bool) (w : World) (h : span_zero.f k a0 = some r) :
  Calls Try.prog 138 #[.int .u64 a0] w fun e w' => e = .returned (.bool r) ∧ Drawn0 w w' := by
 have H : ((pattern_Class.f k a0).bind fun t922 => (some (t922 == 0))) = some r := h
 clear h
 obtain ⟨t922, A2, H⟩ := zbs H
 try dsimp only at H
 obtain rfl := Option.some.inj H
 go_enter Try.func138, Try.ntmps138
 go_wp2_with (first | ((with_reducible refine gtc 24 rfl ?_); refine zgL 4 Try.func24 (pattern_Class.calls k a0 t922 _ A2.out) (h := ?_); rintro w' ⟨nd, rfl⟩))
 go_ret
 exact ⟨by first | rfl | (simp; done) | (simp [*]; done), by repeat (first | exact Drawn0.refl _ | apply Drawn0.step)⟩
theorem span_Mul_1.calls (k : Nat) (a0 : Int) (a1 : Int) (a2 : Int) (r : Int) (w : World) (h : span_Mul_1.f k a0 a1 a2 = some r) :
  Calls Try.prog 137 #[.int .u64 a0, .int .u64 a1, .int .u8 a2] w fun e w' => e = .returned (.int .u64 r) ∧ Below w.heap.size w w' := by
 have HB := Aside0.mk (Below.refl w.heap.size w)
 have H : ((span_zero.f k a0).bind fun t923 => (if t923 = true then (some 0) else ((span_zero.f k a1).bind fun t924 => (if t924 = true then (some 0) else ((soft_Mul.f k a0 a1 a2).bind fun bt925 => (some bt925.1)))))) = some r := h
 clear h
 obtain ⟨t923, A4, H⟩ := zbs H
 try dsimp only at H
 by_cases c5 : t923 = true
 ·subst c5
  replace H := zit H
  obtain rfl := Option.some.inj H
  go_enter Try.func137, Try.ntmps137
  go_wp2_with (first | ((with_reducible refine gtc 138 rfl ?_); refine zgL 10 Try.func138 (span_zero.calls k a0 true _ A4.out) (h := ?_); rintro w' ⟨nd, rfl⟩))
  go_ret
  exact ⟨zaE, zaB⟩
 replace c5 := Bool.eq_false_iff.mpr c5
 subst c5
 replace H := zif H
 obtain ⟨t924, A6, H⟩ := zbs H
 try dsimp only at H
 by_cases c7 : t924 = true
 ·subst c7
  replace H := zit H
  obtain rfl := Option.some.inj H
  go_enter Try.func137, Try.ntmps137
  go_wp2_with (first | ((with_reducible refine gtc 138 rfl ?_); refine zgL 10 Try.func138 (span_zero.calls k a0 false _ A4.out) (h := ?_); rintro w' ⟨nd, rfl⟩) | (go_at_call 138; (with_reducible refine (span_zero.calls k a1 true _ A6.out).mono ?_); rintro e w' ⟨rfl, ⟨nd, rfl⟩⟩))
  go_ret
  exact ⟨zaE, zaB⟩
 replace c7 := Bool.eq_false_iff.mpr c7
 subst c7
 replace H := zif H
 obtain ⟨⟨t925, t926⟩, A8, H⟩ := zbs H
 try dsimp only at H
 obtain rfl := Option.some.inj H
 go_enter Try.func137, Try.ntmps137
 go_wp2_with (first | ((with_reducible refine gtc 138 rfl ?_); refine zgL 10 Try.func138 (span_zero.calls k a0 false _ A4.out) (h := ?_); rintro w' ⟨nd, rfl⟩) | (go_at_call 138; (with_reducible refine (span_zero.calls k a1 false _ A6.out).mono ?_); rintro e w' ⟨rfl, ⟨nd, rfl⟩⟩) | ((with_reducible refine gtc 25 rfl ?_); refine zgL 19 Try.func25 (soft_Mul.calls k a0 a1 a2 t925 t926 _ A8.out) (h := ?_); rintro w9 hb; replace HB := Aside0.mk (below_step zaB hb); (try clear hb)))
 go_ret
 exact ⟨zaE, zaB⟩
def span_Mul_corners.T8 : Bool × List (List Nat × List Nat) := (true, [([], []), ([], []), ([], []), ([], []), ([1, 2, 3], [1, 2, 3]), ([], []), ([], []), ([], []), ([5, 6, 7, 4], [5, 6, 7]), ([4, 8, 8], [4, 8]), ([0, 9], [0, 9]), ([10, 9], [10]), ([11, 11, 0, 1, 2, 3, 4, 5, 6, 7, 8, 9, 10, 11], [11])])
def span_Mul_corners.B8 : List Nat := [0, 0, 0, 0, 14, 0, 0, 0, 254, 510, 1023, 2047, 4095]
theorem span_Mul_corners.tab8 : rtab .any (opsOf Try.f136 8) = span_Mul_corners.T8 := by kernel_rfl
theorem span_Mul_corners.bits8 : waitsOk span_Mul_corners.T8.2 span_Mul_corners.B8 = true := by kernel_rfl
theorem span_Mul_corners.goes (k : Nat) (a0_0 : Bool) (a0_1 : Int) (a0_2 : Int) (a1_0 : Bool) (a1_1 : Int) (a1_2 : Int) (a2 : Int) (r1 : Bool) (r2 : Int) (r3 : Int) (w : World) (h : span_Mul_corners.f k a0_0 a0_1 a0_2 a1_0 a1_1 a1_2 a2 = some (r1, r2, r3)) :
  Calls Try.prog 136 #[.agg #[.bool a0_0, .int .u64 a0_1, .int .u64 a0_2], .agg #[.bool a1_0, .int .u64 a1_1, .int .u64 a1_2], .func (.func 137) #[] #[]] w fun e w' => e = .returned (.agg #[.bool r1, .int .u64 r2, .int .u64 r3]) ∧ Below w.heap.size w w' := by
 have hu_ := Try.underlying43
 have HB := Aside0.mk (Below.refl w.heap.size w)
 have H : ((span_none.f).bind fun bt930 => ((some (([a0_1, a0_2] : List Int) : List Int)).bind fun y934 => (span_Mul_corners.l0 k y934 (y934.length : Int) 0 a1_0 a1_1 a1_2 bt930.1 bt930.2.1 bt930.2.2))) = some (r1, r2, r3) := h
 clear h
 obtain ⟨⟨t930, t931, t932⟩, A4, H⟩ := zbs H
 try dsimp only at H
 obtain ⟨y934, hy934⟩ : ∃ y_ : List Int, y_ = (([a0_1, a0_2] : List Int)) := ⟨_, rfl⟩
 replace H : (span_Mul_corners.l0 k y934 (y934.length : Int) 0 a1_0 a1_1 a1_2 t930 t931 t932) = some (r1, r2, r3) := by first | (rw [hy934]; with_reducible exact H) | (have H2_ := (Option.bind_some _ _).symm.trans H; rw [hy934]; with_reducible exact H2_) | (have H2_ := (Option.bind_some _ _).symm.trans H; with_reducible exact H2_) | with_reducible exact H | (rw [hy934]; exact H) | exact H
 have Ny934 := Aside0.mk hy934
 clear hy934
 have H' := Aside0.mk H
 clear H
 go_enter Try.func136, Try.ntmps136
 go_wp2_with (first | ((with_reducible refine gtd 3 rfl ?_); refine zbx 3 #[.bool a0_0, .int .u64 a0_1, .int .u64 a0_2] 43 (h := ?_); intro gb927 hg w5 hbox hb; have GW927 := zkZ hg (zaB (p := Below w.heap.size w _)); replace HB := Aside0.mk (below_step zaB hb); have BK927 := Aside0.mk (hbox); clear hb hbox hg) | ((with_reducible refine gtd 4 rfl ?_); refine zbx 4 #[.bool a1_0, .int .u64 a1_1, .int .u64 a1_2] 43 (h := ?_); intro gb928 hg w6 hbox hb; have GW928 := zkz HB hg; have NB927_928 := zkl BK927 hg; have NB928_927 := zkr BK927 hg; replace BK927 := zkb BK927 hb; replace HB := zkB HB hb; have BK928 := Aside0.mk (hbox); clear hb hbox hg) | ((with_reducible refine gtd 6 rfl ?_); refine zbx 6 #[.bool false, .int .u64 0, .int .u64 0] 43 (h := ?_); intro gb929 hg w7 hbox hb; have GW929 := zkz HB hg; have NB927_929 := zkl BK927 hg; have NB929_927 := zkr BK927 hg; have NB928_929 := zkl BK928 hg; have NB929_928 := zkr BK928 hg; replace BK927 := zkb BK927 hb; replace BK928 := zkb BK928 hb; replace HB := zkB HB hb; have BK929 := Aside0.mk (hbox); clear hb hbox hg) | ((with_reducible refine gtc 118 rfl ?_); refine zgL 12 Try.func118 (span_none.calls  t930 t931 t932 _ A4.out) (h := ?_); rintro w8 hb; replace BK927 := zkb BK927 hb; replace BK928 := zkb BK928 hb; replace BK929 := zkb BK929 hb; replace HB := zkB HB hb; (try clear hb)) | ((with_reducible refine gtd 7 rfl ?_); refine zbx 7 #[.bool false, .int .u64 0, .int .u64 0] 43 (h := ?_); intro gb933 hg w9 hbox hb; have GW933 := zkz HB hg; have NB927_933 := zkl BK927 hg; have NB933_927 := zkr BK927 hg; have NB928_933 := zkl BK928 hg; have NB933_928 := zkr BK928 hg; have NB929_933 := zkl BK929 hg; have NB933_929 := zkr BK929 hg; replace BK927 := zkb BK927 hb; replace BK928 := zkb BK928 hb; replace BK929 := zkb BK929 hb; replace HB := zkB HB hb; have BK933 := Aside0.mk (hbox); clear hb hbox hg; obtain ⟨_, _⟩ := zsy NB933_927; obtain ⟨_, _⟩ := zsy NB933_928; obtain ⟨_, _⟩ := zsy NB933_929; obtain ⟨z13_0, z13_1, z13_2, f13_0, f13_1, f13_2⟩ := zq3 BK933; obtain ⟨_, _⟩ := zsy NB927_928; obtain ⟨_, _⟩ := zsy NB927_929; obtain ⟨z16_0, z16_1, z16_2, f16_0, f16_1, f16_2⟩ := zq3 BK927) | ((with_reducible refine gtd 17 rfl ?_); refine Kd.R_lit (Kd.int .u64) _ 23 ?hg (N := 17) ?hd (xs := ([a0_1, a0_2] : List Int)) (inner := [.int .u64 a0_1, .int .u64 a0_2]) (ok := fun _ => True) (okp := fun _ => True) ?hr ?hp (fun _ hk => hk) trivial (Below.refl _ _) (Nat.le_refl _) (by simp) ?_; (case hd => rfl); (case hg => rfl); (case hr => first | (go_simp; done) | (go_simp; rfl)); (case hp => exact (Reps.one (show Kd.M (Kd.int .u64) _ _ _ a0_1 [.int .u64 a0_1] from rfl) (Reps.one (show Kd.M (Kd.int .u64) _ _ _ a0_2 [.int .u64 a0_2] from rfl) (Reps.none _ _)))); intro v935 w17 ho18 hb hg_ hnew_; clear hg_ hnew_; (first | rw [← Ny934.out] at ho18 | (simp only [Int.reduceToNat] at ho18; rw [← Ny934.out] at ho18)); have HO936 := Aside0.mk (Kd.R_lower ho18 (below_size zaB)); replace BK927 := Aside0.mk (blk_below (zkf (zkf (zkf BK927.out NB927_933.out _) NB927_933.out _) NB927_933.out _) hb); replace BK928 := Aside0.mk (blk_below (zkf (zkf (zkf BK928.out NB928_933.out _) NB928_933.out _) NB928_933.out _) hb); replace BK929 := Aside0.mk (blk_below (zkf (zkf (zkf BK929.out NB929_933.out _) NB929_933.out _) NB929_933.out _) hb); replace BK933 := Aside0.mk (blk_below (o := .cells #[.bool t930, .int .u64 t931, .int .u64 t932] 43 (0, 0)) (blk_put (cs := #[.bool t930, .int .u64 t931, .int .u64 0]) (blk_put (cs := #[.bool t930, .int .u64 0, .int .u64 0]) (blk_put BK933.out 0 _ rfl) 1 _ rfl) 2 _ rfl) hb); replace HB := Aside0.mk (below_step (below_set (below_set (below_set HB.out GW933.out) GW933.out) GW933.out) hb); clear hb ho18; obtain ⟨Ao19, co19, eo19⟩ := Kd.R_slice HO936.out; subst eo19))
 (try simp only [Act.put, List.setIfInBounds_toArray, List.set_cons_zero, List.set_cons_succ])
 (try simp only [Act.put, List.setIfInBounds_toArray, List.set_cons_zero, List.set_cons_succ])
 go_loopg [19] k (fun kq v19 w' => ∃ (x19_1 : Int) (x934000_1 : Bool) (x934001_1 : Int) (x934002_1 : Int), v19 = .int .i64 x19_1 ∧ Aside0 (span_Mul_corners.l0 kq y934 (y934.length : Int) x19_1 a1_0 a1_1 a1_2 x934000_1 x934001_1 x934002_1 = some (r1, r2, r3)) ∧ Aside0 (kq ≤ k) ∧ Aside0 (Kd.R (Kd.int .u64) 23 w' w.heap.size (fun _ => True) (.slice Ao19 y934.length co19) y934) ∧ Aside0 (w'.heap[gb927]? = some (.cells #[.bool a0_0, .int .u64 a0_1, .int .u64 a0_2] 43 (0, 0))) ∧ Aside0 (w'.heap[gb928]? = some (.cells #[.bool a1_0, .int .u64 a1_1, .int .u64 a1_2] 43 (0, 0))) ∧ Aside0 (w'.heap[gb929]? = some (.cells #[.bool false, .int .u64 0, .int .u64 0] 43 (0, 0))) ∧ Aside0 (w'.heap[gb933]? = some (.cells #[.bool x934000_1, .int .u64 x934001_1, .int .u64 x934002_1] 43 (0, 0))) ∧ Aside0 (Below w.heap.size w w'))
 case atStart => exact ⟨(0), (t930), (t931), (t932), zrl, H', ⟨Nat.le_refl _⟩, ⟨by (with_reducible repeat (first | apply Kd.R_alloc | apply Kd.R_drewN | apply Kd.R_drew)); exact HO936.out⟩, ⟨zkq BK927⟩, ⟨zkq BK928⟩, ⟨zkq BK929⟩, ⟨zkq BK933⟩, ⟨zaB⟩⟩
 case round =>
  clear H'
  try clear c1
  try clear p2
  try clear c10
  try clear c11
  try clear c12
  try clear c13
  try clear c14
  try clear c15
  try clear z13_0
  try clear z13_1
  try clear z13_2
  try clear z16_0
  try clear z16_1
  try clear z16_2
  try clear f13_0
  try clear f13_1
  try clear f13_2
  try clear f16_0
  try clear f16_1
  try clear f16_2
  obtain ⟨x19_1, x934000_1, x934001_1, x934002_1, rfl, HA, HK1, HO_17, BK927, BK928, BK929, BK933, HB⟩ := hrel
  cases gk with
  | zero => exact absurd HA.out (by simp [span_Mul_corners.l0])
  | succ k1 =>
   have H := HA.out
   clear HA
   simp only [span_Mul_corners.l0] at H
   by_cases c20 : x19_1 < (y934.length : Int)
   ·rw [if_pos c20] at H
    have c20b0 : decide (x19_1 < (y934.length : Int)) = true := decide_eq_true c20
    clear c20
    by_cases c21 : 0 ≤ x19_1
    ·rw [if_pos c21] at H
     have c21b0 : decide (0 ≤ x19_1) = true := decide_eq_true c21
     clear c21
     by_cases c22 : x19_1 < (y934.length : Int)
     ·rw [if_pos c22] at H
      have c22b0 : decide (x19_1 < (y934.length : Int)) = true := decide_eq_true c22
      clear c22
      obtain ⟨y938, hy938⟩ : ∃ y_ : List Int, y_ = (([a1_1, a1_2] : List Int)) := ⟨_, rfl⟩
      replace H : (span_Mul_corners.l1 k1 (rd y934 x19_1) y934 (y934.length : Int) x19_1 y938 (y938.length : Int) 0 a1_0 a1_1 a1_2 x934000_1 x934001_1 x934002_1) = some (r1, r2, r3) := by first | (rw [hy938]; with_reducible exact H) | (have H2_ := (Option.bind_some _ _).symm.trans H; rw [hy938]; with_reducible exact H2_) | (have H2_ := (Option.bind_some _ _).symm.trans H; with_reducible exact H2_) | with_reducible exact H | (rw [hy938]; exact H) | exact H
      have Ny938 := Aside0.mk hy938
      clear hy938
      have H' := Aside0.mk H
      clear H
      have p937 : 0 ≤ (x19_1 : Int) := of_decide_eq_true (by first | (with_reducible assumption) | assumption)
      have q937 : x19_1 < (y934.length : Int) := of_decide_eq_true (by first | (with_reducible assumption) | assumption)
      obtain ⟨ad937, e937, hx937_0⟩ := Kd.at_int (Kd.R_reads' HO_17.out).2.2 x19_1 p937 q937
      cases e937
      replace p937 := eq_true p937
      replace q937 := eq_true q937
      obtain ⟨_, _⟩ := zsy NB928_927
      obtain ⟨_, _⟩ := zsy NB928_929
      obtain ⟨_, _⟩ := zsy NB928_933
      obtain ⟨z26_0, z26_1, z26_2, f26_0, f26_1, f26_2⟩ := zq3 BK928
      go_wp2_with (first | ((with_reducible refine gtd 27 rfl ?_); refine Kd.R_lit (Kd.int .u64) _ 23 ?hg (N := 27) ?hd (xs := ([a1_1, a1_2] : List Int)) (inner := [.int .u64 a1_1, .int .u64 a1_2]) (ok := fun _ => True) (okp := fun _ => True) ?hr ?hp (fun _ hk => hk) trivial (Below.refl _ _) (Nat.le_refl _) (by simp) ?_; (case hd => rfl); (case hg => rfl); (case hr => first | (go_simp; done) | (go_simp; rfl)); (case hp => exact (Reps.one (show Kd.M (Kd.int .u64) _ _ _ a1_1 [.int .u64 a1_1] from rfl) (Reps.one (show Kd.M (Kd.int .u64) _ _ _ a1_2 [.int .u64 a1_2] from rfl) (Reps.none _ _)))); intro v939 w27 ho28 hb hg_ hnew_; clear hg_ hnew_; (first | rw [← Ny938.out] at ho28 | (simp only [Int.reduceToNat] at ho28; rw [← Ny938.out] at ho28)); have HO940 := Aside0.mk (Kd.R_lower (Kd.R_new' ho28 (Kd.R_lt (by (with_reducible repeat (first | apply Kd.R_alloc | apply Kd.R_drewN | apply Kd.R_drew)); exact HO_17.out))) (below_size zaB)); replace HO_17 := Aside0.mk (Kd.R_elder' (by (with_reducible repeat (first | apply Kd.R_alloc | apply Kd.R_drewN | apply Kd.R_drew)); exact HO_17.out) (Kd.R_base ho28) hb); replace BK927 := zkb BK927 hb; replace BK928 := zkb BK928 hb; replace BK929 := zkb BK929 hb; replace BK933 := zkb BK933 hb; replace HB := zkB HB hb; clear hb ho28; obtain ⟨Ao29, co29, eo29⟩ := Kd.R_slice HO940.out; subst eo29))
      (try simp only [Act.put, List.setIfInBounds_toArray, List.set_cons_zero, List.set_cons_succ])
      (try simp only [Act.put, List.setIfInBounds_toArray, List.set_cons_zero, List.set_cons_succ])
      go_loopg [29] k1 (fun kq v29 w' => ∃ (x29_2 : Int) (x934000_2 : Bool) (x934001_2 : Int) (x934002_2 : Int), v29 = .int .i64 x29_2 ∧ Aside0 (span_Mul_corners.l1 kq (rd y934 x19_1) y934 (y934.length : Int) x19_1 y938 (y938.length : Int) x29_2 a1_0 a1_1 a1_2 x934000_2 x934001_2 x934002_2 = some (r1, r2, r3)) ∧ Aside0 (kq ≤ k1) ∧ Aside0 (Kd.R (Kd.int .u64) 23 w' w.heap.size (fun k_ => some k_ ≠ ((.slice Ao29 y938.length co29) : Value).ownBlock) (.slice (some ad937) y934.length co19) y934) ∧ Aside0 (Kd.R (Kd.int .u64) 23 w' w.heap.size (fun k_ => some k_ ≠ ((.slice (some ad937) y934.length co19) : Value).ownBlock) (.slice Ao29 y938.length co29) y938) ∧ Aside0 (w'.heap[gb927]? = some (.cells #[.bool a0_0, .int .u64 a0_1, .int .u64 a0_2] 43 (0, 0))) ∧ Aside0 (w'.heap[gb928]? = some (.cells #[.bool a1_0, .int .u64 a1_1, .int .u64 a1_2] 43 (0, 0))) ∧ Aside0 (w'.heap[gb929]? = some (.cells #[.bool false, .int .u64 0, .int .u64 0] 43 (0, 0))) ∧ Aside0 (w'.heap[gb933]? = some (.cells #[.bool x934000_2, .int .u64 x934001_2, .int .u64 x934002_2] 43 (0, 0))) ∧ Aside0 (Below w.heap.size w w'))
      case atStart => exact ⟨(0), (x934000_1), (x934001_1), (x934002_1), zrl, H', ⟨Nat.le_refl _⟩, ⟨by (with_reducible repeat (first | apply Kd.R_alloc | apply Kd.R_drewN | apply Kd.R_drew)); exact Kd.R_mono HO_17.out (fun _ hk => hk.2)⟩, ⟨by (with_reducible repeat (first | apply Kd.R_alloc | apply Kd.R_drewN | apply Kd.R_drew)); exact Kd.R_mono HO940.out (fun _ hk => hk.2)⟩, ⟨zkq BK927⟩, ⟨zkq BK928⟩, ⟨zkq BK929⟩, ⟨zkq BK933⟩, ⟨zaB⟩⟩
      case round =>
       clear H'
       try clear c1
       try clear c2
       try clear p2
       try clear p9
       try clear q9
       try clear hx9
       try clear c10
       try clear c11
       try clear c12
       try clear c13
       try clear c14
       try clear c15
       try clear c20
       try clear c20b0
       try clear c21
       try clear c21b0
       try clear c22
       try clear c22b0
       try clear c23
       try clear c24
       try clear c25
       try clear z13_0
       try clear z13_1
       try clear z13_2
       try clear z16_0
       try clear z16_1
       try clear z16_2
       try clear z26_0
       try clear z26_1
       try clear z26_2
       try clear f13_0
       try clear f13_1
       try clear f13_2
       try clear f16_0
       try clear f16_1
       try clear f16_2
       try clear f26_0
       try clear f26_1
       try clear f26_2
       try clear hx937_0
       try clear p2
       try clear p937
       try clear q937
       obtain ⟨x29_2, x934000_2, x934001_2, x934002_2, rfl, HA, HK2, HO_17, HO_27, BK927, BK928, BK929, BK933, HB⟩ := hrel
       cases gk with
       | zero => exact absurd HA.out (by simp [span_Mul_corners.l1])
       | succ k2 =>
        have H := HA.out
        clear HA
        simp only [span_Mul_corners.l1] at H
        by_cases c30 : x29_2 < (y938.length : Int)
        ·rw [if_pos c30] at H
         have c30b0 : decide (x29_2 < (y938.length : Int)) = true := decide_eq_true c30
         clear c30
         by_cases c31 : 0 ≤ x29_2
         ·rw [if_pos c31] at H
          have c31b0 : decide (0 ≤ x29_2) = true := decide_eq_true c31
          clear c31
          by_cases c32 : x29_2 < (y938.length : Int)
          ·rw [if_pos c32] at H
           have c32b0 : decide (x29_2 < (y938.length : Int)) = true := decide_eq_true c32
           clear c32
           obtain ⟨t942, A33, H⟩ := zbs H
           try dsimp only at H
           obtain ⟨t943, A34, H⟩ := zbs H
           try dsimp only at H
           obtain ⟨⟨t944, t945, t946⟩, A35, H⟩ := zbs H
           try dsimp only at H
           obtain ⟨y947, hy947⟩ : ∃ y_ : List (S43), y_ = (([(⟨x934000_2, x934001_2, x934002_2⟩ : S43), (⟨t944, t945, t946⟩ : S43)] : List (S43))) := ⟨_, rfl⟩
           replace H : ((span_Join.f k2 y947).bind fun bt950 => (span_Mul_corners.l1 k2 (rd y934 x19_1) y934 (y934.length : Int) x19_1 y938 (y938.length : Int) (wrap64 (x29_2 + 1)) a1_0 a1_1 a1_2 bt950.1 bt950.2.1 bt950.2.2)) = some (r1, r2, r3) := by first | (rw [hy947]; with_reducible exact H) | (have H2_ := (Option.bind_some _ _).symm.trans H; rw [hy947]; with_reducible exact H2_) | (have H2_ := (Option.bind_some _ _).symm.trans H; with_reducible exact H2_) | with_reducible exact H | (rw [hy947]; exact H) | exact H
           have Ny947 := Aside0.mk hy947
           clear hy947
           obtain ⟨⟨t950, t951, t952⟩, A36, H⟩ := zbs H
           try dsimp only at H
           have H' := Aside0.mk H
           clear H
           have p941 : 0 ≤ (x29_2 : Int) := of_decide_eq_true (by first | (with_reducible assumption) | assumption)
           have q941 : x29_2 < (y938.length : Int) := of_decide_eq_true (by first | (with_reducible assumption) | assumption)
           obtain ⟨ad941, e941, hx941_0⟩ := Kd.at_int (Kd.R_reads' HO_27.out).2.2 x29_2 p941 q941
           cases e941
           replace p941 := eq_true p941
           replace q941 := eq_true q941
           try go_wp2
           replace HO_17 := Aside0.mk (Kd.R_drew HO_17.out)
           replace HO_27 := Aside0.mk (Kd.R_drew HO_27.out)
           replace BK927 := Aside0.mk (blk_drew BK927.out)
           replace BK928 := Aside0.mk (blk_drew BK928.out)
           replace BK929 := Aside0.mk (blk_drew BK929.out)
           replace BK933 := Aside0.mk (blk_drew BK933.out)
           replace HB := Aside0.mk (below_drew1 HB.out)
           refine start_ (n := 13) (S := fun w' => w'.cell? ⟨gb933, 0, none⟩ = some (.bool x934000_2) ∧ w'.cell? ⟨gb933, 1, none⟩ = some (.int .u64 x934001_2) ∧ w'.cell? ⟨gb933, 2, none⟩ = some (.int .u64 x934002_2)) (ds := [12]) #[false, false, false, false, false, false, false, false, false, false, false, false, false] (by kernel_rfl) rfl rfl (ze3 BK933) (fun hHeld => ?_); refine with_tabW span_Mul_corners.tab8 span_Mul_corners.bits8 (fun HT_ HW_ => ?_)
           generalize wr.drew = w37 at HO_17 HO_27 BK927 BK928 BK929 BK933 HB hHeld ⊢
           refine zpA 1 34 (h := ?_)
           refine zpA 2 35 (h := ?_)
           refine zpA 3 36 (h := ?_)
           refine zpA 5 38 (h := ?_)
           refine zpA 6 39 (h := ?_)
           refine zpA 7 40 (h := ?_)
           refine ztA 0 33 (h := ?_)
           refine zoA 4 37 (h := fun K hK => ?_)
           refine zgW Try.func137 (span_Mul_1.calls k2 (rd y934 x19_1) (rd y938 x29_2) 2 t942 _ A33.out) (h := ?_)
           rintro w38 hb
           replace HO_17 := Aside0.mk (Kd.R_below (by (with_reducible repeat (first | apply Kd.R_alloc | apply Kd.R_drewN | apply Kd.R_drew)); exact HO_17.out) hb)
           replace HO_27 := Aside0.mk (Kd.R_below (by (with_reducible repeat (first | apply Kd.R_alloc | apply Kd.R_drewN | apply Kd.R_drew)); exact HO_27.out) hb)
           replace BK927 := zkb BK927 hb
           replace BK928 := zkb BK928 hb
           replace BK929 := zkb BK929 hb
           replace BK933 := zkb BK933 hb
           replace HB := zkB HB hb
           (try clear hb)
           refine hK.out _ _ (ze3 BK933) (fun hHeld => ?_)
           clear hK K
           refine znA 37 (h := ?_)
           refine zoA 8 41 (h := fun K hK => ?_)
           refine zgW Try.func137 (span_Mul_1.calls k2 (rd y934 x19_1) (rd y938 x29_2) 1 t943 _ A34.out) (h := ?_)
           rintro w39 hb
           replace HO_17 := Aside0.mk (Kd.R_below (by (with_reducible repeat (first | apply Kd.R_alloc | apply Kd.R_drewN | apply Kd.R_drew)); exact HO_17.out) hb)
           replace HO_27 := Aside0.mk (Kd.R_below (by (with_reducible repeat (first | apply Kd.R_alloc | apply Kd.R_drewN | apply Kd.R_drew)); exact HO_27.out) hb)
           replace BK927 := zkb BK927 hb
           replace BK928 := zkb BK928 hb
           replace BK929 := zkb BK929 hb
           replace BK933 := zkb BK933 hb
           replace HB := zkB HB hb
           (try clear hb)
           refine hK.out _ _ (ze3 BK933) (fun hHeld => ?_)
           clear hK K
           refine znA 41 (h := ?_)
           refine zoA 9 42 (h := fun K hK => ?_)
           refine zgA Try.func172 (span_outer.calls k2 t942 t943 t944 t945 t946 _ A35.out) (h := ?_)
           rintro w40 hb
           replace HO_17 := Aside0.mk (Kd.R_below (by (with_reducible repeat (first | apply Kd.R_alloc | apply Kd.R_drewN | apply Kd.R_drew)); exact HO_17.out) hb)
           replace HO_27 := Aside0.mk (Kd.R_below (by (with_reducible repeat (first | apply Kd.R_alloc | apply Kd.R_drewN | apply Kd.R_drew)); exact HO_27.out) hb)
           replace BK927 := zkb BK927 hb
           replace BK928 := zkb BK928 hb
           replace BK929 := zkb BK929 hb
           replace BK933 := zkb BK933 hb
           replace HB := zkB HB hb
           (try clear hb)
           refine hK.out _ _ (ze3 BK933) (fun hHeld => ?_)
           clear hK K
           refine znA 42 (h := ?_)
           refine zoA 10 43 (h := fun K hK => ?_)
           refine Kd.R_lit_step k43 _ 43 ?hg (N := 43) ?hd (xs := ([(⟨x934000_2, x934001_2, x934002_2⟩ : S43), (⟨t944, t945, t946⟩ : S43)] : List (S43))) (inner := [.bool x934000_2, .int .u64 x934001_2, .int .u64 x934002_2, .bool t944, .int .u64 t945, .int .u64 t946]) (ok := fun _ => True) (okp := fun _ => True) ?hr ?hp (fun _ hk => hk) trivial (Below.refl _ _) (Nat.le_refl _) (by simp) ?_; (case hd => rfl); (case hg => rfl); (case hr => first | (go_simp; done) | (go_simp; rfl)); (case hp => exact (Reps.c3 (show Kd.M k43 _ _ _ (⟨x934000_2, x934001_2, x934002_2⟩ : S43) [.bool x934000_2, .int .u64 x934001_2, .int .u64 x934002_2] from (k43_mkM _ _ _ (⟨x934000_2, x934001_2, x934002_2⟩ : S43) )) (Reps.c3 (show Kd.M k43 _ _ _ (⟨t944, t945, t946⟩ : S43) [.bool t944, .int .u64 t945, .int .u64 t946] from (k43_mkM _ _ _ (⟨t944, t945, t946⟩ : S43) )) (Reps.none _ _))))
           intro v948 w41 ho42 hb hg_ hnew_
           clear hg_ hnew_
           (first | rw [← Ny947.out] at ho42 | (simp only [Int.reduceToNat] at ho42; rw [← Ny947.out] at ho42))
           replace HO_17 := Aside0.mk (Kd.R_below (by (with_reducible repeat (first | apply Kd.R_alloc | apply Kd.R_drewN | apply Kd.R_drew)); exact HO_17.out) hb)
           replace HO_27 := Aside0.mk (Kd.R_below (by (with_reducible repeat (first | apply Kd.R_alloc | apply Kd.R_drewN | apply Kd.R_drew)); exact HO_27.out) hb)
           have HO949 := Aside0.mk (Kd.R_lower (Kd.R_newB (Kd.R_newB (Kd.R_newB (Kd.R_newB ho42 (g := gb927) (o := .cells #[.bool a0_0, .int .u64 a0_1, .int .u64 a0_2] 43 (0, 0)) (zkq BK927)) (g := gb928) (o := .cells #[.bool a1_0, .int .u64 a1_1, .int .u64 a1_2] 43 (0, 0)) (zkq BK928)) (g := gb929) (o := .cells #[.bool false, .int .u64 0, .int .u64 0] 43 (0, 0)) (zkq BK929)) (g := gb933) (o := .cells #[.bool x934000_2, .int .u64 x934001_2, .int .u64 x934002_2] 43 (0, 0)) (zkq BK933)) (below_size zaB))
           replace BK927 := zkb BK927 hb
           replace BK928 := zkb BK928 hb
           replace BK929 := zkb BK929 hb
           replace BK933 := zkb BK933 hb
           replace HB := zkB HB hb
           clear hb ho42
           obtain ⟨Ao43, co43, eo43⟩ := Kd.R_slice HO949.out
           (first | subst eo43 | (injection eo43 with f1_ f2_ f3_; have f4_ := f1_.symm; have f5_ := f3_.symm; clear f1_ f2_ f3_; subst f4_; subst f5_))
           refine hK.out _ _ (ze3 BK933) (fun hHeld => ?_)
           clear hK K
           refine znA 43 (h := ?_)
           refine zoA 11 44 (h := fun K hK => ?_)
           refine goes_ Try.func45 (by kernel_rfl) rfl #[.slice Ao43 y947.length co43] (by rfl) rfl rfl (by (try simp only [List.map_toArray, List.map_cons, List.map_nil]); first | done | rfl | (simp only [List.length_drop, List.length_take]; rfl)) ?_
           with_reducible refine (span_Join.calls k2 _ _ y947 t950 t951 t952 _ ?side1 ?side2 A36.out).mono ?_
           (case side1 => repeat (first | exact (Kd.R_reads' HO949.out).2.2 | (with_reducible refine Kd.C_alloc ?_ _) | (with_reducible refine Kd.C_drewN ?_ _) | (with_reducible refine Kd.C_drew ?_)))
           (case side2 => exact (Kd.R_reads' HO949.out).2.1)
           rintro e w44 ⟨rfl, hb⟩
           refine ⟨_, rfl, ?_⟩
           replace HO_17 := Aside0.mk (Kd.R_below (by (with_reducible repeat (first | apply Kd.R_alloc | apply Kd.R_drewN | apply Kd.R_drew)); exact HO_17.out) hb)
           replace HO_27 := Aside0.mk (Kd.R_below (by (with_reducible repeat (first | apply Kd.R_alloc | apply Kd.R_drewN | apply Kd.R_drew)); exact HO_27.out) hb)
           replace HO949 := Aside0.mk (Kd.R_below (by (with_reducible repeat (first | apply Kd.R_alloc | apply Kd.R_drewN | apply Kd.R_drew)); exact HO949.out) hb)
           replace BK927 := zkb BK927 hb
           replace BK928 := zkb BK928 hb
           replace BK929 := zkb BK929 hb
           replace BK933 := zkb BK933 hb
           replace HB := zkB HB hb
           (try clear hb)
           refine hK.out _ _ (ze3 BK933) (fun hHeld => ?_)
           clear hK K
           refine znA 44 (h := ?_)
           refine last_ (i := 12) (N := none) #[true, true, true, true, true, true, true, true, true, true, true, true, true] rfl rfl (one_of HT_.out (by kernel_rfl)) (by decide) (fun K hK => ?_)
           have hs45 := zc0 BK933
           have hfs45 := blk_frozen BK933.out 0
           have hns45_0 := NB927_933.out
           have hns45_1 := NB928_933.out
           have hns45_2 := NB929_933.out
           have hms45_0 := NB933_927.out
           have hms45_1 := NB933_928.out
           have hms45_2 := NB933_929.out
           have hs46 := zc1 BK933
           have hfs46 := blk_frozen BK933.out 1
           have hns46_0 := NB927_933.out
           have hns46_1 := NB928_933.out
           have hns46_2 := NB929_933.out
           have hms46_0 := NB933_927.out
           have hms46_1 := NB933_928.out
           have hms46_2 := NB933_929.out
           have hs47 := zc2 BK933
           have hfs47 := blk_frozen BK933.out 2
           have hns47_0 := NB927_933.out
           have hns47_1 := NB928_933.out
           have hns47_2 := NB929_933.out
           have hms47_0 := NB933_927.out
           have hms47_1 := NB933_928.out
           have hms47_2 := NB933_929.out
           refine skip_ (w1 := ?_) (by rfl) rfl ?_ ?_
           rotate_left
           ·go_simp
            rfl
           refine hK.out _ _ ?_
           clear hK K
           refine done_ (done_of HT_.out (by kernel_rfl)) ?_
           try go_wp2
           go_roundg k2
           case measure => have := HK1.out; have := HK2.out; omega
           case rel => exact ⟨(wrap64 (x29_2 + 1)), (t950), (t951), (t952), zrl, H', ⟨by have := HK1.out; have := HK2.out; omega⟩, ⟨by (with_reducible repeat (first | apply Kd.R_alloc | apply Kd.R_drewN | apply Kd.R_drew)); exact Kd.R_mono (Kd.R_far (p := ⟨gb933, 2, none⟩) (Kd.R_far (p := ⟨gb933, 1, none⟩) (Kd.R_far (p := ⟨gb933, 0, none⟩) (Kd.R_types HO_17.out BK933.out (by decide)) (fun _ hk => hk.2) (.bool t950)) (fun _ hk => hk.2) (.int .u64 t951)) (fun _ hk => hk.2) (.int .u64 t952)) (fun _ hk => hk.1)⟩, ⟨by (with_reducible repeat (first | apply Kd.R_alloc | apply Kd.R_drewN | apply Kd.R_drew)); exact Kd.R_mono (Kd.R_far (p := ⟨gb933, 2, none⟩) (Kd.R_far (p := ⟨gb933, 1, none⟩) (Kd.R_far (p := ⟨gb933, 0, none⟩) (Kd.R_types HO_27.out BK933.out (by decide)) (fun _ hk => hk.2) (.bool t950)) (fun _ hk => hk.2) (.int .u64 t951)) (fun _ hk => hk.2) (.int .u64 t952)) (fun _ hk => hk.1)⟩, ⟨(zkf (zkf (zkf (zkq BK927) NB927_933.out _) NB927_933.out _) NB927_933.out _)⟩, ⟨(zkf (zkf (zkf (zkq BK928) NB928_933.out _) NB928_933.out _) NB928_933.out _)⟩, ⟨(zkf (zkf (zkf (zkq BK929) NB929_933.out _) NB929_933.out _) NB929_933.out _)⟩, ⟨(blk_put (cs := #[.bool t950, .int .u64 t951, .int .u64 x934002_2]) (blk_put (cs := #[.bool t950, .int .u64 x934001_2, .int .u64 x934002_2]) (blk_put (zkq BK933) 0 _ rfl) 1 _ rfl) 2 _ rfl)⟩, ⟨zaB⟩⟩
          rw [if_neg c32] at H
          exact absurd H (by simp)
         rw [if_neg c31] at H
         exact absurd H (by simp)
        rw [if_neg c30] at H
        have c30b0 : decide (x29_2 < (y938.length : Int)) = false := decide_eq_false c30
        clear c30
        have H' := Aside0.mk H
        clear H
        go_wp2
        go_roundg k2
        case measure => have := HK1.out; have := HK2.out; omega
        case rel => exact ⟨(wrap64 (x19_1 + 1)), (x934000_2), (x934001_2), (x934002_2), zrl, H', ⟨by have := HK1.out; have := HK2.out; omega⟩, ⟨by (with_reducible repeat (first | apply Kd.R_alloc | apply Kd.R_drewN | apply Kd.R_drew)); exact Kd.R_mono HO_17.out (fun _ hk => trivial)⟩, ⟨zkq BK927⟩, ⟨zkq BK928⟩, ⟨zkq BK929⟩, ⟨zkq BK933⟩, ⟨zaB⟩⟩
     rw [if_neg c22] at H
     exact absurd H (by simp)
    rw [if_neg c21] at H
    exact absurd H (by simp)
   rw [if_neg c20] at H
   have c20b0 : decide (x19_1 < (y934.length : Int)) = false := decide_eq_false c20
   clear c20
   simp only [Option.some.injEq, Prod.mk.injEq] at H
   obtain ⟨rfl, rfl, rfl⟩ := H
   obtain ⟨_, _⟩ := zsy NB933_927
   obtain ⟨_, _⟩ := zsy NB933_928
   obtain ⟨_, _⟩ := zsy NB933_929
   obtain ⟨_, _, _, _, _, _⟩ := zq3 BK933
   obtain ⟨_, _⟩ := zsy NB929_927
   obtain ⟨_, _⟩ := zsy NB929_928
   obtain ⟨_, _, _, _, _, _⟩ := zq3 BK929
   go_wp2
   refine bodyPost_ret (results_cell_row rfl _ _ gb929 43 #[.bool x934000_1, .int .u64 x934001_1, .int .u64 x934002_1] (0, 0) _ rfl (blk_put (cs := #[.bool x934000_1, .int .u64 x934001_1, .int .u64 0]) (blk_put (cs := #[.bool x934000_1, .int .u64 0, .int .u64 0]) (blk_put (zkq BK929) 0 _ rfl) 1 _ rfl) 2 _ rfl) Try.underlying43 rfl (by kernel_rfl)) rfl ?_
   exact ⟨zaE, zaB⟩
theorem span_Mul.calls (k : Nat) (a0_0 : Bool) (a0_1 : Int) (a0_2 : Int) (a1_0 : Bool) (a1_1 : Int) (a1_2 : Int) (r1 : Bool) (r2 : Int) (r3 : Int) (w : World) (h : span_Mul.f k a0_0 a0_1 a0_2 a1_0 a1_1 a1_2 = some (r1, r2, r3)) :
  Calls Try.prog 67 #[.agg #[.bool a0_0, .int .u64 a0_1, .int .u64 a0_2], .agg #[.bool a1_0, .int .u64 a1_1, .int .u64 a1_2]] w fun e w' => e = .returned (.agg #[.bool r1, .int .u64 r2, .int .u64 r3]) ∧ Below w.heap.size w w' := by
 have hu_ := Try.underlying43
 have HB := Aside0.mk (Below.refl w.heap.size w)
 have H : ((span_norm.f k a0_0 a0_1 a0_2).bind fun bt956 => ((span_norm.f k a1_0 a1_1 a1_2).bind fun bt959 => (if bt956.1 = true then (span_Mul.j0 k true bt956.1 bt956.2.1 bt956.2.2 bt959.1 bt959.2.1 bt959.2.2) else (span_Mul.j0 k bt959.1 bt956.1 bt956.2.1 bt956.2.2 bt959.1 bt959.2.1 bt959.2.2)))) = some (r1, r2, r3) := h
 clear h
 obtain ⟨⟨t956, t957, t958⟩, A3, H⟩ := zbs H
 try dsimp only at H
 obtain ⟨⟨t959, t960, t961⟩, A4, H⟩ := zbs H
 try dsimp only at H
 have HC5 := Aside0.mk H
 clear H
 go_enter Try.func67, Try.ntmps67
 try go_wp2_with (first | ((with_reducible refine gtd 2 rfl ?_); refine zbx 2 #[.bool a0_0, .int .u64 a0_1, .int .u64 a0_2] 43 (h := ?_); intro gb953 hg w6 hbox hb; have GW953 := zkZ hg (zaB (p := Below w.heap.size w _)); replace HB := Aside0.mk (below_step zaB hb); have BK953 := Aside0.mk (hbox); clear hb hbox hg) | ((with_reducible refine gtd 3 rfl ?_); refine zbx 3 #[.bool a1_0, .int .u64 a1_1, .int .u64 a1_2] 43 (h := ?_); intro gb954 hg w7 hbox hb; have GW954 := zkz HB hg; have NB953_954 := zkl BK953 hg; have NB954_953 := zkr BK953 hg; replace BK953 := zkb BK953 hb; replace HB := zkB HB hb; have BK954 := Aside0.mk (hbox); clear hb hbox hg) | ((with_reducible refine gtd 4 rfl ?_); refine zbx 4 #[.bool false, .int .u64 0, .int .u64 0] 43 (h := ?_); intro gb955 hg w8 hbox hb; have GW955 := zkz HB hg; have NB953_955 := zkl BK953 hg; have NB955_953 := zkr BK953 hg; have NB954_955 := zkl BK954 hg; have NB955_954 := zkr BK954 hg; replace BK953 := zkb BK953 hb; replace BK954 := zkb BK954 hb; replace HB := zkB HB hb; have BK955 := Aside0.mk (hbox); clear hb hbox hg))
 replace BK953 := Aside0.mk (blk_drew BK953.out)
 replace BK954 := Aside0.mk (blk_drew BK954.out)
 replace BK955 := Aside0.mk (blk_drew BK955.out)
 replace HB := Aside0.mk (below_drew1 HB.out)
 refine start_ (n := 6) (S := fun w' => w'.cell? ⟨gb953, 0, none⟩ = some (.bool a0_0) ∧ w'.cell? ⟨gb953, 1, none⟩ = some (.int .u64 a0_1) ∧ w'.cell? ⟨gb953, 2, none⟩ = some (.int .u64 a0_2) ∧ w'.cell? ⟨gb954, 0, none⟩ = some (.bool a1_0) ∧ w'.cell? ⟨gb954, 1, none⟩ = some (.int .u64 a1_1) ∧ w'.cell? ⟨gb954, 2, none⟩ = some (.int .u64 a1_2)) (ds := [4, 5]) #[false, false, false, false, false, false] (by kernel_rfl) rfl rfl (zk3 BK953 (ze3 BK954)) (fun hHeld => ?_)
 generalize w8.drew = w9 at BK953 BK954 BK955 HB hHeld ⊢
 refine take_ (i := 0) (N := some 5) (v := ?_) (a' := ?_) #[true, false, false, false, false, false] rfl rfl (by kernel_rfl) (fun _ _ _ h => h) (Or.inl ⟨by rfl, ?_⟩) hHeld ?_ ?_
 rotate_left
 ·rintro w' ⟨s0, s1, s2, s3, s4, s5⟩
  go_simp
  with_reducible rfl
 rotate_left
 ·simp only [Act.put, List.setIfInBounds_toArray, List.set_cons_zero, List.set_cons_succ, i64_w, i32_w]
  rfl
 refine take_ (i := 2) (N := some 7) (v := ?_) (a' := ?_) #[true, false, true, false, false, false] rfl rfl (by kernel_rfl) (fun _ _ _ h => h) (Or.inl ⟨by rfl, ?_⟩) hHeld ?_ ?_
 rotate_left
 ·rintro w' ⟨s0, s1, s2, s3, s4, s5⟩
  go_simp
  with_reducible rfl
 rotate_left
 ·simp only [Act.put, List.setIfInBounds_toArray, List.set_cons_zero, List.set_cons_succ, i64_w, i32_w]
  rfl
 refine one_ (i := 1) (N := some 6) #[true, true, true, false, false, false] rfl rfl (by kernel_rfl) (by decide) (fun K hK => ?_)
 refine zgA Try.func112 (span_norm.calls k a0_0 a0_1 a0_2 t956 t957 t958 _ A3.out) (h := ?_)
 rintro w10 hb
 replace BK953 := zkb BK953 hb
 replace BK954 := zkb BK954 hb
 replace BK955 := zkb BK955 hb
 replace HB := zkB HB hb
 (try clear hb)
 refine hK.out _ _ (zk3 BK953 (ze3 BK954)) (fun hHeld => ?_)
 clear hK K
 refine znA 6 (h := ?_)
 refine one_ (i := 3) (N := some 8) #[true, true, true, true, false, false] rfl rfl (by kernel_rfl) (by decide) (fun K hK => ?_)
 refine zgA Try.func112 (span_norm.calls k a1_0 a1_1 a1_2 t959 t960 t961 _ A4.out) (h := ?_)
 rintro w11 hb
 replace BK953 := zkb BK953 hb
 replace BK954 := zkb BK954 hb
 replace BK955 := zkb BK955 hb
 replace HB := zkB HB hb
 (try clear hb)
 refine hK.out _ _ (zk3 BK953 (ze3 BK954)) (fun hHeld => ?_)
 clear hK K
 refine znA 8 (h := ?_)
 refine last_ (i := 4) (N := none) #[true, true, true, true, true, false] rfl rfl (by kernel_rfl) (by decide) (fun K hK => ?_)
 have hs12 := zc0 BK953
 have hfs12 := blk_frozen BK953.out 0
 have hns12_1 := NB954_953.out
 have hns12_2 := NB955_953.out
 have hms12_1 := NB953_954.out
 have hms12_2 := NB953_955.out
 have hs13 := zc1 BK953
 have hfs13 := blk_frozen BK953.out 1
 have hns13_1 := NB954_953.out
 have hns13_2 := NB955_953.out
 have hms13_1 := NB953_954.out
 have hms13_2 := NB953_955.out
 have hs14 := zc2 BK953
 have hfs14 := blk_frozen BK953.out 2
 have hns14_1 := NB954_953.out
 have hns14_2 := NB955_953.out
 have hms14_1 := NB953_954.out
 have hms14_2 := NB953_955.out
 refine skip_ (w1 := ?_) (by rfl) rfl ?_ ?_
 rotate_left
 ·go_simp
  rfl
 refine hK.out _ _ ?_
 clear hK K
 refine last_ (i := 5) (N := none) #[true, true, true, true, true, true] rfl rfl (by kernel_rfl) (by decide) (fun K hK => ?_)
 have hs15 := zc0 BK954
 have hfs15 := blk_frozen BK954.out 0
 have hns15_0 := NB953_954.out
 have hns15_2 := NB955_954.out
 have hms15_0 := NB954_953.out
 have hms15_2 := NB954_955.out
 have hs16 := zc1 BK954
 have hfs16 := blk_frozen BK954.out 1
 have hns16_0 := NB953_954.out
 have hns16_2 := NB955_954.out
 have hms16_0 := NB954_953.out
 have hms16_2 := NB954_955.out
 have hs17 := zc2 BK954
 have hfs17 := blk_frozen BK954.out 2
 have hns17_0 := NB953_954.out
 have hns17_2 := NB955_954.out
 have hms17_0 := NB954_953.out
 have hms17_2 := NB954_955.out
 refine skip_ (w1 := ?_) (by rfl) rfl ?_ ?_
 rotate_left
 ·go_simp
  rfl
 refine hK.out _ _ ?_
 clear hK K
 refine done_ (by kernel_rfl) ?_
 go_upto_region 2 with (fail)
 go_cut [14] (fun v14 wc => ∃ (kq : Nat) (x14_4 : Bool), v14 = .bool x14_4 ∧ Aside0 (span_Mul.j0 kq x14_4 t956 t957 t958 t959 t960 t961 = some (r1, r2, r3)) ∧ Aside0 (kq ≤ k) ∧ Aside0 (wc.heap[gb953]? = some (.cells #[.bool t956, .int .u64 t957, .int .u64 t958] 43 (0, 0))) ∧ Aside0 (wc.heap[gb954]? = some (.cells #[.bool t959, .int .u64 t960, .int .u64 t961] 43 (0, 0))) ∧ Aside0 (wc.heap[gb955]? = some (.cells #[.bool false, .int .u64 0, .int .u64 0] 43 (0, 0))) ∧ Aside0 (Below w.heap.size w wc))
 case first =>
  have H := HC5.out
  clear HC5
  by_cases c18 : t956 = true
  ·subst c18
   replace H := zit H
   have H' := Aside0.mk H
   clear H
   obtain ⟨_, _⟩ := zsy NB953_954
   obtain ⟨_, _⟩ := zsy NB953_955
   obtain ⟨z21_0, z21_1, z21_2, f21_0, f21_1, f21_2⟩ := zq3 BK953
   go_wp2
   go_meet
   case rel => exact ⟨_, (true), zrl, H', ⟨zle⟩, ⟨(zkf (zkf (zkf (blk_put (cs := #[.bool true, .int .u64 t957, .int .u64 a0_2]) (blk_put (cs := #[.bool true, .int .u64 a0_1, .int .u64 a0_2]) (blk_put (zkq BK953) 0 _ rfl) 1 _ rfl) 2 _ rfl) NB953_954.out _) NB953_954.out _) NB953_954.out _)⟩, ⟨(blk_put (cs := #[.bool t959, .int .u64 t960, .int .u64 a1_2]) (blk_put (cs := #[.bool t959, .int .u64 a1_1, .int .u64 a1_2]) (blk_put (zkf (zkf (zkf (zkq BK954) NB954_953.out _) NB954_953.out _) NB954_953.out _) 0 _ rfl) 1 _ rfl) 2 _ rfl)⟩, ⟨(zkf (zkf (zkf (zkf (zkf (zkf (zkq BK955) NB955_953.out _) NB955_953.out _) NB955_953.out _) NB955_954.out _) NB955_954.out _) NB955_954.out _)⟩, ⟨zaB⟩⟩
  replace c18 := Bool.eq_false_iff.mpr c18
  subst c18
  replace H := zif H
  have H' := Aside0.mk H
  clear H
  obtain ⟨_, _⟩ := zsy NB953_954
  obtain ⟨_, _⟩ := zsy NB953_955
  obtain ⟨z24_0, z24_1, z24_2, f24_0, f24_1, f24_2⟩ := zq3 BK953
  obtain ⟨_, _⟩ := zsy NB954_955
  obtain ⟨z26_0, z26_1, z26_2, f26_0, f26_1, f26_2⟩ := zq3 BK954
  go_wp2
  go_meet
  case rel => exact ⟨_, (t959), zrl, H', ⟨zle⟩, ⟨(zkf (zkf (zkf (blk_put (cs := #[.bool false, .int .u64 t957, .int .u64 a0_2]) (blk_put (cs := #[.bool false, .int .u64 a0_1, .int .u64 a0_2]) (blk_put (zkq BK953) 0 _ rfl) 1 _ rfl) 2 _ rfl) NB953_954.out _) NB953_954.out _) NB953_954.out _)⟩, ⟨(blk_put (cs := #[.bool t959, .int .u64 t960, .int .u64 a1_2]) (blk_put (cs := #[.bool t959, .int .u64 a1_1, .int .u64 a1_2]) (blk_put (zkf (zkf (zkf (zkq BK954) NB954_953.out _) NB954_953.out _) NB954_953.out _) 0 _ rfl) 1 _ rfl) 2 _ rfl)⟩, ⟨(zkf (zkf (zkf (zkf (zkf (zkf (zkq BK955) NB955_953.out _) NB955_953.out _) NB955_953.out _) NB955_954.out _) NB955_954.out _) NB955_954.out _)⟩, ⟨zaB⟩⟩
 case rest =>
  clear HC5
  try clear c1
  try clear c2
  try clear p2
  try clear c6
  try clear c11
  try clear c18
  try clear c19
  try clear c20
  try clear c22
  try clear c23
  try clear c25
  try clear z21_0
  try clear z21_1
  try clear z21_2
  try clear z24_0
  try clear z24_1
  try clear z24_2
  try clear z26_0
  try clear z26_1
  try clear z26_2
  try clear f21_0
  try clear f21_1
  try clear f21_2
  try clear f24_0
  try clear f24_1
  try clear f24_2
  try clear f26_0
  try clear f26_1
  try clear f26_2
  obtain ⟨kq, x14_4, rfl, HA, HJ4, BK953, BK954, BK955, HB⟩ := hcut
  cases kq with
  | zero => exact absurd HA.out (by simp [span_Mul.j0])
  | succ kj4 =>
   have H := HA.out
   clear HA
   simp only [span_Mul.j0] at H
   by_cases c27 : x14_4 = true
   ·subst c27
    replace H := zit H
    obtain ⟨⟨t962, t963, t964⟩, A28, H⟩ := zbs H
    try dsimp only at H
    simp only [Option.some.injEq, Prod.mk.injEq] at H
    obtain ⟨rfl, rfl, rfl⟩ := H
    go_wp2_with (first | ((with_reducible refine gtc 118 rfl ?_); refine zgL 15 Try.func118 (span_none.calls  t962 t963 t964 _ A28.out) (h := ?_); rintro w29 hb; replace BK953 := zkb BK953 hb; replace BK954 := zkb BK954 hb; replace BK955 := zkb BK955 hb; replace HB := zkB HB hb; (try clear hb); obtain ⟨_, _⟩ := zsy NB955_953; obtain ⟨_, _⟩ := zsy NB955_954; obtain ⟨_, _, _, _, _, _⟩ := zq3 BK955))
    refine bodyPost_ret (results_cell_row rfl _ _ gb955 43 #[.bool t962, .int .u64 t963, .int .u64 t964] (0, 0) _ rfl (blk_put (cs := #[.bool t962, .int .u64 t963, .int .u64 0]) (blk_put (cs := #[.bool t962, .int .u64 0, .int .u64 0]) (blk_put (zkq BK955) 0 _ rfl) 1 _ rfl) 2 _ rfl) Try.underlying43 rfl (by kernel_rfl)) rfl ?_
    exact ⟨zaE, zaB⟩
   replace c27 := Bool.eq_false_iff.mpr c27
   subst c27
   replace H := zif H
   obtain ⟨⟨t965, t966, t967⟩, A33, H⟩ := zbs H
   try dsimp only at H
   simp only [Option.some.injEq, Prod.mk.injEq] at H
   obtain ⟨rfl, rfl, rfl⟩ := H
   obtain ⟨_, _⟩ := zsy NB953_954
   obtain ⟨_, _⟩ := zsy NB953_955
   obtain ⟨_, _, _, _, _, _⟩ := zq3 BK953
   obtain ⟨_, _⟩ := zsy NB954_955
   obtain ⟨_, _, _, _, _, _⟩ := zq3 BK954
   go_wp2_with (first | ((with_reducible refine gtc 136 rfl ?_); refine zgL 18 Try.func136 (span_Mul_corners.goes kj4 t956 t957 t958 t959 t960 t961 0 t965 t966 t967 _ A33.out) (h := ?_); rintro w39 hb; replace BK953 := zkb BK953 hb; replace BK954 := zkb BK954 hb; replace BK955 := zkb BK955 hb; replace HB := zkB HB hb; (try clear hb); obtain ⟨_, _, _, _, _, _⟩ := zq3 BK955))
   refine bodyPost_ret (results_cell_row rfl _ _ gb955 43 #[.bool t965, .int .u64 t966, .int .u64 t967] (0, 0) _ rfl (blk_put (cs := #[.bool t965, .int .u64 t966, .int .u64 0]) (blk_put (cs := #[.bool t965, .int .u64 0, .int .u64 0]) (blk_put (zkq BK955) 0 _ rfl) 1 _ rfl) 2 _ rfl) Try.underlying43 rfl (by kernel_rfl)) rfl ?_
   exact ⟨zaE, zaB⟩
theorem soft_zero.calls (k : Nat) (a0 : Bool) (r : Int) (w : World) (h : soft_zero.f k a0 = some r) :
  Calls Try.prog 85 #[.bool a0] w fun e w' => e = .returned (.int .u64 r) ∧ Drawn0 w w' := by
 have H : ((pattern_Make.f k a0 0 0).bind fun bt115 => (some bt115.1)) = some r := h
 clear h
 obtain ⟨⟨t115, t116⟩, A2, H⟩ := zbs H
 try dsimp only at H
 obtain rfl := Option.some.inj H
 go_enter Try.func85, Try.ntmps85
 go_wp2_with (first | ((with_reducible refine gtc 150 rfl ?_); refine zgL 7 Try.func150 (pattern_Make.calls k a0 0 0 t115 t116 _ A2.out) (h := ?_); rintro w' ⟨nd, rfl⟩))
 go_ret
 exact ⟨by first | rfl | (simp; done) | (simp [*]; done), by repeat (first | exact Drawn0.refl _ | apply Drawn0.step)⟩
theorem bits_LeadingZeros64.calls (a0 : Int) (r : Int) (w : World) (h : bits_LeadingZeros64.f a0 = some r) :
  Calls Try.prog 186 #[.int .u64 a0] w fun e w' => e = .returned (.int .i64 r) ∧ Drawn0 w w' := by
 unfold bits_LeadingZeros64.f at h
 split at h
 ·rename_i g
  obtain rfl := Option.some.inj h
  exact (Try.bits_LeadingZeros64 a0 w g.1 g.2).mono fun e w' ⟨h1, h2⟩ => ⟨h1, h2 ▸ Drawn0.refl _⟩
 cases h
end Go.Proofs.Ytmadjhmecfbcmaa.F
end
section
namespace Go.Proofs.Ytmadjhmecfbcmaa.M
def sh (X : Nat) : Nat := if X < 18014398509481984 then 1 else X.log2 - 52
def wd (X : Nat) : Nat := X / 2 ^ sh X
def hf (X : Nat) : Bool := X / 2 ^ (sh X - 1) % 2 == 1
def rs (X : Nat) (s : Bool) : Bool := s || X % 2 ^ (sh X - 1) != 0
def fk (X : Nat) : Nat := (sh X - 1) * 4503599627370496 + wd X
def magk (k : Nat) : Nat := if k / 4503599627370496 = 0 then k % 4503599627370496 else (4503599627370496 + k % 4503599627370496) * 2 ^ (k / 4503599627370496 - 1)
def dir (neg : Bool) (mode : Nat) : Nat := if mode = 1 then (if neg then 2 else 1) else if mode = 2 then (if neg then 1 else 2) else 0
def upw (X : Nat) (s : Bool) (d : Nat) : Bool :=
  if d = 1 then hf X || rs X s else if d = 2 then false else hf X && (rs X s || X / 2 ^ sh X % 2 == 1)
def kk (X : Nat) (s : Bool) (d : Nat) : Nat := fk X + (if upw X s d then 1 else 0)
def rnd (X : Nat) (s : Bool) (d : Nat) : Nat × Nat :=
  if kk X s d ≥ 9218868437227405312 then (if d = 2 then 9218868437227405311 else 9218868437227405312, 5)
  else (kk X s d, if hf X || rs X s then (if X < 9007199254740992 then 3 else 1) else 0)
def sg (neg : Bool) : Nat := if neg then 9223372036854775808 else 0
def RND (neg : Bool) (X : Nat) (s : Bool) (mode : Nat) : Nat × Nat :=
  (sg neg + (rnd X s (dir neg mode)).1, (rnd X s (dir neg mode)).2)
theorem RND_over {neg : Bool} {X : Nat} {s : Bool} {mode : Nat} (h : 9218868437227405312 ≤ kk X s (dir neg mode)) :
    RND neg X s mode = (sg neg + (if dir neg mode = 2 then 9218868437227405311 else 9218868437227405312), 5) := by
  unfold RND rnd; rw [if_pos h]
theorem RND_in {neg : Bool} {X : Nat} {s : Bool} {mode : Nat} (h : ¬ 9218868437227405312 ≤ kk X s (dir neg mode)) :
    RND neg X s mode = (sg neg + kk X s (dir neg mode), if hf X || rs X s then (if X < 9007199254740992 then 3 else 1) else 0) := by
  unfold RND rnd; rw [if_neg h]
theorem sh_cases (X : Nat) : (sh X = 1 ∧ X < 18014398509481984) ∨ (2 ≤ sh X ∧ 2 ^ (sh X + 52) ≤ X ∧ X < 2 ^ (sh X + 53)) := by
  unfold sh
  split
  · left; omega
  · right
    have h0 : X ≠ 0 := by omega
    have h1 : 54 ≤ X.log2 := by rw [Nat.le_log2 h0]; omega
    have h2 := Nat.log2_self_le h0
    have h3 : X < 2 ^ (X.log2 + 1) := Nat.lt_log2_self
    refine ⟨by omega, ?_, ?_⟩
    · rw [show X.log2 - 52 + 52 = X.log2 by omega]; exact h2
    · rw [show X.log2 - 52 + 53 = X.log2 + 1 by omega]; exact h3
theorem sh_pos (X : Nat) : 1 ≤ sh X := by rcases sh_cases X with h | h <;> omega
theorem two_pos (n : Nat) : 0 < 2 ^ n := Nat.two_pow_pos n
theorem pow_le {a b : Nat} (h : a ≤ b) : 2 ^ a ≤ 2 ^ b := Nat.pow_le_pow_right (by omega) h
theorem sh_unique {X t : Nat} (h : (t = 1 ∧ X < 18014398509481984) ∨ (2 ≤ t ∧ 2 ^ (t + 52) ≤ X ∧ X < 2 ^ (t + 53))) : sh X = t := by
  rcases h with ⟨rfl, h⟩ | ⟨h1, h2, h3⟩
  · unfold sh; rw [if_pos h]
  · have h4 : 2 ^ 54 ≤ 2 ^ (t + 52) := pow_le (by omega)
    have h5 : ¬ X < 18014398509481984 := by omega
    have h0 : X ≠ 0 := by omega
    unfold sh; rw [if_neg h5]
    have a1 : t + 52 ≤ X.log2 := by rw [Nat.le_log2 h0]; exact h2
    have a2 : X.log2 < t + 53 := by rw [Nat.log2_lt h0]; exact h3
    omega
theorem wd_lt (X : Nat) : wd X < 9007199254740992 := by
  unfold wd
  rw [Nat.div_lt_iff_lt_mul (two_pos _)]
  rcases sh_cases X with ⟨h1, h2⟩ | ⟨_, _, h3⟩
  · rw [h1]; omega
  · rw [Nat.pow_add] at h3; omega
theorem wd_ge (X : Nat) (h : 2 ≤ sh X) : 4503599627370496 ≤ wd X := by
  unfold wd
  rw [Nat.le_div_iff_mul_le (two_pos _)]
  rcases sh_cases X with ⟨h1, _⟩ | ⟨_, h2, _⟩
  · omega
  · rw [Nat.pow_add] at h2; omega
theorem magk_parts (t w : Nat) (h : (t = 1 ∧ w < 9007199254740992) ∨ (2 ≤ t ∧ 4503599627370496 ≤ w ∧ w < 9007199254740992)) :
    magk ((t - 1) * 4503599627370496 + w) = w * 2 ^ (t - 1) := by
  unfold magk
  by_cases hw : w < 4503599627370496
  · have ht : t = 1 := by omega
    subst ht
    rw [if_pos (by omega), show (1 - 1) * 4503599627370496 + w = w by omega, Nat.mod_eq_of_lt hw, show (1 - 1 : Nat) = 0 from rfl, Nat.pow_zero, Nat.mul_one]
  · have e1 : ((t - 1) * 4503599627370496 + w) / 4503599627370496 = t := by omega
    have e2 : ((t - 1) * 4503599627370496 + w) % 4503599627370496 = w - 4503599627370496 := by omega
    rw [e1, e2, if_neg (by omega)]
    rw [show 4503599627370496 + (w - 4503599627370496) = w by omega]
theorem magk_parts_succ (t w : Nat) (h : (t = 1 ∧ w < 9007199254740992) ∨ (2 ≤ t ∧ 4503599627370496 ≤ w ∧ w < 9007199254740992)) :
    magk ((t - 1) * 4503599627370496 + w + 1) = (w + 1) * 2 ^ (t - 1) := by
  by_cases hw : w + 1 < 9007199254740992
  · rw [Nat.add_assoc]; exact magk_parts t (w + 1) (by omega)
  · have hw : w = 9007199254740991 := by omega
    have ht : 1 ≤ t := by omega
    have := magk_parts (t + 1) 4503599627370496 (by omega)
    rw [show t + 1 - 1 = t by omega] at this
    rw [show (t - 1) * 4503599627370496 + w + 1 = t * 4503599627370496 + 4503599627370496 by omega, this]
    obtain ⟨u, rfl⟩ : ∃ u, t = u + 1 := ⟨t - 1, by omega⟩
    rw [show u + 1 - 1 = u by omega, Nat.pow_succ, show w + 1 = 4503599627370496 * 2 by omega]; grind
theorem key_parts (k : Nat) : ∃ t w, k = (t - 1) * 4503599627370496 + w ∧ ((t = 1 ∧ w < 9007199254740992) ∨ (2 ≤ t ∧ 4503599627370496 ≤ w ∧ w < 9007199254740992)) := by
  by_cases h : k < 9007199254740992
  · exact ⟨1, k, by omega, by omega⟩
  · exact ⟨k / 4503599627370496, k % 4503599627370496 + 4503599627370496, by omega, by omega⟩
theorem magk_lt_succ (k : Nat) : magk k < magk (k + 1) := by
  obtain ⟨t, w, rfl, h⟩ := key_parts k
  rw [magk_parts t w h, magk_parts_succ t w h]
  exact Nat.mul_lt_mul_of_pos_right (by omega) (two_pos _)
theorem magk_strict {a b : Nat} (h : a < b) : magk a < magk b := by
  induction b with
  | zero => omega
  | succ b ih =>
    by_cases e : a = b
    · subst e; exact magk_lt_succ a
    · exact Nat.lt_trans (ih (by omega)) (magk_lt_succ b)
theorem magk_mono {a b : Nat} (h : a ≤ b) : magk a ≤ magk b := by
  by_cases e : a = b
  · subst e; exact Nat.le_refl _
  · exact Nat.le_of_lt (magk_strict (by omega))
theorem magk_le_iff {a b : Nat} : magk a ≤ magk b ↔ a ≤ b := by
  constructor
  · intro h; by_cases e : a ≤ b
    · exact e
    · exact absurd (magk_strict (a := b) (b := a) (by omega)) (by omega)
  · exact magk_mono
theorem magk_inj {a b : Nat} (h : magk a = magk b) : a = b := by
  have h1 := magk_le_iff.1 (Nat.le_of_eq h)
  have h2 := magk_le_iff.1 (Nat.le_of_eq h.symm)
  omega
theorem fk_parts (X : Nat) : (sh X = 1 ∧ wd X < 9007199254740992) ∨ (2 ≤ sh X ∧ 4503599627370496 ≤ wd X ∧ wd X < 9007199254740992) := by
  have h1 := wd_lt X
  have h2 := sh_pos X
  by_cases h : sh X = 1
  · left; omega
  · right; have := wd_ge X (by omega); omega
theorem two_magk_fk (X : Nat) : 2 * magk (fk X) = wd X * 2 ^ sh X := by
  unfold fk
  rw [magk_parts _ _ (fk_parts X)]
  obtain ⟨u, hu⟩ : ∃ u, sh X = u + 1 := ⟨sh X - 1, by have := sh_pos X; omega⟩
  rw [hu, show u + 1 - 1 = u by omega, Nat.pow_succ]; grind
theorem two_magk_fk_succ (X : Nat) : 2 * magk (fk X + 1) = (wd X + 1) * 2 ^ sh X := by
  unfold fk
  rw [magk_parts_succ _ _ (fk_parts X)]
  obtain ⟨u, hu⟩ : ∃ u, sh X = u + 1 := ⟨sh X - 1, by have := sh_pos X; omega⟩
  rw [hu, show u + 1 - 1 = u by omega, Nat.pow_succ]; grind
theorem fk_le (X : Nat) : 2 * magk (fk X) ≤ X := by
  rw [two_magk_fk]; exact Nat.div_mul_le_self _ _
theorem fk_lt (X : Nat) : X < 2 * magk (fk X + 1) := by
  rw [two_magk_fk_succ]; unfold wd
  exact Nat.lt_mul_of_div_lt (by omega) (two_pos _)
theorem fk_iff (X k : Nat) : 2 * magk k ≤ X ↔ k ≤ fk X := by
  constructor
  · intro h
    by_cases e : k ≤ fk X
    · exact e
    · have := magk_mono (a := fk X + 1) (b := k) (by omega)
      have := fk_lt X
      omega
  · intro h
    have := magk_mono h
    have := fk_le X
    omega
theorem fk_mono {X Y : Nat} (h : X ≤ Y) : fk X ≤ fk Y := by
  rw [← fk_iff]; have := fk_le X; omega
theorem mid_eq (X : Nat) : magk (fk X) + magk (fk X + 1) = (2 * wd X + 1) * 2 ^ (sh X - 1) := by
  have h1 := two_magk_fk X
  have h2 := two_magk_fk_succ X
  obtain ⟨u, hu⟩ : ∃ u, sh X = u + 1 := ⟨sh X - 1, by have := sh_pos X; omega⟩
  rw [hu, Nat.pow_succ] at h1 h2
  rw [hu, show u + 1 - 1 = u by omega]
  have e1 : (2 * wd X + 1) * 2 ^ u = 2 * (wd X * 2 ^ u) + 2 ^ u := by rw [Nat.add_mul, Nat.mul_assoc]; omega
  have e2 : (wd X + 1) * (2 ^ u * 2) = 2 * (wd X * 2 ^ u) + 2 * 2 ^ u := by rw [Nat.add_mul, ← Nat.mul_assoc]; omega
  have e3 : wd X * (2 ^ u * 2) = 2 * (wd X * 2 ^ u) := by rw [← Nat.mul_assoc]; omega
  omega
theorem X_parts (X : Nat) : X = wd X * 2 ^ sh X + (if hf X then 1 else 0) * 2 ^ (sh X - 1) + X % 2 ^ (sh X - 1) := by
  obtain ⟨u, hu⟩ : ∃ u, sh X = u + 1 := ⟨sh X - 1, by have := sh_pos X; omega⟩
  unfold wd hf
  rw [hu, show u + 1 - 1 = u by omega]
  have h1 := Nat.div_add_mod X (2 ^ u)
  have h2 : X / 2 ^ (u + 1) = X / 2 ^ u / 2 := by rw [Nat.pow_succ, Nat.div_div_eq_div_mul]
  have h3 := Nat.div_add_mod (X / 2 ^ u) 2
  rw [h2]
  have h4 : (if (X / 2 ^ u % 2 == 1) = true then 1 else 0) = X / 2 ^ u % 2 := by
    rcases Nat.mod_two_eq_zero_or_one (X / 2 ^ u) with h | h <;> rw [h] <;> rfl
  rw [h4, Nat.pow_succ]
  generalize hq : X / 2 ^ u = q at *
  have h5 : q / 2 * (2 ^ u * 2) + q % 2 * 2 ^ u = q * 2 ^ u := by
    rw [← Nat.mul_assoc, Nat.mul_right_comm, ← Nat.add_mul]; congr 1; omega
  rw [h5, Nat.mul_comm q]; omega
theorem mid_lt (X : Nat) : X < magk (fk X) + magk (fk X + 1) ↔ hf X = false := by
  rw [mid_eq]
  have hp := X_parts X
  have hm := Nat.mod_lt X (two_pos (sh X - 1))
  obtain ⟨u, hu⟩ : ∃ u, sh X = u + 1 := ⟨sh X - 1, by have := sh_pos X; omega⟩
  rw [hu, show u + 1 - 1 = u by omega] at hp hm
  rw [hu, show u + 1 - 1 = u by omega]
  rw [Nat.pow_succ, ← Nat.mul_assoc] at hp
  have e1 : (2 * wd X + 1) * 2 ^ u = wd X * 2 ^ u * 2 + 2 ^ u := by rw [Nat.add_mul, Nat.mul_comm 2, Nat.mul_right_comm]; omega
  rw [e1]
  cases h : hf X <;> simp [h] at hp ⊢ <;> omega
theorem mid_le (X : Nat) : X ≤ magk (fk X) + magk (fk X + 1) ↔ hf X = false ∨ X % 2 ^ (sh X - 1) = 0 := by
  rw [mid_eq]
  have hp := X_parts X
  have hm := Nat.mod_lt X (two_pos (sh X - 1))
  obtain ⟨u, hu⟩ : ∃ u, sh X = u + 1 := ⟨sh X - 1, by have := sh_pos X; omega⟩
  rw [hu, show u + 1 - 1 = u by omega] at hp hm
  rw [hu, show u + 1 - 1 = u by omega]
  rw [Nat.pow_succ, ← Nat.mul_assoc] at hp
  have e1 : (2 * wd X + 1) * 2 ^ u = wd X * 2 ^ u * 2 + 2 ^ u := by rw [Nat.add_mul, Nat.mul_comm 2, Nat.mul_right_comm]; omega
  rw [e1]
  cases h : hf X <;> simp [h] at hp ⊢ <;> omega
theorem exact_iff (X : Nat) (s : Bool) : (hf X || rs X s) = false ↔ X = 2 * magk (fk X) ∧ s = false := by
  rw [two_magk_fk]
  have hp := X_parts X
  have hm := Nat.mod_lt X (two_pos (sh X - 1))
  have h2 := two_pos (sh X - 1)
  unfold rs
  cases h : hf X <;> cases s <;> simp [h] at hp ⊢ <;> omega
theorem odd_fk (X : Nat) : fk X % 2 = X / 2 ^ sh X % 2 := by
  unfold fk wd; omega
end Go.Proofs.Ytmadjhmecfbcmaa.M
end
section
namespace Go.Proofs.Ytmadjhmecfbcmaa.M
open Go.RowKit Go.Proofs.YtmadjhmecfbcmaaW.PrintWords Go.Proofs.YtmadjhmecfbcmaaW.PrintLast Go.Proofs.YtmadjhmecfbcmaaW.PrintMore Go.Proofs.Ytmadjhmecfbcmaa.F
theorem w64 {n : Int} (h0 : -9223372036854775808 ≤ n) (h1 : n < 9223372036854775808) : wrap64 n = n := by unfold wrap64; omega
theorem wu64 {n : Int} (h0 : 0 ≤ n) (h1 : n < 18446744073709551616) : IntKind.u64.wrap n = n := by rw [IntKind.wrap_u64]; omega
theorem and_mask (a j : Nat) (ha : a < 18446744073709551616) (hj : j ≤ 63) : bits .and .u64 (a : Int) ((2 ^ j - 1 : Nat) : Int) = ((a % 2 ^ j : Nat) : Int) := by
  have h : 2 ^ j ≤ 2 ^ 63 := pow_le hj
  rw [u64_and_nat a (2 ^ j - 1) ha (by omega), Nat.and_two_pow_sub_one_eq_mod]
theorem and_1 (a : Nat) (ha : a < 18446744073709551616) : bits .and .u64 (a : Int) 1 = ((a % 2 : Nat) : Int) := and_mask a 1 ha (by decide)
theorem and_2047 (a : Nat) (ha : a < 18446744073709551616) : bits .and .u64 (a : Int) 2047 = ((a % 2048 : Nat) : Int) := and_mask a 11 ha (by decide)
theorem and_52 (a : Nat) (ha : a < 18446744073709551616) : bits .and .u64 (a : Int) 4503599627370495 = ((a % 4503599627370496 : Nat) : Int) := and_mask a 52 ha (by decide)
theorem or_join (a b i : Nat) (ha : a < 18446744073709551616) (hb : b < 2 ^ i) (hm : a % 2 ^ i = 0) (hi : b < 18446744073709551616) : bits .or .u64 (a : Int) (b : Int) = ((a + b : Nat) : Int) := by
  rw [u64_or_nat a b ha hi, nat_join i a b hm hb]
theorem or_join' (a b i : Nat) (ha : a < 18446744073709551616) (hb : b < 2 ^ i) (hm : a % 2 ^ i = 0) (hi : b < 18446744073709551616) : bits .or .u64 (b : Int) (a : Int) = ((a + b : Nat) : Int) := by
  rw [u64_or_nat b a hi ha, Nat.or_comm, nat_join i a b hm hb]
def flip (a : Nat) : Nat := if a < 9223372036854775808 then a + 9223372036854775808 else a - 9223372036854775808
theorem xor_sign (a : Nat) (ha : a < 18446744073709551616) : bits .xor .u64 (a : Int) 9223372036854775808 = ((flip a : Nat) : Int) := by
  rw [show (9223372036854775808 : Int) = ((9223372036854775808 : Nat) : Int) from rfl, u64_xor_nat a 9223372036854775808 ha (by decide)]
  congr 1
  unfold flip
  split
  · rename_i h
    have e : a ^^^ 9223372036854775808 = 9223372036854775808 ||| a := by
      apply Nat.eq_of_testBit_eq
      intro j
      rw [Nat.testBit_xor, Nat.testBit_or]
      by_cases hj : j = 63
      · subst hj
        have : a.testBit 63 = false := Nat.testBit_lt_two_pow (by omega)
        rw [this]; rfl
      · rw [show (9223372036854775808 : Nat) = 2 ^ 63 from rfl, Nat.testBit_two_pow]
        simp [Ne.symm hj]
    rw [e, nat_join 63 _ _ (by decide) (by omega)]; omega
  · rename_i h
    obtain ⟨b, rfl⟩ : ∃ b, a = 9223372036854775808 + b := ⟨a - 9223372036854775808, by omega⟩
    have hb : b < 2 ^ 63 := by omega
    rw [← nat_join 63 9223372036854775808 b (by decide) hb]
    have e : (9223372036854775808 ||| b) ^^^ 9223372036854775808 = b := by
      apply Nat.eq_of_testBit_eq
      intro j
      rw [Nat.testBit_xor, Nat.testBit_or]
      by_cases hj : j = 63
      · subst hj
        have : b.testBit 63 = false := Nat.testBit_lt_two_pow hb
        rw [this]; rfl
      · rw [show (9223372036854775808 : Nat) = 2 ^ 63 from rfl, Nat.testBit_two_pow]
        simp [Ne.symm hj]
    rw [e, nat_join 63 _ _ (by decide) hb]; omega
theorem andNot_sign (a : Nat) (ha : a < 18446744073709551616) : bits .andNot .u64 (a : Int) 9223372036854775808 = ((a % 9223372036854775808 : Nat) : Int) := by
  rw [show (9223372036854775808 : Int) = ((9223372036854775808 : Nat) : Int) from rfl, u64_andNot_nat a 9223372036854775808 ha (by decide)]
  rw [show (18446744073709551615 - 9223372036854775808 : Nat) = 2 ^ 63 - 1 from rfl, Nat.and_two_pow_sub_one_eq_mod]
theorem bitLen_log2 (n : Nat) (h0 : n ≠ 0) (h : n < 18446744073709551616) : Lib.bitLen n = n.log2 + 1 := by
  have h1 := Lib.bitLenAux_bounds 64 n (by omega) h0
  have h2 : Lib.bitLenAux 64 n - 1 ≤ n.log2 := by rw [Nat.le_log2 h0]; exact h1.2.1
  have h3 : n.log2 < Lib.bitLenAux 64 n := by rw [Nat.log2_lt h0]; exact h1.2.2
  unfold Lib.bitLen; omega
theorem shl_nat (x n : Nat) (h : n ≤ 64) : shl .u64 (x : Int) (n : Int) = ((x * 2 ^ n % 18446744073709551616 : Nat) : Int) := by
  unfold shl
  rw [IntKind.wrap_u64, show IntKind.u64.bits = 64 from rfl, Int.toNat_natCast, Nat.min_eq_left h]; simp
theorem shr_nat (x n : Nat) (h : n ≤ 64) : shr .u64 (x : Int) (n : Int) = ((x / 2 ^ n : Nat) : Int) := by
  unfold shr
  rw [show IntKind.u64.bits = 64 from rfl, Int.toNat_natCast, Nat.min_eq_left h]; simp
theorem bind_of {α β : Type} {x : Option α} {a : α} (f : α → Option β) (h : x = some a) : x.bind f = f a := by rw [h]; rfl
theorem Ev.later {α : Type} {g : Nat → Option α} {r : α} (n : Nat) (h : ∀ k, g (k + n) = some r) : Ev g r :=
  ⟨n, fun k hk => by have := h (k - n); rwa [Nat.sub_add_cancel hk] at this⟩
theorem Ev.next {α : Type} {g : Nat → Option α} {r : α} (h : Ev (fun k => g (k + 1)) r) : Ev g r := Ev.step (fun _ => rfl) h
theorem Ev.all {α : Type} {g : Nat → Option α} {r : α} (h : ∀ k, g k = some r) : Ev g r := ⟨0, fun k _ => h k⟩
theorem Ev.const {α : Type} {x : Option α} {r : α} (h : x = some r) : Ev (fun _ => x) r := ⟨0, fun _ _ => h⟩
theorem Ev.b {α β : Type} {g : Nat → Option α} {f : Nat → α → Option β} (a : α) {r : β} (h : Ev g a) (k : Ev (fun n => f n a) r) : Ev (fun n => (g n).bind (f n)) r := Ev.bind h k
end Go.Proofs.Ytmadjhmecfbcmaa.M
end
section
namespace Go.Proofs.Ytmadjhmecfbcmaa.M
open Go.RowKit Go.Proofs.YtmadjhmecfbcmaaW.PrintWords Go.Proofs.YtmadjhmecfbcmaaW.PrintLast Go.Proofs.YtmadjhmecfbcmaaW.PrintMore Go.Proofs.Ytmadjhmecfbcmaa.F
structure Kn (y y1 y0 u c t v : Nat) : Prop where
  hy : y = y1 * 4294967296 + y0
  h0 : y0 < 4294967296
  h1 : 2147483648 ≤ y1
  h2 : y1 < 4294967296
  hu : u < y
  hc : c < 4294967296
  hd : u * 4294967296 + c = t * y + v
  hv : v < y
theorem Kn.t_lt {y y1 y0 u c t v : Nat} (K : Kn y y1 y0 u c t v) : t < 4294967296 := by
  have h1 := K.hd; have h2 := K.hu; have h3 := K.hc
  by_cases h : t < 4294967296
  · exact h
  · have : 4294967296 * y ≤ t * y := Nat.mul_le_mul_right _ (by omega)
    omega
theorem Kn.too {y y1 y0 u c t v q r : Nat} (K : Kn y y1 y0 u c t v) (hs : u = q * y1 + r) (h : 4294967296 ≤ q ∨ 4294967296 * r + c < q * y0) : t < q := by
  have ht := K.t_lt
  rcases h with h | h
  · omega
  · have h1 := K.hd
    by_cases g : t < q
    · exact g
    · exfalso
      have h2 : q * y ≤ t * y := Nat.mul_le_mul_right _ (by omega)
      have h3 : q * y = q * y1 * 4294967296 + q * y0 := by rw [K.hy]; grind
      rw [hs] at h1
      omega
theorem Kn.fit {y y1 y0 u c t v q r : Nat} (K : Kn y y1 y0 u c t v) (hs : u = q * y1 + r) (h : q * y0 ≤ 4294967296 * r + c) : q ≤ t := by
  have h1 := K.hd
  have h3 : q * y = q * y1 * 4294967296 + q * y0 := by rw [K.hy]; grind
  by_cases g : q ≤ t
  · exact g
  · exfalso
    have h2 : (t + 1) * y ≤ q * y := Nat.mul_le_mul_right _ (by omega)
    have h4 := K.hv
    rw [hs] at h1
    rw [Nat.add_mul, Nat.one_mul] at h2
    omega
theorem Kn.start {y y1 y0 u c t v : Nat} (K : Kn y y1 y0 u c t v) : t ≤ u / y1 ∧ u / y1 ≤ 4294967297 ∧ u % y1 < 4294967296 ∧ u = u / y1 * y1 + u % y1 := by
  have h1 := K.h1; have h2 := K.h2; have h0 := K.h0; have hu := K.hu; have hy := K.hy; have hd := K.hd; have hc := K.hc
  have hm := Nat.mod_lt u (show 0 < y1 by omega)
  refine ⟨?_, ?_, by omega, by rw [Nat.mul_comm]; exact (Nat.div_add_mod u y1).symm⟩
  · rw [Nat.le_div_iff_mul_le (by omega)]
    have h3 : t * y = t * y1 * 4294967296 + t * y0 := by rw [hy]; grind
    omega
  · have : u / y1 < 4294967298 := by rw [Nat.div_lt_iff_lt_mul (by omega)]; omega
    omega
theorem Kn.mul_ok {y y1 y0 u c t v q : Nat} (K : Kn y y1 y0 u c t v) (hq : q ≤ 4294967297) : q * y0 < 18446744073709551616 := by
  have h0 := K.h0
  have : q * y0 ≤ 4294967297 * 4294967295 := Nat.mul_le_mul hq (by omega)
  omega
theorem wnat {n : Nat} (h : n < 18446744073709551616) : IntKind.u64.wrap (n : Int) = (n : Int) := wu64 (by omega) (by omega)
theorem Dv_l0 {y y1 y0 u c t v : Nat} (K : Kn y y1 y0 u c t v) (s u0 : Int) (res : Int × Int) (J : Ev (fun k => bits_Div64q.j2 k (y : Int) s (y1 : Int) (y0 : Int) (u : Int) (c : Int) u0 (t : Int)) res) :
    ∀ (n q r : Nat), q = t + n → q ≤ 4294967297 → r < 4294967296 → u = q * y1 + r →
      Ev (fun k => bits_Div64q.l0 k (y : Int) s (y1 : Int) (y0 : Int) (u : Int) (c : Int) u0 (q : Int) (r : Int)) res := by
  have h1 := K.h1; have h2 := K.h2; have h0 := K.h0; have hc := K.hc
  intro n
  induction n with
  | zero =>
    intro q r hq hq2 hr hs
    have hmul := K.mul_ok hq2
    have nc : ¬ (4294967296 ≤ q ∨ 4294967296 * r + c < q * y0) := fun h => by have := K.too hs h; omega
    have m1 : IntKind.u64.wrap ((q : Int) * (y0 : Int)) = ((q * y0 : Nat) : Int) := by rw [← Int.natCast_mul]; exact wnat hmul
    have m2 : IntKind.u64.wrap (4294967296 * (r : Int)) = ((4294967296 * r : Nat) : Int) := by rw [wu64 (by omega) (by omega)]; omega
    have m3 : IntKind.u64.wrap (((4294967296 * r : Nat) : Int) + (c : Int)) = ((4294967296 * r + c : Nat) : Int) := by rw [wu64 (by omega) (by omega)]; omega
    refine Ev.next ?_
    simp only [bits_Div64q.l0]
    rw [m1, m2, m3, decide_eq_false (show ¬ (((q * y0 : Nat) : Int) > ((4294967296 * r + c : Nat) : Int)) by omega)]
    refine Ev.congr (fun k => by rw [if_neg (show ¬ (q : Int) ≥ 4294967296 by omega)]) ?_
    refine Ev.next ?_
    simp only [bits_Div64q.j1]
    have e : q = t := by omega
    rw [e]
    exact Ev.congr (fun k => by rw [if_neg (by simp)]) J
  | succ n ih =>
    intro q r hq hq2 hr hs
    have hmul := K.mul_ok hq2
    have cc : 4294967296 ≤ q ∨ 4294967296 * r + c < q * y0 := by
      by_cases h : 4294967296 * r + c < q * y0
      · exact .inr h
      · have := K.fit hs (by omega); omega
    have m1 : IntKind.u64.wrap ((q : Int) * (y0 : Int)) = ((q * y0 : Nat) : Int) := by rw [← Int.natCast_mul]; exact wnat hmul
    have m2 : IntKind.u64.wrap (4294967296 * (r : Int)) = ((4294967296 * r : Nat) : Int) := by rw [wu64 (by omega) (by omega)]; omega
    have m3 : IntKind.u64.wrap (((4294967296 * r : Nat) : Int) + (c : Int)) = ((4294967296 * r + c : Nat) : Int) := by rw [wu64 (by omega) (by omega)]; omega
    have m4 : IntKind.u64.wrap ((r : Int) + (y1 : Int)) = ((r + y1 : Nat) : Int) := by rw [wu64 (by omega) (by omega)]; omega
    have m5 : IntKind.u64.wrap ((q : Int) - 1) = ((q - 1 : Nat) : Int) := by rw [wu64 (by omega) (by omega)]; omega
    have hs2 : u = (q - 1) * y1 + (r + y1) := by
      have : q * y1 = (q - 1) * y1 + y1 := by
        obtain ⟨p, rfl⟩ : ∃ p, q = p + 1 := ⟨q - 1, by omega⟩
        rw [Nat.add_sub_cancel, Nat.add_mul, Nat.one_mul]
      omega
    have B : Ev (fun k => bits_Div64q.j1 k (y : Int) s (y1 : Int) (y0 : Int) (u : Int) (c : Int) u0 (q : Int) (r : Int) true) res := by
      refine Ev.next ?_
      simp only [bits_Div64q.j1]
      rw [m4, m5]
      by_cases g : 4294967296 ≤ r + y1
      · have hm : (q - 1) * y0 ≤ 4294967296 * 4294967296 := Nat.mul_le_mul (by omega) (by omega)
        have := K.fit hs2 (by omega)
        have e : q - 1 = t := by omega
        rw [e]
        exact Ev.congr (fun k => by rw [if_pos trivial, if_pos (by omega)]) J
      · exact Ev.congr (fun k => by rw [if_pos trivial, if_neg (by omega)]) (ih (q - 1) (r + y1) (by omega) (by omega) (by omega) hs2)
    refine Ev.next ?_
    simp only [bits_Div64q.l0]
    rw [m1, m2, m3]
    by_cases g : 4294967296 ≤ q
    · exact Ev.congr (fun k => by rw [if_pos (by omega)]) B
    · have g2 : 4294967296 * r + c < q * y0 := by rcases cc with h | h; exact absurd h g; exact h
      rw [decide_eq_true (show ((q * y0 : Nat) : Int) > ((4294967296 * r + c : Nat) : Int) by omega)]
      exact Ev.congr (fun k => by rw [if_neg (by omega)]) B
theorem Dv_l1 {y y1 y0 u c t v : Nat} (K : Kn y y1 y0 u c t v) (s : Nat) (q1 : Nat) (hs64 : s ≤ 64) (hy : y < 18446744073709551616) (hq1 : q1 < 4294967296) :
    ∀ (n q r : Nat), q = t + n → q ≤ 4294967297 → r < 4294967296 → u = q * y1 + r →
      Ev (fun k => bits_Div64q.l1 k (y : Int) (s : Int) (y1 : Int) (y0 : Int) (c : Int) (q1 : Int) (r : Int) (u : Int) (q : Int)) (((q1 * 4294967296 + t : Nat) : Int), ((v / 2 ^ s : Nat) : Int)) := by
  have h1 := K.h1; have h2 := K.h2; have h0 := K.h0; have hc := K.hc; have hd := K.hd; have hv := K.hv; have hu := K.hu; have htl := K.t_lt
  have f1 : IntKind.u64.wrap (IntKind.u64.wrap ((q1 : Int) * 4294967296) + (t : Int)) = ((q1 * 4294967296 + t : Nat) : Int) := by
    simp only [IntKind.wrap_u64]; omega
  have f2 : IntKind.u64.wrap (IntKind.u64.wrap (IntKind.u64.wrap ((u : Int) * 4294967296) + (c : Int)) - IntKind.u64.wrap ((t : Int) * (y : Int))) = (v : Int) := by
    rw [← Int.natCast_mul t y]
    obtain ⟨p, hp⟩ : ∃ p, t * y = p := ⟨_, rfl⟩
    rw [hp] at hd ⊢
    simp only [IntKind.wrap_u64]; omega
  have f3 : shr .u64 (v : Int) (s : Int) = ((v / 2 ^ s : Nat) : Int) := shr_nat v s hs64
  intro n
  induction n with
  | zero =>
    intro q r hq hq2 hr hs
    have hmul := K.mul_ok hq2
    have nc : ¬ (4294967296 ≤ q ∨ 4294967296 * r + c < q * y0) := fun h => by have := K.too hs h; omega
    have m1 : IntKind.u64.wrap ((q : Int) * (y0 : Int)) = ((q * y0 : Nat) : Int) := by rw [← Int.natCast_mul]; exact wnat hmul
    have m2 : IntKind.u64.wrap (4294967296 * (r : Int)) = ((4294967296 * r : Nat) : Int) := by rw [wu64 (by omega) (by omega)]; omega
    have m3 : IntKind.u64.wrap (((4294967296 * r : Nat) : Int) + (c : Int)) = ((4294967296 * r + c : Nat) : Int) := by rw [wu64 (by omega) (by omega)]; omega
    refine Ev.next ?_
    simp only [bits_Div64q.l1]
    rw [m1, m2, m3, decide_eq_false (show ¬ (((q * y0 : Nat) : Int) > ((4294967296 * r + c : Nat) : Int)) by omega)]
    refine Ev.congr (fun k => by rw [if_neg (show ¬ (q : Int) ≥ 4294967296 by omega)]) ?_
    refine Ev.next ?_
    simp only [bits_Div64q.j4]
    have e : q = t := by omega
    rw [e, f1, f2, f3]
    exact Ev.congr (fun k => by rw [if_neg (by simp), if_pos (by omega)]) (Ev.now _)
  | succ n ih =>
    intro q r hq hq2 hr hs
    have hmul := K.mul_ok hq2
    have cc : 4294967296 ≤ q ∨ 4294967296 * r + c < q * y0 := by
      by_cases h : 4294967296 * r + c < q * y0
      · exact .inr h
      · have := K.fit hs (by omega); omega
    have m1 : IntKind.u64.wrap ((q : Int) * (y0 : Int)) = ((q * y0 : Nat) : Int) := by rw [← Int.natCast_mul]; exact wnat hmul
    have m2 : IntKind.u64.wrap (4294967296 * (r : Int)) = ((4294967296 * r : Nat) : Int) := by rw [wu64 (by omega) (by omega)]; omega
    have m3 : IntKind.u64.wrap (((4294967296 * r : Nat) : Int) + (c : Int)) = ((4294967296 * r + c : Nat) : Int) := by rw [wu64 (by omega) (by omega)]; omega
    have m4 : IntKind.u64.wrap ((r : Int) + (y1 : Int)) = ((r + y1 : Nat) : Int) := by rw [wu64 (by omega) (by omega)]; omega
    have m5 : IntKind.u64.wrap ((q : Int) - 1) = ((q - 1 : Nat) : Int) := by rw [wu64 (by omega) (by omega)]; omega
    have hs2 : u = (q - 1) * y1 + (r + y1) := by
      have : q * y1 = (q - 1) * y1 + y1 := by
        obtain ⟨p, rfl⟩ : ∃ p, q = p + 1 := ⟨q - 1, by omega⟩
        rw [Nat.add_sub_cancel, Nat.add_mul, Nat.one_mul]
      omega
    have B : Ev (fun k => bits_Div64q.j4 k (y : Int) (s : Int) (y1 : Int) (y0 : Int) (c : Int) (q1 : Int) (r : Int) (u : Int) (q : Int) true) (((q1 * 4294967296 + t : Nat) : Int), ((v / 2 ^ s : Nat) : Int)) := by
      refine Ev.next ?_
      simp only [bits_Div64q.j4]
      rw [m4, m5]
      by_cases g : 4294967296 ≤ r + y1
      · have hm : (q - 1) * y0 ≤ 4294967296 * 4294967296 := Nat.mul_le_mul (by omega) (by omega)
        have := K.fit hs2 (by omega)
        have e : q - 1 = t := by omega
        rw [e, f1, f2, f3]
        exact Ev.congr (fun k => by rw [if_pos trivial, if_pos (by omega), if_pos (by omega)]) (Ev.now _)
      · exact Ev.congr (fun k => by rw [if_pos trivial, if_neg (by omega)]) (ih (q - 1) (r + y1) (by omega) (by omega) (by omega) hs2)
    refine Ev.next ?_
    simp only [bits_Div64q.l1]
    rw [m1, m2, m3]
    by_cases g : 4294967296 ≤ q
    · exact Ev.congr (fun k => by rw [if_pos (by omega)]) B
    · have g2 : 4294967296 * r + c < q * y0 := by rcases cc with h | h; exact absurd h g; exact h
      rw [decide_eq_true (show ((q * y0 : Nat) : Int) > ((4294967296 * r + c : Nat) : Int) by omega)]
      exact Ev.congr (fun k => by rw [if_neg (by omega)]) B
theorem Dv_tot (u c c0 p v p2 v2 : Nat) (h1 : u * 4294967296 + c = p + v) (h2 : v * 4294967296 + c0 = p2 + v2) : (u * 4294967296 + c) * 4294967296 + c0 = p * 4294967296 + p2 + v2 := by
  rw [h1, Nat.add_mul, Nat.add_assoc, h2, Nat.add_assoc]
theorem Dv_f (y s u c c0 : Nat) (y1 y0 : Nat) (hy : y = y1 * 4294967296 + y0) (h0 : y0 < 4294967296) (h1 : 2147483648 ≤ y1) (h2 : y1 < 4294967296) (hu : u < y) (hc : c < 4294967296) (hc0 : c0 < 4294967296) (hs : s ≤ 64) :
    Ev (fun k => bits_Div64q.l0 k (y : Int) (s : Int) (y1 : Int) (y0 : Int) (u : Int) (c : Int) (c0 : Int) ((u / y1 : Nat) : Int) ((u % y1 : Nat) : Int))
      ((((u * 4294967296 + c) * 4294967296 + c0) / y : Nat), ((((u * 4294967296 + c) * 4294967296 + c0) % y / 2 ^ s : Nat) : Int)) := by
  have y0' : 0 < y := by omega
  have K : Kn y y1 y0 u c ((u * 4294967296 + c) / y) ((u * 4294967296 + c) % y) :=
    ⟨hy, h0, h1, h2, hu, hc, (Nat.div_add_mod' _ _).symm, Nat.mod_lt _ y0'⟩
  obtain ⟨t, ht⟩ : ∃ t, (u * 4294967296 + c) / y = t := ⟨_, rfl⟩
  obtain ⟨v, hv⟩ : ∃ v, (u * 4294967296 + c) % y = v := ⟨_, rfl⟩
  rw [ht, hv] at K
  have K2 : Kn y y1 y0 v c0 ((v * 4294967296 + c0) / y) ((v * 4294967296 + c0) % y) :=
    ⟨hy, h0, h1, h2, K.hv, hc0, (Nat.div_add_mod' _ _).symm, Nat.mod_lt _ y0'⟩
  obtain ⟨t2, ht2⟩ : ∃ t, (v * 4294967296 + c0) / y = t := ⟨_, rfl⟩
  obtain ⟨v2, hv2⟩ : ∃ v', (v * 4294967296 + c0) % y = v' := ⟨_, rfl⟩
  rw [ht2, hv2] at K2
  have hd := K.hd
  have hd2 := K2.hd
  have hv3 := K2.hv
  have hv1 := K.hv
  have tl := K.t_lt
  have tl2 := K2.t_lt
  have S := K.start
  have S2 := K2.start
  have total : (u * 4294967296 + c) * 4294967296 + c0 = (t * 4294967296 + t2) * y + v2 := by
    have e : (t * 4294967296 + t2) * y = t * y * 4294967296 + t2 * y := by rw [Nat.add_mul (t * 4294967296) t2 y, Nat.mul_right_comm t 4294967296 y]
    rw [e]
    exact Dv_tot u c c0 (t * y) v (t2 * y) v2 hd hd2
  have q_ok : ((u * 4294967296 + c) * 4294967296 + c0) / y = t * 4294967296 + t2 := by
    rw [total, Nat.add_comm, Nat.add_mul_div_right _ _ y0', Nat.div_eq_of_lt hv3, Nat.zero_add]
  have r_ok : ((u * 4294967296 + c) * 4294967296 + c0) % y = v2 := by
    rw [total, Nat.add_comm, Nat.add_mul_mod_self_right, Nat.mod_eq_of_lt hv3]
  rw [q_ok, r_ok]
  have L1 := Dv_l1 K2 s t hs (by omega) tl (v / y1 - t2) (v / y1) (v % y1) (by omega) S2.2.1 S2.2.2.1 S2.2.2.2
  have un : IntKind.u64.wrap (IntKind.u64.wrap (IntKind.u64.wrap ((u : Int) * 4294967296) + (c : Int)) - IntKind.u64.wrap ((t : Int) * (y : Int))) = (v : Int) := by
    rw [← Int.natCast_mul t y]
    obtain ⟨p, hp⟩ : ∃ p, t * y = p := ⟨_, rfl⟩
    rw [hp] at hd ⊢
    simp only [IntKind.wrap_u64]; omega
  have qd : IntKind.u64.wrap (Int.tdiv (v : Int) (y1 : Int)) = ((v / y1 : Nat) : Int) := by
    rw [Int.ofNat_tdiv]; exact wnat (by have := Nat.div_le_self v y1; omega)
  have rd : IntKind.u64.wrap ((v : Int) - IntKind.u64.wrap (((v / y1 : Nat) : Int) * (y1 : Int))) = ((v % y1 : Nat) : Int) := by
    rw [← Int.natCast_mul]
    have e := S2.2.2.2
    obtain ⟨p, hp⟩ : ∃ p, v / y1 * y1 = p := ⟨_, rfl⟩
    rw [hp] at e ⊢
    simp only [IntKind.wrap_u64]; omega
  have J : Ev (fun k => bits_Div64q.j2 k (y : Int) (s : Int) (y1 : Int) (y0 : Int) (u : Int) (c : Int) (c0 : Int) (t : Int)) (((t * 4294967296 + t2 : Nat) : Int), ((v2 / 2 ^ s : Nat) : Int)) := by
    refine Ev.next ?_
    simp only [bits_Div64q.j2]
    rw [un, qd, rd]
    exact Ev.congr (fun k => by rw [if_neg (by omega)]) L1
  exact Dv_l0 K (s : Int) (c0 : Int) _ J (u / y1 - t) (u / y1) (u % y1) (by omega) S.2.1 S.2.2.1 S.2.2.2
theorem Div64_ev (a0 a1 a2 : Nat) (h1 : a1 < 18446744073709551616) (h2 : a0 < a2) (h3 : a2 < 18446744073709551616) :
    Ev (fun k => bits_Div64q.f k (a0 : Int) (a1 : Int) (a2 : Int)) (((a0 * 18446744073709551616 + a1) / a2 : Nat), ((a0 * 18446744073709551616 + a1) % a2 : Nat)) := by
  unfold bits_Div64q.f
  by_cases z : a0 = 0
  · subst z
    rw [Nat.zero_mul, Nat.zero_add]
    have e1 : IntKind.u64.wrap (Int.tdiv (a1 : Int) (a2 : Int)) = ((a1 / a2 : Nat) : Int) := by
      rw [Int.ofNat_tdiv]; exact wnat (by have := Nat.div_le_self a1 a2; omega)
    have e2 : Int.tmod (a1 : Int) (a2 : Int) = ((a1 % a2 : Nat) : Int) := (Int.ofNat_tmod a1 a2).symm
    rw [e1, e2]
    exact Ev.congr (fun k => by rw [if_pos (by omega), if_neg (by omega)]) (Ev.now _)
  have bd := Lib.bitLenAux_bounds 64 a2 (by omega) (by omega)
  obtain ⟨L, hL⟩ : ∃ L, Lib.bitLenAux 64 a2 = L := ⟨_, rfl⟩
  rw [hL] at bd
  have hLZ : bits_LeadingZeros64.f (a2 : Int) = some (((64 - L : Nat)) : Int) := by
    unfold bits_LeadingZeros64.f
    rw [if_pos (by omega), Int.toNat_natCast]
    congr 1
    show (64 : Int) - (Lib.bitLenAux 64 a2 : Nat) = _
    rw [hL]
    have : L ≤ 64 := by
      by_cases g : L ≤ 64
      · exact g
      · have : 2 ^ 64 ≤ 2 ^ (L - 1) := pow_le (by omega)
        omega
    omega
  have hL64 : L ≤ 64 := by
    by_cases g : L ≤ 64
    · exact g
    · have : 2 ^ 64 ≤ 2 ^ (L - 1) := pow_le (by omega)
      omega
  obtain ⟨s, hs⟩ : ∃ s, 64 - L = s := ⟨_, rfl⟩
  rw [hs] at hLZ
  have ps := two_pos s
  have pL : 2 ^ L * 2 ^ s = 18446744073709551616 := by rw [← Nat.pow_add, show L + s = 64 by omega]
  have pL1 : 2 ^ (L - 1) * 2 ^ s = 9223372036854775808 := by rw [← Nat.pow_add, show L - 1 + s = 63 by omega]
  have hy1 : a2 * 2 ^ s < 18446744073709551616 := by rw [← pL]; exact Nat.mul_lt_mul_of_pos_right bd.2.2 ps
  have hy2 : 9223372036854775808 ≤ a2 * 2 ^ s := by rw [← pL1]; exact Nat.mul_le_mul_right _ bd.2.1
  have pS : 2 ^ (64 - s) * 2 ^ s = 18446744073709551616 := by rw [← Nat.pow_add, show 64 - s + s = 64 by omega]
  have hs63 : s ≤ 63 := by omega
  have lohi : a1 / 2 ^ (64 - s) < 2 ^ s := by rw [Nat.div_lt_iff_lt_mul (two_pos _), Nat.mul_comm, pS]; exact h1
  have hhi : (a0 + 1) * 2 ^ s ≤ a2 * 2 ^ s := Nat.mul_le_mul_right _ (by omega)
  rw [Nat.add_mul, Nat.one_mul] at hhi
  have ps63 : 2 ^ s ≤ 2 ^ 63 := pow_le hs63
  have w1 : IntKind.u64.wrap (s : Int) = (s : Int) := wu64 (by omega) (by omega)
  have w2 : IntKind.u64.wrap (64 - (s : Int)) = ((64 - s : Nat) : Int) := by rw [wu64 (by omega) (by omega)]; omega
  have e1 : shl .u64 (a2 : Int) (s : Int) = ((a2 * 2 ^ s : Nat) : Int) := by rw [shl_nat a2 s (by omega), Nat.mod_eq_of_lt hy1]
  have e2 : shl .u64 (a0 : Int) (s : Int) = ((a0 * 2 ^ s : Nat) : Int) := by rw [shl_nat a0 s (by omega), Nat.mod_eq_of_lt (by omega)]
  have e3 : shr .u64 (a1 : Int) ((64 - s : Nat) : Int) = ((a1 / 2 ^ (64 - s) : Nat) : Int) := shr_nat a1 (64 - s) (by omega)
  have e4 : shl .u64 (a1 : Int) (s : Int) = ((a1 * 2 ^ s % 18446744073709551616 : Nat) : Int) := shl_nat a1 s (by omega)
  have e5 : bits .or .u64 ((a0 * 2 ^ s : Nat) : Int) ((a1 / 2 ^ (64 - s) : Nat) : Int) = ((a0 * 2 ^ s + a1 / 2 ^ (64 - s) : Nat) : Int) :=
    or_join _ _ s (by omega) lohi (by simp) (by omega)
  have lowp : a1 * 2 ^ s = a1 / 2 ^ (64 - s) * 18446744073709551616 + a1 * 2 ^ s % 18446744073709551616 := by
    have : a1 * 2 ^ s / 18446744073709551616 = a1 / 2 ^ (64 - s) := by rw [← pS]; exact Nat.mul_div_mul_right _ _ ps
    rw [← this]; exact (Nat.div_add_mod' _ _).symm
  have D1 : (a0 * 18446744073709551616 + a1) / a2 = (a0 * 18446744073709551616 + a1) * 2 ^ s / (a2 * 2 ^ s) := (Nat.mul_div_mul_right _ _ ps).symm
  have D2 : (a0 * 18446744073709551616 + a1) % a2 = (a0 * 18446744073709551616 + a1) * 2 ^ s % (a2 * 2 ^ s) / 2 ^ s := by
    rw [Nat.mul_mod_mul_right, Nat.mul_div_cancel _ ps]
  rw [D1, D2]
  rw [Nat.add_mul, Nat.mul_right_comm]
  obtain ⟨A0, hA0⟩ : ∃ x, a0 * 2 ^ s = x := ⟨_, rfl⟩
  obtain ⟨H, hH⟩ : ∃ x, a1 / 2 ^ (64 - s) = x := ⟨_, rfl⟩
  obtain ⟨Y, hY⟩ : ∃ x, a2 * 2 ^ s = x := ⟨_, rfl⟩
  obtain ⟨A1, hA1⟩ : ∃ x, a1 * 2 ^ s = x := ⟨_, rfl⟩
  obtain ⟨M, hM⟩ : ∃ x, A1 % 18446744073709551616 = x := ⟨_, rfl⟩
  rw [hA0, hA1, hY]
  rw [hA1, hM, hH] at lowp
  rw [hA0] at hhi e2 e5
  rw [hH] at lohi e3 e5
  rw [hY] at hy1 hy2 hhi e1
  rw [hA1, hM] at e4
  have hM64 : M < 18446744073709551616 := by omega
  have tot : A0 * 18446744073709551616 + A1 = ((A0 + H) * 4294967296 + M / 4294967296) * 4294967296 + M % 4294967296 := by omega
  have m32 : bits .and .u64 (Y : Int) 4294967295 = ((Y % 4294967296 : Nat) : Int) := and_mask Y 32 hy1 (by decide)
  have m32' : bits .and .u64 (M : Int) 4294967295 = ((M % 4294967296 : Nat) : Int) := and_mask M 32 hM64 (by decide)
  have dY : (Y : Int) / 4294967296 = ((Y / 4294967296 : Nat) : Int) := by omega
  have dM : (M : Int) / 4294967296 = ((M / 4294967296 : Nat) : Int) := by omega
  obtain ⟨y1, hy⟩ : ∃ x, Y / 4294967296 = x := ⟨_, rfl⟩
  obtain ⟨u, hu⟩ : ∃ x, A0 + H = x := ⟨_, rfl⟩
  have hy1b : 2147483648 ≤ y1 := by omega
  have hu64 : u < Y := by omega
  have qd : IntKind.u64.wrap (Int.tdiv (u : Int) (y1 : Int)) = ((u / y1 : Nat) : Int) := by
    rw [Int.ofNat_tdiv]; exact wnat (by have := Nat.div_le_self u y1; omega)
  have rd : IntKind.u64.wrap ((u : Int) - IntKind.u64.wrap (((u / y1 : Nat) : Int) * (y1 : Int))) = ((u % y1 : Nat) : Int) := by
    rw [← Int.natCast_mul]
    have e := (Nat.div_add_mod' u y1).symm
    obtain ⟨p, hp⟩ : ∃ p, u / y1 * y1 = p := ⟨_, rfl⟩
    rw [hp] at e ⊢
    have := Nat.mod_lt u (show 0 < y1 by omega)
    simp only [IntKind.wrap_u64]; omega
  have F := Dv_f Y s u (M / 4294967296) (M % 4294967296) y1 (Y % 4294967296) (by omega) (by omega) hy1b (by omega) hu64 (by omega) (by omega) (by omega)
  rw [hu] at tot e5
  rw [hy] at dY
  rw [tot]
  refine Ev.congr (fun k => by rw [if_neg (by omega)]) ?_
  refine Ev.b _ (Ev.const hLZ) ?_
  rw [w1, w2, e1, e2, e3, e4, e5, m32, m32', dY, dM, qd, rd]
  exact Ev.congr (fun k => by rw [if_pos (by omega), if_pos (by omega), if_neg (by omega)]) F
theorem Dv64_ok (a0 a1 a2 : Int) (h : 0 ≤ a0 ∧ 0 ≤ a1 ∧ a1 < 18446744073709551616 ∧ a0 < a2 ∧ a2 < 18446744073709551616) :
    ∃ k, bits_Div64q.f k a0 a1 a2 = some ((a0 * 18446744073709551616 + a1) / a2, (a0 * 18446744073709551616 + a1) % a2) := by
  obtain ⟨h1, h2, h3, h4, h5⟩ := h
  obtain ⟨x, rfl⟩ := Int.eq_ofNat_of_zero_le h1
  obtain ⟨y, rfl⟩ := Int.eq_ofNat_of_zero_le h2
  obtain ⟨z, rfl⟩ := Int.eq_ofNat_of_zero_le (show 0 ≤ a2 by omega)
  obtain ⟨k, hk⟩ := Div64_ev x y z (by omega) (by omega) (by omega)
  refine ⟨k, (hk k (Nat.le_refl _)).trans ?_⟩
  rw [Int.natCast_ediv, Int.natCast_emod, Int.natCast_add, Int.natCast_mul]
  rfl
end Go.Proofs.Ytmadjhmecfbcmaa.M
end
section
namespace Go.Proofs.Ytmadjhmecfbcmaa.F
open Go.RowKit Go.Proofs.YtmadjhmecfbcmaaW.PrintWords Go.Proofs.YtmadjhmecfbcmaaW.PrintLast Go.Proofs.YtmadjhmecfbcmaaW.PrintMore
attribute [local go_sem] max2_int min2_int max_two min_two max_three min_three max_four min_four
set_option linter.unusedVariables false
set_option linter.unusedSimpArgs false
set_option maxHeartbeats 8000000
set_option maxRecDepth 100000
theorem bits_Div64q.walk (k : Nat) (a0 : Int) (a1 : Int) (a2 : Int) (r1 : Int) (r2 : Int) (w : World) (c00b0 : (a2 == 0) = false) (c01b0 : decide (a2 ≤ a0) = false) (h : bits_Div64q.f k a0 a1 a2 = some (r1, r2)) :
  Calls Try.prog 162 #[.int .u64 a0, .int .u64 a1, .int .u64 a2] w fun e w' => e = .returned (.tuple #[.int .u64 r1, .int .u64 r2]) ∧ Drawn0 w w' := by
 have H : (if a0 = 0 then (if a2 = 0 then (none) else (some (IntKind.u64.wrap (Int.tdiv a1 a2), Int.tmod a1 a2))) else ((bits_LeadingZeros64.f a2).bind fun t256 => (if 0 ≤ (IntKind.u64.wrap (t256)) then (if 0 ≤ (IntKind.u64.wrap (64 - (IntKind.u64.wrap (t256)))) then (if ((shl .u64 a2 (IntKind.u64.wrap (t256))) / 4294967296) = 0 then (none) else (bits_Div64q.l0 k (shl .u64 a2 (IntKind.u64.wrap (t256))) (IntKind.u64.wrap (t256)) ((shl .u64 a2 (IntKind.u64.wrap (t256))) / 4294967296) (Go.bits .and .u64 (shl .u64 a2 (IntKind.u64.wrap (t256))) 4294967295) (Go.bits .or .u64 (shl .u64 a0 (IntKind.u64.wrap (t256))) (shr .u64 a1 (IntKind.u64.wrap (64 - (IntKind.u64.wrap (t256)))))) ((shl .u64 a1 (IntKind.u64.wrap (t256))) / 4294967296) (Go.bits .and .u64 (shl .u64 a1 (IntKind.u64.wrap (t256))) 4294967295) (IntKind.u64.wrap (Int.tdiv (Go.bits .or .u64 (shl .u64 a0 (IntKind.u64.wrap (t256))) (shr .u64 a1 (IntKind.u64.wrap (64 - (IntKind.u64.wrap (t256)))))) ((shl .u64 a2 (IntKind.u64.wrap (t256))) / 4294967296))) (IntKind.u64.wrap ((Go.bits .or .u64 (shl .u64 a0 (IntKind.u64.wrap (t256))) (shr .u64 a1 (IntKind.u64.wrap (64 - (IntKind.u64.wrap (t256)))))) - (IntKind.u64.wrap ((IntKind.u64.wrap (Int.tdiv (Go.bits .or .u64 (shl .u64 a0 (IntKind.u64.wrap (t256))) (shr .u64 a1 (IntKind.u64.wrap (64 - (IntKind.u64.wrap (t256)))))) ((shl .u64 a2 (IntKind.u64.wrap (t256))) / 4294967296))) * ((shl .u64 a2 (IntKind.u64.wrap (t256))) / 4294967296))))))) else (none)) else (none)))) = some (r1, r2) := h
 clear h
 by_cases c4 : a0 = 0
 ·rw [if_pos c4] at H
  have c4b0 : (a0 == 0) = true := beq_iff_eq.mpr c4
  have c4b1 : (a0 != 0) = false := bne_eq_false_iff_eq.mpr c4
  clear c4
  by_cases c5 : a2 = 0
  ·rw [if_pos c5] at H
   exact absurd H (by simp)
  rw [if_neg c5] at H
  have c5b0 : (a2 == 0) = false := beq_eq_false_iff_ne.mpr c5
  have c5b1 : (a2 != 0) = true := bne_iff_ne.mpr c5
  simp only [Option.some.injEq, Prod.mk.injEq] at H
  obtain ⟨rfl, rfl⟩ := H
  go_enter Try.func162, Try.ntmps162
  go_wp2
  repeat (go_quiet (fail); try go_wp2)
  go_ret2
  exact ⟨by first | rfl | (simp; done) | (simp [*]; done), by repeat (first | exact Drawn0.refl _ | apply Drawn0.step)⟩
 rw [if_neg c4] at H
 have c4b0 : (a0 == 0) = false := beq_eq_false_iff_ne.mpr c4
 have c4b1 : (a0 != 0) = true := bne_iff_ne.mpr c4
 obtain ⟨t256, A6, H⟩ := zbs H
 try dsimp only at H
 obtain ⟨ji7, hji7⟩ : ∃ j_ : Int, (IntKind.u64.wrap (t256)) = j_ := ⟨_, rfl⟩
 replace H : (if 0 ≤ (ji7) then (if 0 ≤ (IntKind.u64.wrap (64 - (ji7))) then (if ((shl .u64 a2 (ji7)) / 4294967296) = 0 then (none) else (bits_Div64q.l0 k (shl .u64 a2 (ji7)) ji7 ((shl .u64 a2 (ji7)) / 4294967296) (Go.bits .and .u64 (shl .u64 a2 (ji7)) 4294967295) (Go.bits .or .u64 (shl .u64 a0 (ji7)) (shr .u64 a1 (IntKind.u64.wrap (64 - (ji7))))) ((shl .u64 a1 (ji7)) / 4294967296) (Go.bits .and .u64 (shl .u64 a1 (ji7)) 4294967295) (IntKind.u64.wrap (Int.tdiv (Go.bits .or .u64 (shl .u64 a0 (ji7)) (shr .u64 a1 (IntKind.u64.wrap (64 - (ji7))))) ((shl .u64 a2 (ji7)) / 4294967296))) (IntKind.u64.wrap ((Go.bits .or .u64 (shl .u64 a0 (ji7)) (shr .u64 a1 (IntKind.u64.wrap (64 - (ji7))))) - (IntKind.u64.wrap ((IntKind.u64.wrap (Int.tdiv (Go.bits .or .u64 (shl .u64 a0 (ji7)) (shr .u64 a1 (IntKind.u64.wrap (64 - (ji7))))) ((shl .u64 a2 (ji7)) / 4294967296))) * ((shl .u64 a2 (ji7)) / 4294967296))))))) else (none)) else (none)) = some (r1, r2) := by first | (rw [hji7] at H; exact H) | (simp only [hji7] at H ⊢; exact H)
 (try rw [hji7] at A6)
 by_cases c8 : 0 ≤ (ji7)
 ·rw [if_pos c8] at H
  have c8b0 := eq_true c8
  have c8b1 : decide (0 ≤ (ji7)) = true := decide_eq_true c8
  clear c8
  obtain ⟨ji9, hji9⟩ : ∃ j_ : Int, (shl .u64 a2 (ji7)) = j_ := ⟨_, rfl⟩
  replace H : (if 0 ≤ (IntKind.u64.wrap (64 - (ji7))) then (if ((ji9) / 4294967296) = 0 then (none) else (bits_Div64q.l0 k ji9 ji7 ((ji9) / 4294967296) (Go.bits .and .u64 (ji9) 4294967295) (Go.bits .or .u64 (shl .u64 a0 (ji7)) (shr .u64 a1 (IntKind.u64.wrap (64 - (ji7))))) ((shl .u64 a1 (ji7)) / 4294967296) (Go.bits .and .u64 (shl .u64 a1 (ji7)) 4294967295) (IntKind.u64.wrap (Int.tdiv (Go.bits .or .u64 (shl .u64 a0 (ji7)) (shr .u64 a1 (IntKind.u64.wrap (64 - (ji7))))) ((ji9) / 4294967296))) (IntKind.u64.wrap ((Go.bits .or .u64 (shl .u64 a0 (ji7)) (shr .u64 a1 (IntKind.u64.wrap (64 - (ji7))))) - (IntKind.u64.wrap ((IntKind.u64.wrap (Int.tdiv (Go.bits .or .u64 (shl .u64 a0 (ji7)) (shr .u64 a1 (IntKind.u64.wrap (64 - (ji7))))) ((ji9) / 4294967296))) * ((ji9) / 4294967296))))))) else (none)) = some (r1, r2) := by first | (rw [hji9] at H; exact H) | (simp only [hji9] at H ⊢; exact H)
  (try rw [hji9] at A6)
  have hji9_ : (IntKind.u64.wrap (a2 * 2 ^ min (ji7).toNat 64)) = ji9 := hji9
  have hji9z : (ji7) ≤ 64 → (IntKind.u64.wrap (a2 * 2 ^ (ji7).toNat)) = ji9 := shl_small hji9
  have c10b0 := eq_true (of_decide_eq_true (by first | (with_reducible assumption) | assumption) : 0 ≤ (ji7))
  obtain ⟨ji11, hji11⟩ : ∃ j_ : Int, (shl .u64 a0 (ji7)) = j_ := ⟨_, rfl⟩
  replace H : (if 0 ≤ (IntKind.u64.wrap (64 - (ji7))) then (if ((ji9) / 4294967296) = 0 then (none) else (bits_Div64q.l0 k ji9 ji7 ((ji9) / 4294967296) (Go.bits .and .u64 (ji9) 4294967295) (Go.bits .or .u64 (ji11) (shr .u64 a1 (IntKind.u64.wrap (64 - (ji7))))) ((shl .u64 a1 (ji7)) / 4294967296) (Go.bits .and .u64 (shl .u64 a1 (ji7)) 4294967295) (IntKind.u64.wrap (Int.tdiv (Go.bits .or .u64 (ji11) (shr .u64 a1 (IntKind.u64.wrap (64 - (ji7))))) ((ji9) / 4294967296))) (IntKind.u64.wrap ((Go.bits .or .u64 (ji11) (shr .u64 a1 (IntKind.u64.wrap (64 - (ji7))))) - (IntKind.u64.wrap ((IntKind.u64.wrap (Int.tdiv (Go.bits .or .u64 (ji11) (shr .u64 a1 (IntKind.u64.wrap (64 - (ji7))))) ((ji9) / 4294967296))) * ((ji9) / 4294967296))))))) else (none)) = some (r1, r2) := by first | (rw [hji11] at H; exact H) | (simp only [hji11] at H ⊢; exact H)
  (try rw [hji11] at A6)
  have hji11_ : (IntKind.u64.wrap (a0 * 2 ^ min (ji7).toNat 64)) = ji11 := hji11
  have hji11z : (ji7) ≤ 64 → (IntKind.u64.wrap (a0 * 2 ^ (ji7).toNat)) = ji11 := shl_small hji11
  obtain ⟨ji12, hji12⟩ : ∃ j_ : Int, (IntKind.u64.wrap (64 - (ji7))) = j_ := ⟨_, rfl⟩
  replace H : (if 0 ≤ (ji12) then (if ((ji9) / 4294967296) = 0 then (none) else (bits_Div64q.l0 k ji9 ji7 ((ji9) / 4294967296) (Go.bits .and .u64 (ji9) 4294967295) (Go.bits .or .u64 (ji11) (shr .u64 a1 (ji12))) ((shl .u64 a1 (ji7)) / 4294967296) (Go.bits .and .u64 (shl .u64 a1 (ji7)) 4294967295) (IntKind.u64.wrap (Int.tdiv (Go.bits .or .u64 (ji11) (shr .u64 a1 (ji12))) ((ji9) / 4294967296))) (IntKind.u64.wrap ((Go.bits .or .u64 (ji11) (shr .u64 a1 (ji12))) - (IntKind.u64.wrap ((IntKind.u64.wrap (Int.tdiv (Go.bits .or .u64 (ji11) (shr .u64 a1 (ji12))) ((ji9) / 4294967296))) * ((ji9) / 4294967296))))))) else (none)) = some (r1, r2) := by first | (rw [hji12] at H; exact H) | (simp only [hji12] at H ⊢; exact H)
  (try rw [hji12] at A6)
  by_cases c13 : 0 ≤ (ji12)
  ·rw [if_pos c13] at H
   have c13b0 := eq_true c13
   have c13b1 : decide (0 ≤ (ji12)) = true := decide_eq_true c13
   clear c13
   obtain ⟨ji14, hji14⟩ : ∃ j_ : Int, (shr .u64 a1 (ji12)) = j_ := ⟨_, rfl⟩
   replace H : (if ((ji9) / 4294967296) = 0 then (none) else (bits_Div64q.l0 k ji9 ji7 ((ji9) / 4294967296) (Go.bits .and .u64 (ji9) 4294967295) (Go.bits .or .u64 (ji11) (ji14)) ((shl .u64 a1 (ji7)) / 4294967296) (Go.bits .and .u64 (shl .u64 a1 (ji7)) 4294967295) (IntKind.u64.wrap (Int.tdiv (Go.bits .or .u64 (ji11) (ji14)) ((ji9) / 4294967296))) (IntKind.u64.wrap ((Go.bits .or .u64 (ji11) (ji14)) - (IntKind.u64.wrap ((IntKind.u64.wrap (Int.tdiv (Go.bits .or .u64 (ji11) (ji14)) ((ji9) / 4294967296))) * ((ji9) / 4294967296))))))) = some (r1, r2) := by first | (rw [hji14] at H; exact H) | (simp only [hji14] at H ⊢; exact H)
   (try rw [hji14] at A6)
   have hji14_ : (a1 / 2 ^ min (ji12).toNat 64) = ji14 := hji14
   have hji14z : (ji12) ≤ 64 → (a1 / 2 ^ (ji12).toNat) = ji14 := shr_small hji14
   have c15b0 := eq_true (of_decide_eq_true (by first | (with_reducible assumption) | assumption) : 0 ≤ (ji7))
   obtain ⟨ji16, hji16⟩ : ∃ j_ : Int, (shl .u64 a1 (ji7)) = j_ := ⟨_, rfl⟩
   replace H : (if ((ji9) / 4294967296) = 0 then (none) else (bits_Div64q.l0 k ji9 ji7 ((ji9) / 4294967296) (Go.bits .and .u64 (ji9) 4294967295) (Go.bits .or .u64 (ji11) (ji14)) ((ji16) / 4294967296) (Go.bits .and .u64 (ji16) 4294967295) (IntKind.u64.wrap (Int.tdiv (Go.bits .or .u64 (ji11) (ji14)) ((ji9) / 4294967296))) (IntKind.u64.wrap ((Go.bits .or .u64 (ji11) (ji14)) - (IntKind.u64.wrap ((IntKind.u64.wrap (Int.tdiv (Go.bits .or .u64 (ji11) (ji14)) ((ji9) / 4294967296))) * ((ji9) / 4294967296))))))) = some (r1, r2) := by first | (rw [hji16] at H; exact H) | (simp only [hji16] at H ⊢; exact H)
   (try rw [hji16] at A6)
   have hji16_ : (IntKind.u64.wrap (a1 * 2 ^ min (ji7).toNat 64)) = ji16 := hji16
   have hji16z : (ji7) ≤ 64 → (IntKind.u64.wrap (a1 * 2 ^ (ji7).toNat)) = ji16 := shl_small hji16
   by_cases c17 : ((ji9) / 4294967296) = 0
   ·rw [if_pos c17] at H
    exact absurd H (by simp)
   rw [if_neg c17] at H
   have c17b0 : (((ji9) / 4294967296) == 0) = false := beq_eq_false_iff_ne.mpr c17
   have c17b1 : (((ji9) / 4294967296) != 0) = true := bne_iff_ne.mpr c17
   have HC18 := Aside0.mk H
   clear H
   go_enter Try.func162, Try.ntmps162
   go_upto_block 0 with (first | (go_at_call 186; (with_reducible refine (bits_LeadingZeros64.calls a2 t256 _ A6.out).mono ?_); rintro e w' ⟨rfl, ⟨nd, rfl⟩⟩; (try first | exact ⟨rfl, _, World.drewN_drewN _ _ _⟩ | exact ⟨rfl, _, Eq.trans (World.drewN_drewN _ _ _) (congrArg (World.drewN _) (Nat.add_assoc _ _ _))⟩)))
   repeat (go_quiet (first | (go_at_call 186; (with_reducible refine (bits_LeadingZeros64.calls a2 t256 _ A6.out).mono ?_); rintro e w' ⟨rfl, ⟨nd, rfl⟩⟩; (try first | exact ⟨rfl, _, World.drewN_drewN _ _ _⟩ | exact ⟨rfl, _, Eq.trans (World.drewN_drewN _ _ _) (congrArg (World.drewN _) (Nat.add_assoc _ _ _))⟩))); go_upto_block 0 with (first | (go_at_call 186; (with_reducible refine (bits_LeadingZeros64.calls a2 t256 _ A6.out).mono ?_); rintro e w' ⟨rfl, ⟨nd, rfl⟩⟩; (try first | exact ⟨rfl, _, World.drewN_drewN _ _ _⟩ | exact ⟨rfl, _, Eq.trans (World.drewN_drewN _ _ _) (congrArg (World.drewN _) (Nat.add_assoc _ _ _))⟩))))
   (try simp only [Act.put, List.setIfInBounds_toArray, List.set_cons_zero, List.set_cons_succ])
   go_cut [15] (fun v15 wc => ∃ (kq : Nat) (x15_17 : Int), v15 = .int .u64 x15_17 ∧ Aside0 (bits_Div64q.j2 kq ji9 ji7 ((ji9) / 4294967296) (Go.bits .and .u64 (ji9) 4294967295) (Go.bits .or .u64 (ji11) (ji14)) ((ji16) / 4294967296) (Go.bits .and .u64 (ji16) 4294967295) x15_17 = some (r1, r2)) ∧ Aside0 (kq ≤ k) ∧ Drawn0 w wc)
   case first =>
    have H := HC18.out
    clear HC18
    have H' := Aside0.mk H
    clear H
    go_wp2
    repeat (go_quiet (fail); try go_wp2)
    (try simp only [Act.put, List.setIfInBounds_toArray, List.set_cons_zero, List.set_cons_succ])
    go_loopg [15, 16] k (fun kq v15 v16 w' => ∃ (x15_1 : Int) (x16_1 : Int), v15 = .int .u64 x15_1 ∧ v16 = .int .u64 x16_1 ∧ Aside0 (bits_Div64q.l0 kq ji9 ji7 ((ji9) / 4294967296) (Go.bits .and .u64 (ji9) 4294967295) (Go.bits .or .u64 (ji11) (ji14)) ((ji16) / 4294967296) (Go.bits .and .u64 (ji16) 4294967295) x15_1 x16_1 = some (r1, r2)) ∧ Aside0 (kq ≤ k) ∧ Drawn0 w w')
    case atStart => exact ⟨(IntKind.u64.wrap (Int.tdiv (Go.bits .or .u64 (ji11) (ji14)) ((ji9) / 4294967296))), (IntKind.u64.wrap ((Go.bits .or .u64 (ji11) (ji14)) - (IntKind.u64.wrap ((IntKind.u64.wrap (Int.tdiv (Go.bits .or .u64 (ji11) (ji14)) ((ji9) / 4294967296))) * ((ji9) / 4294967296))))), (by first | rfl | (simp; done) | (simp only [← hji9, ← hji11, ← hji14] <;> (first | rfl | simp)) | (simp [*]; done)), (by first | rfl | (simp; done) | (simp only [← hji9, ← hji11, ← hji14] <;> (first | rfl | simp)) | (simp [*]; done)), H', ⟨Nat.le_refl _⟩, by repeat (first | exact Drawn0.refl _ | apply Drawn0.step)⟩
    case round =>
     clear H'
     try clear c1
     try clear p2
     try clear c4
     try clear c4b0
     try clear c4b1
     try clear c5
     try clear c5b0
     try clear c5b1
     try clear c8
     try clear c8b0
     try clear c8b1
     try clear c10
     try clear c10b0
     try clear c13
     try clear c13b0
     try clear c13b1
     try clear c15
     try clear c15b0
     try clear c16
     try clear c17
     try clear c17b0
     try clear c17b1
     obtain ⟨x15_1, x16_1, rfl, rfl, HA, HK1, ⟨m1, rfl⟩⟩ := hrel
     cases gk with
     | zero => exact absurd HA.out (by simp [bits_Div64q.l0])
     | succ k1 =>
      have H := HA.out
      clear HA
      simp only [bits_Div64q.l0] at H
      have HC19 := Aside0.mk H
      clear H
      go_upto_region 17 with (fail)
      repeat (go_quiet (fail); go_upto_region 17 with (fail))
      go_cut [78] (fun v78 wc => ∃ (kq : Nat) (x78_18 : Bool), v78 = .bool x78_18 ∧ Aside0 (bits_Div64q.j1 kq ji9 ji7 ((ji9) / 4294967296) (Go.bits .and .u64 (ji9) 4294967295) (Go.bits .or .u64 (ji11) (ji14)) ((ji16) / 4294967296) (Go.bits .and .u64 (ji16) 4294967295) x15_1 x16_1 x78_18 = some (r1, r2)) ∧ Aside0 (kq ≤ k1) ∧ Drawn0 w wc)
      case first =>
       have H := HC19.out
       clear HC19
       by_cases c20 : x15_1 ≥ 4294967296
       ·rw [if_pos c20] at H
        have c20b0 : decide (4294967296 ≤ x15_1) = true := decide_eq_true c20
        clear c20
        (first | rw [c20b0] | (simp only [i64_w, i32_w]; rw [c20b0]) | skip)
        have H' := Aside0.mk H
        clear H
        go_wp2
        repeat (go_quiet (fail); try go_wp2)
        go_meet
        case rel => exact ⟨_, (true), zrl, H', ⟨by have := HK1.out; first | omega | exact Nat.le_refl _⟩, by repeat (first | exact Drawn0.refl _ | apply Drawn0.step)⟩
       rw [if_neg c20] at H
       have c20b0 : decide (4294967296 ≤ x15_1) = false := decide_eq_false c20
       clear c20
       (first | rw [c20b0] | (simp only [i64_w, i32_w]; rw [c20b0]) | skip)
       have H' := Aside0.mk H
       clear H
       go_wp2
       repeat (go_quiet (fail); try go_wp2)
       go_meet
       case rel => exact ⟨_, (decide ((IntKind.u64.wrap (x15_1 * (Go.bits .and .u64 (ji9) 4294967295))) > (IntKind.u64.wrap ((IntKind.u64.wrap (4294967296 * x16_1)) + ((ji16) / 4294967296))))), (by first | rfl | (simp; done) | (simp only [← hji9, ← hji16] <;> (first | rfl | simp)) | (simp [*]; done)), H', ⟨by have := HK1.out; first | omega | exact Nat.le_refl _⟩, by repeat (first | exact Drawn0.refl _ | apply Drawn0.step)⟩
      case rest =>
       clear HC19
       try clear c1
       try clear c2
       try clear p2
       try clear c4
       try clear c4b0
       try clear c4b1
       try clear c5
       try clear c5b0
       try clear c5b1
       try clear c8
       try clear c8b0
       try clear c8b1
       try clear c10
       try clear c10b0
       try clear c13
       try clear c13b0
       try clear c13b1
       try clear c15
       try clear c15b0
       try clear c16
       try clear c17
       try clear c17b0
       try clear c17b1
       try clear c20
       try clear c20b0
       try clear p2
       obtain ⟨kq, x78_18, rfl, HA, HJ18, ⟨mc18, rfl⟩⟩ := hcut
       cases kq with
       | zero => exact absurd HA.out (by simp [bits_Div64q.j1])
       | succ kj18 =>
        have H := HA.out
        clear HA
        simp only [bits_Div64q.j1] at H
        by_cases c21 : x78_18 = true
        ·subst c21
         replace H := zit H
         by_cases c22 : (IntKind.u64.wrap (x16_1 + ((ji9) / 4294967296))) ≥ 4294967296
         ·rw [if_pos c22] at H
          have c22b0 : decide (4294967296 ≤ (IntKind.u64.wrap (x16_1 + ((ji9) / 4294967296)))) = true := decide_eq_true c22
          clear c22
          have H' := Aside0.mk H
          clear H
          go_wp2
          repeat (go_quiet (fail); try go_wp2)
          go_meet
          case rel => exact ⟨_, (IntKind.u64.wrap (x15_1 - 1)), zrl, H', ⟨by have := HK1.out; have := HJ18.out; first | omega | exact Nat.le_refl _⟩, by repeat (first | exact Drawn0.refl _ | apply Drawn0.step)⟩
         rw [if_neg c22] at H
         have c22b0 : decide (4294967296 ≤ (IntKind.u64.wrap (x16_1 + ((ji9) / 4294967296)))) = false := decide_eq_false c22
         clear c22
         have H' := Aside0.mk H
         clear H
         go_wp2
         repeat (go_quiet (fail); try go_wp2)
         go_roundg kj18
         case measure => have := HK1.out; have := HJ18.out; omega
         case rel => exact ⟨(IntKind.u64.wrap (x15_1 - 1)), (IntKind.u64.wrap (x16_1 + ((ji9) / 4294967296))), zrl, (by first | rfl | (simp; done) | (simp only [← hji9] <;> (first | rfl | simp)) | (simp [*]; done)), H', ⟨by have := HK1.out; have := HJ18.out; omega⟩, by repeat (first | exact Drawn0.refl _ | apply Drawn0.step)⟩
        replace c21 := Bool.eq_false_iff.mpr c21
        subst c21
        replace H := zif H
        have H' := Aside0.mk H
        clear H
        go_wp2
        repeat (go_quiet (fail); try go_wp2)
        go_meet
        case rel => exact ⟨_, (x15_1), zrl, H', ⟨by have := HK1.out; have := HJ18.out; first | omega | exact Nat.le_refl _⟩, by repeat (first | exact Drawn0.refl _ | apply Drawn0.step)⟩
   case rest =>
    clear HC18
    try clear c1
    try clear c2
    try clear p2
    try clear c4
    try clear c4b0
    try clear c4b1
    try clear c5
    try clear c5b0
    try clear c5b1
    try clear c8
    try clear c8b0
    try clear c8b1
    try clear c10
    try clear c10b0
    try clear c13
    try clear c13b0
    try clear c13b1
    try clear c15
    try clear c15b0
    try clear c16
    try clear c17
    try clear c17b0
    try clear c17b1
    try clear c18
    try clear c20
    try clear c20b0
    try clear c21
    try clear c22
    try clear c22b0
    try clear p2
    obtain ⟨kq, x15_17, rfl, HA, HJ17, ⟨mc17, rfl⟩⟩ := hcut
    cases kq with
    | zero => exact absurd HA.out (by simp [bits_Div64q.j2])
    | succ kj17 =>
     have H := HA.out
     clear HA
     simp only [bits_Div64q.j2] at H
     by_cases c23 : ((ji9) / 4294967296) = 0
     ·rw [if_pos c23] at H
      exact absurd H (by simp)
     rw [if_neg c23] at H
     have c23b0 : (((ji9) / 4294967296) == 0) = false := beq_eq_false_iff_ne.mpr c23
     have c23b1 : (((ji9) / 4294967296) != 0) = true := bne_iff_ne.mpr c23
     have H' := Aside0.mk H
     clear H
     go_wp2
     repeat (go_quiet (fail); try go_wp2)
     (try simp only [Act.put, List.setIfInBounds_toArray, List.set_cons_zero, List.set_cons_succ])
     go_loopg [16, 18] kj17 (fun kq v16 v18 w' => ∃ (x16_2 : Int) (x18_2 : Int), v16 = .int .u64 x16_2 ∧ v18 = .int .u64 x18_2 ∧ Aside0 (bits_Div64q.l1 kq ji9 ji7 ((ji9) / 4294967296) (Go.bits .and .u64 (ji9) 4294967295) (Go.bits .and .u64 (ji16) 4294967295) x15_17 x16_2 (IntKind.u64.wrap ((IntKind.u64.wrap ((IntKind.u64.wrap ((Go.bits .or .u64 (ji11) (ji14)) * 4294967296)) + ((ji16) / 4294967296))) - (IntKind.u64.wrap (x15_17 * ji9)))) x18_2 = some (r1, r2)) ∧ Aside0 (kq ≤ kj17) ∧ Drawn0 w w')
     case atStart => exact ⟨(IntKind.u64.wrap ((IntKind.u64.wrap ((IntKind.u64.wrap ((IntKind.u64.wrap ((Go.bits .or .u64 (ji11) (ji14)) * 4294967296)) + ((ji16) / 4294967296))) - (IntKind.u64.wrap (x15_17 * ji9)))) - (IntKind.u64.wrap ((IntKind.u64.wrap (Int.tdiv (IntKind.u64.wrap ((IntKind.u64.wrap ((IntKind.u64.wrap ((Go.bits .or .u64 (ji11) (ji14)) * 4294967296)) + ((ji16) / 4294967296))) - (IntKind.u64.wrap (x15_17 * ji9)))) ((ji9) / 4294967296))) * ((ji9) / 4294967296))))), (IntKind.u64.wrap (Int.tdiv (IntKind.u64.wrap ((IntKind.u64.wrap ((IntKind.u64.wrap ((Go.bits .or .u64 (ji11) (ji14)) * 4294967296)) + ((ji16) / 4294967296))) - (IntKind.u64.wrap (x15_17 * ji9)))) ((ji9) / 4294967296))), (by first | rfl | (simp; done) | (simp only [← hji9, ← hji11, ← hji14, ← hji16] <;> (first | rfl | simp)) | (simp [*]; done)), (by first | rfl | (simp; done) | (simp only [← hji9, ← hji11, ← hji14, ← hji16] <;> (first | rfl | simp)) | (simp [*]; done)), H', ⟨Nat.le_refl _⟩, by repeat (first | exact Drawn0.refl _ | apply Drawn0.step)⟩
     case round =>
      clear H'
      try clear c1
      try clear c2
      try clear p2
      try clear c4
      try clear c4b0
      try clear c4b1
      try clear c5
      try clear c5b0
      try clear c5b1
      try clear c8
      try clear c8b0
      try clear c8b1
      try clear c10
      try clear c10b0
      try clear c13
      try clear c13b0
      try clear c13b1
      try clear c15
      try clear c15b0
      try clear c16
      try clear c17
      try clear c17b0
      try clear c17b1
      try clear c18
      try clear c20
      try clear c20b0
      try clear c21
      try clear c22
      try clear c22b0
      try clear c23
      try clear c23b0
      try clear c23b1
      try clear p2
      obtain ⟨x16_2, x18_2, rfl, rfl, HA, HK2, ⟨m2, rfl⟩⟩ := hrel
      cases gk with
      | zero => exact absurd HA.out (by simp [bits_Div64q.l1])
      | succ k2 =>
       have H := HA.out
       clear HA
       simp only [bits_Div64q.l1] at H
       have HC24 := Aside0.mk H
       clear H
       go_upto_region 24 with (fail)
       repeat (go_quiet (fail); go_upto_region 24 with (fail))
       go_cut [113] (fun v113 wc => ∃ (kq : Nat) (x113_23 : Bool), v113 = .bool x113_23 ∧ Aside0 (bits_Div64q.j4 kq ji9 ji7 ((ji9) / 4294967296) (Go.bits .and .u64 (ji9) 4294967295) (Go.bits .and .u64 (ji16) 4294967295) x15_17 x16_2 (IntKind.u64.wrap ((IntKind.u64.wrap ((IntKind.u64.wrap ((Go.bits .or .u64 (ji11) (ji14)) * 4294967296)) + ((ji16) / 4294967296))) - (IntKind.u64.wrap (x15_17 * ji9)))) x18_2 x113_23 = some (r1, r2)) ∧ Aside0 (kq ≤ k2) ∧ Drawn0 w wc)
       case first =>
        have H := HC24.out
        clear HC24
        by_cases c25 : x18_2 ≥ 4294967296
        ·rw [if_pos c25] at H
         have c25b0 : decide (4294967296 ≤ x18_2) = true := decide_eq_true c25
         clear c25
         (first | rw [c25b0] | (simp only [i64_w, i32_w]; rw [c25b0]) | skip)
         have H' := Aside0.mk H
         clear H
         go_wp2
         repeat (go_quiet (fail); try go_wp2)
         go_meet
         case rel => exact ⟨_, (true), zrl, H', ⟨by have := HJ17.out; have := HK2.out; first | omega | exact Nat.le_refl _⟩, by repeat (first | exact Drawn0.refl _ | apply Drawn0.step)⟩
        rw [if_neg c25] at H
        have c25b0 : decide (4294967296 ≤ x18_2) = false := decide_eq_false c25
        clear c25
        (first | rw [c25b0] | (simp only [i64_w, i32_w]; rw [c25b0]) | skip)
        have H' := Aside0.mk H
        clear H
        go_wp2
        repeat (go_quiet (fail); try go_wp2)
        go_meet
        case rel => exact ⟨_, (decide ((IntKind.u64.wrap (x18_2 * (Go.bits .and .u64 (ji9) 4294967295))) > (IntKind.u64.wrap ((IntKind.u64.wrap (4294967296 * x16_2)) + (Go.bits .and .u64 (ji16) 4294967295))))), (by first | rfl | (simp; done) | (simp only [← hji9, ← hji16] <;> (first | rfl | simp)) | (simp [*]; done)), H', ⟨by have := HJ17.out; have := HK2.out; first | omega | exact Nat.le_refl _⟩, by repeat (first | exact Drawn0.refl _ | apply Drawn0.step)⟩
       case rest =>
        clear HC24
        try clear c1
        try clear c2
        try clear p2
        try clear c4
        try clear c4b0
        try clear c4b1
        try clear c5
        try clear c5b0
        try clear c5b1
        try clear c8
        try clear c8b0
        try clear c8b1
        try clear c10
        try clear c10b0
        try clear c13
        try clear c13b0
        try clear c13b1
        try clear c15
        try clear c15b0
        try clear c16
        try clear c17
        try clear c17b0
        try clear c17b1
        try clear c18
        try clear c20
        try clear c20b0
        try clear c21
        try clear c22
        try clear c22b0
        try clear c23
        try clear c23b0
        try clear c23b1
        try clear c25
        try clear c25b0
        try clear p2
        obtain ⟨kq, x113_23, rfl, HA, HJ23, ⟨mc23, rfl⟩⟩ := hcut
        cases kq with
        | zero => exact absurd HA.out (by simp [bits_Div64q.j4])
        | succ kj23 =>
         have H := HA.out
         clear HA
         simp only [bits_Div64q.j4] at H
         by_cases c26 : x113_23 = true
         ·subst c26
          replace H := zit H
          by_cases c27 : (IntKind.u64.wrap (x16_2 + ((ji9) / 4294967296))) ≥ 4294967296
          ·rw [if_pos c27] at H
           have c27b0 : decide (4294967296 ≤ (IntKind.u64.wrap (x16_2 + ((ji9) / 4294967296)))) = true := decide_eq_true c27
           clear c27
           by_cases c28 : 0 ≤ ji7
           ·rw [if_pos c28] at H
            have c28b0 := eq_true c28
            have c28b1 : decide (0 ≤ ji7) = true := decide_eq_true c28
            clear c28
            obtain ⟨ji29, hji29⟩ : ∃ j_ : Int, (shr .u64 (IntKind.u64.wrap ((IntKind.u64.wrap ((IntKind.u64.wrap ((IntKind.u64.wrap ((IntKind.u64.wrap ((IntKind.u64.wrap ((Go.bits .or .u64 (ji11) (ji14)) * 4294967296)) + ((ji16) / 4294967296))) - (IntKind.u64.wrap (x15_17 * ji9)))) * 4294967296)) + (Go.bits .and .u64 (ji16) 4294967295))) - (IntKind.u64.wrap ((IntKind.u64.wrap (x18_2 - 1)) * ji9)))) ji7) = j_ := ⟨_, rfl⟩
            replace H : (some (IntKind.u64.wrap ((IntKind.u64.wrap (x15_17 * 4294967296)) + (IntKind.u64.wrap (x18_2 - 1))), ji29)) = some (r1, r2) := by first | (rw [hji29] at H; exact H) | (simp only [hji29] at H ⊢; exact H)
            have hji29_ : ((IntKind.u64.wrap ((IntKind.u64.wrap ((IntKind.u64.wrap ((IntKind.u64.wrap ((IntKind.u64.wrap ((IntKind.u64.wrap ((Go.bits .or .u64 (ji11) (ji14)) * 4294967296)) + ((ji16) / 4294967296))) - (IntKind.u64.wrap (x15_17 * ji9)))) * 4294967296)) + (Go.bits .and .u64 (ji16) 4294967295))) - (IntKind.u64.wrap ((IntKind.u64.wrap (x18_2 - 1)) * ji9)))) / 2 ^ min ji7.toNat 64) = ji29 := hji29
            have hji29z : ji7 ≤ 64 → ((IntKind.u64.wrap ((IntKind.u64.wrap ((IntKind.u64.wrap ((IntKind.u64.wrap ((IntKind.u64.wrap ((IntKind.u64.wrap ((Go.bits .or .u64 (ji11) (ji14)) * 4294967296)) + ((ji16) / 4294967296))) - (IntKind.u64.wrap (x15_17 * ji9)))) * 4294967296)) + (Go.bits .and .u64 (ji16) 4294967295))) - (IntKind.u64.wrap ((IntKind.u64.wrap (x18_2 - 1)) * ji9)))) / 2 ^ ji7.toNat) = ji29 := shr_small hji29
            simp only [Option.some.injEq, Prod.mk.injEq] at H
            obtain ⟨rfl, rfl⟩ := H
            go_wp2
            repeat (go_quiet (fail); try go_wp2)
            go_ret2
            exact ⟨by first | rfl | (simp; done) | (simp only [← hji7, ← hji9, ← hji11, ← hji12, ← hji14, ← hji16, ← hji29] <;> (first | rfl | simp)) | (simp [*]; done), by repeat (first | exact Drawn0.refl _ | apply Drawn0.step)⟩
           rw [if_neg c28] at H
           exact absurd H (by simp)
          rw [if_neg c27] at H
          have c27b0 : decide (4294967296 ≤ (IntKind.u64.wrap (x16_2 + ((ji9) / 4294967296)))) = false := decide_eq_false c27
          clear c27
          have H' := Aside0.mk H
          clear H
          go_wp2
          repeat (go_quiet (fail); try go_wp2)
          go_roundg kj23
          case measure => have := HJ17.out; have := HK2.out; have := HJ23.out; omega
          case rel => exact ⟨(IntKind.u64.wrap (x16_2 + ((ji9) / 4294967296))), (IntKind.u64.wrap (x18_2 - 1)), (by first | rfl | (simp; done) | (simp only [← hji9] <;> (first | rfl | simp)) | (simp [*]; done)), zrl, H', ⟨by have := HJ17.out; have := HK2.out; have := HJ23.out; omega⟩, by repeat (first | exact Drawn0.refl _ | apply Drawn0.step)⟩
         replace c26 := Bool.eq_false_iff.mpr c26
         subst c26
         replace H := zif H
         by_cases c30 : 0 ≤ ji7
         ·rw [if_pos c30] at H
          have c30b0 := eq_true c30
          have c30b1 : decide (0 ≤ ji7) = true := decide_eq_true c30
          clear c30
          obtain ⟨ji31, hji31⟩ : ∃ j_ : Int, (shr .u64 (IntKind.u64.wrap ((IntKind.u64.wrap ((IntKind.u64.wrap ((IntKind.u64.wrap ((IntKind.u64.wrap ((IntKind.u64.wrap ((Go.bits .or .u64 (ji11) (ji14)) * 4294967296)) + ((ji16) / 4294967296))) - (IntKind.u64.wrap (x15_17 * ji9)))) * 4294967296)) + (Go.bits .and .u64 (ji16) 4294967295))) - (IntKind.u64.wrap (x18_2 * ji9)))) ji7) = j_ := ⟨_, rfl⟩
          replace H : (some (IntKind.u64.wrap ((IntKind.u64.wrap (x15_17 * 4294967296)) + x18_2), ji31)) = some (r1, r2) := by first | (rw [hji31] at H; exact H) | (simp only [hji31] at H ⊢; exact H)
          have hji31_ : ((IntKind.u64.wrap ((IntKind.u64.wrap ((IntKind.u64.wrap ((IntKind.u64.wrap ((IntKind.u64.wrap ((IntKind.u64.wrap ((Go.bits .or .u64 (ji11) (ji14)) * 4294967296)) + ((ji16) / 4294967296))) - (IntKind.u64.wrap (x15_17 * ji9)))) * 4294967296)) + (Go.bits .and .u64 (ji16) 4294967295))) - (IntKind.u64.wrap (x18_2 * ji9)))) / 2 ^ min ji7.toNat 64) = ji31 := hji31
          have hji31z : ji7 ≤ 64 → ((IntKind.u64.wrap ((IntKind.u64.wrap ((IntKind.u64.wrap ((IntKind.u64.wrap ((IntKind.u64.wrap ((IntKind.u64.wrap ((Go.bits .or .u64 (ji11) (ji14)) * 4294967296)) + ((ji16) / 4294967296))) - (IntKind.u64.wrap (x15_17 * ji9)))) * 4294967296)) + (Go.bits .and .u64 (ji16) 4294967295))) - (IntKind.u64.wrap (x18_2 * ji9)))) / 2 ^ ji7.toNat) = ji31 := shr_small hji31
          simp only [Option.some.injEq, Prod.mk.injEq] at H
          obtain ⟨rfl, rfl⟩ := H
          go_wp2
          repeat (go_quiet (fail); try go_wp2)
          go_ret2
          exact ⟨by first | rfl | (simp; done) | (simp only [← hji7, ← hji9, ← hji11, ← hji12, ← hji14, ← hji16, ← hji31] <;> (first | rfl | simp)) | (simp [*]; done), by repeat (first | exact Drawn0.refl _ | apply Drawn0.step)⟩
         rw [if_neg c30] at H
         exact absurd H (by simp)
  rw [if_neg c13] at H
  exact absurd H (by simp)
 rw [if_neg c8] at H
 exact absurd H (by simp)
theorem bits_Div64.calls (a0 : Int) (a1 : Int) (a2 : Int) (r1 : Int) (r2 : Int) (w : World) (h : bits_Div64.f a0 a1 a2 = some (r1, r2)) :
  Calls Try.prog 162 #[.int .u64 a0, .int .u64 a1, .int .u64 a2] w fun e w' => e = .returned (.tuple #[.int .u64 r1, .int .u64 r2]) ∧ Below w.heap.size w w' := by
 unfold bits_Div64.f at h
 split at h
 ·rename_i g
  obtain ⟨k, hk⟩ : ∃ k, bits_Div64q.f k a0 a1 a2 = some (r1, r2) := by
   rw [← h]; exact M.Dv64_ok a0 a1 a2 g
  refine (bits_Div64q.walk k a0 a1 a2 r1 r2 w (beq_eq_false_iff_ne.2 (by omega)) (decide_eq_false (by omega)) hk).mono ?_
  rintro e w' ⟨rfl, ⟨nd, rfl⟩⟩
  exact ⟨rfl, by apply pw_below_drewN; exact Below.refl _ _⟩
 cases h
theorem wide_U128_Div.calls (a0_0 : Int) (a0_1 : Int) (a1 : Int) (r1 : Int) (r2 : Int) (r3 : Int) (w : World) (h : wide_U128_Div.f a0_0 a0_1 a1 = some (r1, r2, r3)) :
  Calls Try.prog 104 #[.agg #[.int .u64 a0_0, .int .u64 a0_1], .int .u64 a1] w fun e w' => e = .returned (.tuple #[.agg #[.int .u64 r1, .int .u64 r2], .int .u64 r3]) ∧ Below w.heap.size w w' := by
 have hu109 := Try.underlying109
 have HB := Aside0.mk (Below.refl w.heap.size w)
 have H : (if a1 = 0 then (some (0, 0, 0)) else ((bits_Div64.f 0 a0_0 a1).bind fun bt258 => ((bits_Div64.f bt258.2 a0_1 a1).bind fun bt260 => (some (bt258.1, bt260.1, bt260.2))))) = some (r1, r2, r3) := h
 clear h
 by_cases c3 : a1 = 0
 ·rw [if_pos c3] at H
  have c3b0 : (a1 == 0) = true := beq_iff_eq.mpr c3
  have c3b1 : (a1 != 0) = false := bne_eq_false_iff_eq.mpr c3
  clear c3
  simp only [Option.some.injEq, Prod.mk.injEq] at H
  obtain ⟨rfl, rfl, rfl⟩ := H
  go_enter Try.func104, Try.ntmps104
  go_wp2_with (first | ((with_reducible refine gtd 2 rfl ?_); refine zbx 2 #[.int .u64 a0_0, .int .u64 a0_1] 109 (h := ?_); intro gb256 hg w4 hbox hb; have GW256 := zkZ hg (zaB (p := Below w.heap.size w _)); replace HB := Aside0.mk (below_step zaB hb); have BK256 := Aside0.mk (hbox); clear hb hbox hg) | ((with_reducible refine gtd 4 rfl ?_); refine zbx 4 #[.int .u64 0, .int .u64 0] 109 (h := ?_); intro gb257 hg w5 hbox hb; have GW257 := zkz HB hg; have NB256_257 := zkl BK256 hg; have NB257_256 := zkr BK256 hg; replace BK256 := zkb BK256 hb; replace HB := zkB HB hb; have BK257 := Aside0.mk (hbox); clear hb hbox hg; obtain ⟨_, _⟩ := zsy NB257_256; obtain ⟨_, _, _, _⟩ := zq2 BK257))
  refine bodyPost_ret (results_ct rfl _ _ gb257 109 #[.int .u64 0, .int .u64 0] (0, 0) _ rfl (blk_put (cs := #[.int .u64 0, .int .u64 0]) (blk_put (zkq BK257) 0 _ rfl) 1 _ rfl) Try.underlying109 rfl (by kernel_rfl)) rfl ?_
  exact ⟨zaE, zaB⟩
 rw [if_neg c3] at H
 have c3b0 : (a1 == 0) = false := beq_eq_false_iff_ne.mpr c3
 have c3b1 : (a1 != 0) = true := bne_iff_ne.mpr c3
 obtain ⟨⟨t258, t259⟩, A8, H⟩ := zbs H
 try dsimp only at H
 obtain ⟨⟨t260, t261⟩, A9, H⟩ := zbs H
 try dsimp only at H
 simp only [Option.some.injEq, Prod.mk.injEq] at H
 obtain ⟨rfl, rfl, rfl⟩ := H
 go_enter Try.func104, Try.ntmps104
 go_wp2_with (first | ((with_reducible refine gtd 2 rfl ?_); refine zbx 2 #[.int .u64 a0_0, .int .u64 a0_1] 109 (h := ?_); intro gb256 hg w10 hbox hb; have GW256 := zkZ hg (zaB (p := Below w.heap.size w _)); replace HB := Aside0.mk (below_step zaB hb); have BK256 := Aside0.mk (hbox); clear hb hbox hg) | ((with_reducible refine gtd 4 rfl ?_); refine zbx 4 #[.int .u64 0, .int .u64 0] 109 (h := ?_); intro gb257 hg w11 hbox hb; have GW257 := zkz HB hg; have NB256_257 := zkl BK256 hg; have NB257_256 := zkr BK256 hg; replace BK256 := zkb BK256 hb; replace HB := zkB HB hb; have BK257 := Aside0.mk (hbox); clear hb hbox hg; obtain ⟨_, _⟩ := zsy NB256_257; obtain ⟨_, _, _, _⟩ := zq2 BK256) | ((with_reducible refine gtc 162 rfl ?_); refine zgL 16 Try.func162 (bits_Div64.calls 0 a0_0 a1 t258 t259 _ A8.out) (h := ?_); rintro w14 hb; replace BK256 := zkb BK256 hb; replace BK257 := zkb BK257 hb; replace HB := zkB HB hb; (try clear hb); obtain ⟨_, _, _, _⟩ := zq2 BK256) | ((with_reducible refine gtc 162 rfl ?_); refine zgL 24 Try.func162 (bits_Div64.calls t259 a0_1 a1 t260 t261 _ A9.out) (h := ?_); rintro w16 hb; replace BK256 := zkb BK256 hb; replace BK257 := zkb BK257 hb; replace HB := zkB HB hb; (try clear hb); obtain ⟨_, _, _, _⟩ := zq2 BK257))
 refine bodyPost_ret (results_ct rfl _ _ gb257 109 #[.int .u64 t258, .int .u64 t260] (0, 0) _ rfl (blk_put (cs := #[.int .u64 t258, .int .u64 0]) (blk_put (zkq BK257) 0 _ rfl) 1 _ rfl) Try.underlying109 rfl (by kernel_rfl)) rfl ?_
 exact ⟨zaE, zaB⟩
end Go.Proofs.Ytmadjhmecfbcmaa.F
end
