/- The walk of the law SpanTests and what it computes, part 4 of 6: no conditions. -/
import Derived.Test.YtmadjhmecfbcmaaASpanTests3
import Derived.Laws.BitsAllLaws
import Derived.Lib.ItoaNum
set_option linter.unusedVariables false
set_option linter.unusedSimpArgs false
section
namespace Go.Proofs.Ytmadjhmecfbcmaa.F
open Go.RowKit Go.Proofs.YtmadjhmecfbcmaaW.PrintWords Go.Proofs.YtmadjhmecfbcmaaW.PrintLast Go.Proofs.YtmadjhmecfbcmaaW.PrintMore
attribute [local go_sem] max2_int min2_int max_two min_two max_three min_three max_four min_four
set_option linter.unusedVariables false
set_option linter.unusedSimpArgs false
set_option maxHeartbeats 8000000
set_option maxRecDepth 100000
def span_Mul_corners.T8 : Bool × List (List Nat × List Nat) := (true, [([], []), ([], []), ([], []), ([], []), ([1, 2, 3], [1, 2, 3]), ([], []), ([], []), ([], []), ([5, 6, 7, 4], [5, 6, 7]), ([4, 8, 8], [4, 8]), ([0, 9], [0, 9]), ([10, 9], [10]), ([11, 11, 0, 1, 2, 3, 4, 5, 6, 7, 8, 9, 10, 11], [11])])
def span_Mul_corners.B8 : List Nat := [0, 0, 0, 0, 14, 0, 0, 0, 254, 510, 1023, 2047, 4095]
theorem span_Mul_corners.tab8 : rtab .any (opsOf Try.f136 8) = span_Mul_corners.T8 := by kernel_rfl
theorem span_Mul_corners.bits8 : waitsOk span_Mul_corners.T8.2 span_Mul_corners.B8 = true := by kernel_rfl
theorem span_Mul_corners.goes (k : Nat) (a0_0 : Bool) (a0_1 : Int) (a0_2 : Int) (a1_0 : Bool) (a1_1 : Int) (a1_2 : Int) (a2 : Int) (r1 : Bool) (r2 : Int) (r3 : Int) (w : World) (h : span_Mul_corners.f k a0_0 a0_1 a0_2 a1_0 a1_1 a1_2 a2 = some (r1, r2, r3)) :
  Calls Try.prog 136 #[.agg #[.bool a0_0, .int .u64 a0_1, .int .u64 a0_2], .agg #[.bool a1_0, .int .u64 a1_1, .int .u64 a1_2], .func (.func 137) #[] #[]] w fun e w' => e = .returned (.agg #[.bool r1, .int .u64 r2, .int .u64 r3]) ∧ Below w.heap.size w w' := by
 have hu_ := Try.underlying43
 have HB := Aside0.mk (Below.refl w.heap.size w)
 have H := h
 unfold span_Mul_corners.f at H
 clear h
 obtain ⟨⟨t930, t931, t932⟩, A4, H⟩ := zbs H
 try dsimp only at H
 obtain ⟨y934, hy934⟩ : ∃ y_ : List Int, y_ = (([a0_1, a0_2] : List Int)) := ⟨_, rfl⟩
 replace H : (span_Mul_corners.l0 k y934 (y934.length : Int) 0 a1_0 a1_1 a1_2 t930 t931 t932) = some (r1, r2, r3) := by first | (rw [hy934]; with_reducible exact H) | (have H2_ := (Option.bind_some _ _).symm.trans H; rw [hy934]; with_reducible exact H2_) | (have H2_ := (Option.bind_some _ _).symm.trans H; with_reducible exact H2_) | with_reducible exact H | (rw [hy934]; exact H) | exact H
 have Ny934 := Aside0.mk hy934
 clear hy934
 have H' := Aside0.mk H
 clear H
 go_enter Try.func136, Try.ntmps136
 go_wp2_with (first | ((with_reducible refine gtd 3 rfl ?_); refine zbx 3 #[.bool a0_0, .int .u64 a0_1, .int .u64 a0_2] 43 (h := ?_); intro gb927 hg w5 hbox hb; have GW927 := zkZ hg (zaB (p := Below w.heap.size w _)); replace HB := Aside0.mk (below_step zaB hb); have BK927 := Aside0.mk (hbox); clear hb hbox hg) | ((with_reducible refine gtd 4 rfl ?_); refine zbx 4 #[.bool a1_0, .int .u64 a1_1, .int .u64 a1_2] 43 (h := ?_); intro gb928 hg w6 hbox hb; refine zbn1 HB BK927 hg hb hbox (c := ?_); clear HB BK927 hb hbox hg; intro GW928 NB927_928 BK927 HB BK928) | ((with_reducible refine gtd 6 rfl ?_); refine zbx 6 #[.bool false, .int .u64 0, .int .u64 0] 43 (h := ?_); intro gb929 hg w7 hbox hb; refine zbn2 HB BK927 BK928 hg hb hbox (c := ?_); clear HB BK927 BK928 hb hbox hg; intro GW929 NB927_929 NB928_929 BK927 BK928 HB BK929) | ((with_reducible refine gtc 118 rfl ?_); refine zgL 12 Try.func118 (span_none.calls  t930 t931 t932 _ A4.out) (h := ?_); rintro w8 hb; refine zcn3 HB BK927 BK928 BK929 hb (c := ?_); clear HB BK927 BK928 BK929 hb; intro BK927 BK928 BK929 HB) | ((with_reducible refine gtd 7 rfl ?_); refine zbx 7 #[.bool false, .int .u64 0, .int .u64 0] 43 (h := ?_); intro gb933 hg w9 hbox hb; refine zbn3 HB BK927 BK928 BK929 hg hb hbox (c := ?_); clear HB BK927 BK928 BK929 hb hbox hg; intro GW933 NB927_933 NB928_933 NB929_933 BK927 BK928 BK929 HB BK933; refine zt3 NB927_933 NB928_933 NB929_933 fun _ _ _ _ _ _ => ?_; refine zu3 BK933 fun z13_0 z13_1 z13_2 f13_0 f13_1 f13_2 => ?_; refine zt2 NB927_928 NB927_929 fun _ _ _ _ => ?_; refine zu3 BK927 fun z16_0 z16_1 z16_2 f16_0 f16_1 f16_2 => ?_) | ((with_reducible refine gtd 17 rfl ?_); refine Kd.R_lit (Kd.int .u64) _ 23 ?hg (N := 17) ?hd (xs := ([a0_1, a0_2] : List Int)) (inner := [.int .u64 a0_1, .int .u64 a0_2]) (ok := fun _ => True) (okp := fun _ => True) ?hr ?hp (fun _ hk => hk) trivial (Below.refl _ _) (Nat.le_refl _) (by simp) ?_; (case hd => rfl); (case hg => rfl); (case hr => first | (go_simp; done) | (go_simp; rfl)); (case hp => exact (Reps.one (show Kd.M (Kd.int .u64) _ _ _ a0_1 [.int .u64 a0_1] from rfl) (Reps.one (show Kd.M (Kd.int .u64) _ _ _ a0_2 [.int .u64 a0_2] from rfl) (Reps.none _ _)))); intro v935 w17 ho18 hb hg_ hnew_; clear hg_ hnew_; (first | rw [← Ny934.out] at ho18 | (simp only [Int.reduceToNat] at ho18; rw [← Ny934.out] at ho18)); have HO936 := Aside0.mk (Kd.R_lower ho18 (below_size zaB)); replace BK927 := Aside0.mk (blk_below (zkf (zkf (zkf BK927.out NB927_933.out _) NB927_933.out _) NB927_933.out _) hb); replace BK928 := Aside0.mk (blk_below (zkf (zkf (zkf BK928.out NB928_933.out _) NB928_933.out _) NB928_933.out _) hb); replace BK929 := Aside0.mk (blk_below (zkf (zkf (zkf BK929.out NB929_933.out _) NB929_933.out _) NB929_933.out _) hb); replace BK933 := Aside0.mk (blk_below (o := .cells #[.bool t930, .int .u64 t931, .int .u64 t932] 43 (0, 0)) (blk_put (cs := #[.bool t930, .int .u64 t931, .int .u64 0]) (blk_put (cs := #[.bool t930, .int .u64 0, .int .u64 0]) (blk_put BK933.out 0 _ rfl) 1 _ rfl) 2 _ rfl) hb); replace HB := Aside0.mk (below_step (below_set (below_set (below_set HB.out GW933.out) GW933.out) GW933.out) hb); clear hb ho18; obtain ⟨Ao19, co19, eo19⟩ := Kd.R_slice HO936.out; subst eo19))
 (try simp only [Act.put, List.setIfInBounds_toArray, List.set_cons_zero, List.set_cons_succ])
 (try simp only [Act.put, List.setIfInBounds_toArray, List.set_cons_zero, List.set_cons_succ])
 go_loopg [19] k (fun kq v19 w' => ∃ (x19_1 : Int) (x934000_1 : Bool) (x934001_1 : Int) (x934002_1 : Int), v19 = .int .i64 x19_1 ∧ Aside0 (span_Mul_corners.l0 kq y934 (y934.length : Int) x19_1 a1_0 a1_1 a1_2 x934000_1 x934001_1 x934002_1 = some (r1, r2, r3)) ∧ Aside0 (kq ≤ k) ∧ Aside0 (Kd.R (Kd.int .u64) 23 w' w.heap.size (fun _ => True) (.slice Ao19 y934.length co19) y934) ∧ Aside0 (w'.heap[gb927]? = some (.cells #[.bool a0_0, .int .u64 a0_1, .int .u64 a0_2] 43 (0, 0))) ∧ Aside0 (w'.heap[gb928]? = some (.cells #[.bool a1_0, .int .u64 a1_1, .int .u64 a1_2] 43 (0, 0))) ∧ Aside0 (w'.heap[gb929]? = some (.cells #[.bool false, .int .u64 0, .int .u64 0] 43 (0, 0))) ∧ Aside0 (w'.heap[gb933]? = some (.cells #[.bool x934000_1, .int .u64 x934001_1, .int .u64 x934002_1] 43 (0, 0))) ∧ Aside0 (Below w.heap.size w w'))
 case atStart => exact ⟨(0), (t930), (t931), (t932), zrl, H', ⟨Nat.le_refl _⟩, ⟨by (with_reducible repeat (first | apply Kd.R_alloc | apply Kd.R_drewN | apply Kd.R_drew)); exact HO936.out⟩, ⟨zkq BK927⟩, ⟨zkq BK928⟩, ⟨zkq BK929⟩, ⟨zkq BK933⟩, ⟨zaB⟩⟩
 case round =>
  clear H'
  try clear z13_0 z13_1 z13_2 f13_0 f13_1 f13_2
  try clear z16_0 z16_1 z16_2 f16_0 f16_1 f16_2
  obtain ⟨x19_1, x934000_1, x934001_1, x934002_1, rfl, HA, HK1, HO_17, BK927, BK928, BK929, BK933, HB⟩ := hrel
  cases gk with
  | zero => exact absurd HA.out (by simp [span_Mul_corners.l0])
  | succ k1 =>
   have H := HA.out
   clear HA
   simp only [span_Mul_corners.l0] at H
   by_cases c20 : x19_1 < (y934.length : Int)
   ·rw [if_pos c20] at H
    have c20b0 : decide (x19_1 < (y934.length : Int)) = true := decide_eq_true c20
    clear c20
    by_cases c21 : 0 ≤ x19_1
    ·rw [if_pos c21] at H
     have c21b0 : decide (0 ≤ x19_1) = true := decide_eq_true c21
     clear c21
     by_cases c22 : x19_1 < (y934.length : Int)
     ·rw [if_pos c22] at H
      have c22b0 : decide (x19_1 < (y934.length : Int)) = true := decide_eq_true c22
      clear c22
      obtain ⟨y938, hy938⟩ : ∃ y_ : List Int, y_ = (([a1_1, a1_2] : List Int)) := ⟨_, rfl⟩
      replace H : (span_Mul_corners.l1 k1 (rd y934 x19_1) y934 (y934.length : Int) x19_1 y938 (y938.length : Int) 0 a1_0 a1_1 a1_2 x934000_1 x934001_1 x934002_1) = some (r1, r2, r3) := by first | (rw [hy938]; with_reducible exact H) | (have H2_ := (Option.bind_some _ _).symm.trans H; rw [hy938]; with_reducible exact H2_) | (have H2_ := (Option.bind_some _ _).symm.trans H; with_reducible exact H2_) | with_reducible exact H | (rw [hy938]; exact H) | exact H
      have Ny938 := Aside0.mk hy938
      clear hy938
      have H' := Aside0.mk H
      clear H
      have p937 : 0 ≤ (x19_1 : Int) := of_decide_eq_true (by first | (with_reducible assumption) | assumption)
      have q937 : x19_1 < (y934.length : Int) := of_decide_eq_true (by first | (with_reducible assumption) | assumption)
      obtain ⟨ad937, e937, hx937_0⟩ := Kd.at_int (Kd.R_reads' HO_17.out).2.2 x19_1 p937 q937
      cases e937
      replace p937 := eq_true p937
      replace q937 := eq_true q937
      refine zt3 NB927_928 NB928_929 NB928_933 fun _ _ _ _ _ _ => ?_
      refine zu3 BK928 fun z26_0 z26_1 z26_2 f26_0 f26_1 f26_2 => ?_
      go_wp2_with (first | ((with_reducible refine gtd 27 rfl ?_); refine Kd.R_lit (Kd.int .u64) _ 23 ?hg (N := 27) ?hd (xs := ([a1_1, a1_2] : List Int)) (inner := [.int .u64 a1_1, .int .u64 a1_2]) (ok := fun _ => True) (okp := fun _ => True) ?hr ?hp (fun _ hk => hk) trivial (Below.refl _ _) (Nat.le_refl _) (by simp) ?_; (case hd => rfl); (case hg => rfl); (case hr => first | (go_simp; done) | (go_simp; rfl)); (case hp => exact (Reps.one (show Kd.M (Kd.int .u64) _ _ _ a1_1 [.int .u64 a1_1] from rfl) (Reps.one (show Kd.M (Kd.int .u64) _ _ _ a1_2 [.int .u64 a1_2] from rfl) (Reps.none _ _)))); intro v939 w27 ho28 hb hg_ hnew_; clear hg_ hnew_; (first | rw [← Ny938.out] at ho28 | (simp only [Int.reduceToNat] at ho28; rw [← Ny938.out] at ho28)); have HO940 := Aside0.mk (Kd.R_lower (Kd.R_new' ho28 (Kd.R_lt (zRW HO_17.out))) (below_size zaB)); replace HO_17 := Aside0.mk (Kd.R_elder' (zRW HO_17.out) (Kd.R_base ho28) hb); replace BK927 := zkb BK927 hb; replace BK928 := zkb BK928 hb; replace BK929 := zkb BK929 hb; replace BK933 := zkb BK933 hb; replace HB := zkB HB hb; clear hb ho28; obtain ⟨Ao29, co29, eo29⟩ := Kd.R_slice HO940.out; subst eo29))
      (try simp only [Act.put, List.setIfInBounds_toArray, List.set_cons_zero, List.set_cons_succ])
      (try simp only [Act.put, List.setIfInBounds_toArray, List.set_cons_zero, List.set_cons_succ])
      go_loopg [29] k1 (fun kq v29 w' => ∃ (x29_2 : Int) (x934000_2 : Bool) (x934001_2 : Int) (x934002_2 : Int), v29 = .int .i64 x29_2 ∧ Aside0 (span_Mul_corners.l1 kq (rd y934 x19_1) y934 (y934.length : Int) x19_1 y938 (y938.length : Int) x29_2 a1_0 a1_1 a1_2 x934000_2 x934001_2 x934002_2 = some (r1, r2, r3)) ∧ Aside0 (kq ≤ k1) ∧ Aside0 (Kd.R (Kd.int .u64) 23 w' w.heap.size (fun k_ => some k_ ≠ ((.slice Ao29 y938.length co29) : Value).ownBlock) (.slice (some ad937) y934.length co19) y934) ∧ Aside0 (Kd.R (Kd.int .u64) 23 w' w.heap.size (fun k_ => some k_ ≠ ((.slice (some ad937) y934.length co19) : Value).ownBlock) (.slice Ao29 y938.length co29) y938) ∧ Aside0 (w'.heap[gb927]? = some (.cells #[.bool a0_0, .int .u64 a0_1, .int .u64 a0_2] 43 (0, 0))) ∧ Aside0 (w'.heap[gb928]? = some (.cells #[.bool a1_0, .int .u64 a1_1, .int .u64 a1_2] 43 (0, 0))) ∧ Aside0 (w'.heap[gb929]? = some (.cells #[.bool false, .int .u64 0, .int .u64 0] 43 (0, 0))) ∧ Aside0 (w'.heap[gb933]? = some (.cells #[.bool x934000_2, .int .u64 x934001_2, .int .u64 x934002_2] 43 (0, 0))) ∧ Aside0 (Below w.heap.size w w'))
      case atStart => exact ⟨(0), (x934000_1), (x934001_1), (x934002_1), zrl, H', ⟨Nat.le_refl _⟩, ⟨by (with_reducible repeat (first | apply Kd.R_alloc | apply Kd.R_drewN | apply Kd.R_drew)); exact Kd.R_mono HO_17.out (fun _ hk => hk.2)⟩, ⟨by (with_reducible repeat (first | apply Kd.R_alloc | apply Kd.R_drewN | apply Kd.R_drew)); exact Kd.R_mono HO940.out (fun _ hk => hk.2)⟩, ⟨zkq BK927⟩, ⟨zkq BK928⟩, ⟨zkq BK929⟩, ⟨zkq BK933⟩, ⟨zaB⟩⟩
      case round =>
       clear H'
       try clear q9
       try clear hx9
       try clear c20b0
       try clear c21b0
       try clear c22b0
       try clear z13_0 z13_1 z13_2 f13_0 f13_1 f13_2
       try clear z16_0 z16_1 z16_2 f16_0 f16_1 f16_2
       try clear z26_0 z26_1 z26_2 f26_0 f26_1 f26_2
       try clear hx937_0
       try clear q937
       obtain ⟨x29_2, x934000_2, x934001_2, x934002_2, rfl, HA, HK2, HO_17, HO_27, BK927, BK928, BK929, BK933, HB⟩ := hrel
       cases gk with
       | zero => exact absurd HA.out (by simp [span_Mul_corners.l1])
       | succ k2 =>
        have H := HA.out
        clear HA
        simp only [span_Mul_corners.l1] at H
        by_cases c30 : x29_2 < (y938.length : Int)
        ·rw [if_pos c30] at H
         have c30b0 : decide (x29_2 < (y938.length : Int)) = true := decide_eq_true c30
         clear c30
         by_cases c31 : 0 ≤ x29_2
         ·rw [if_pos c31] at H
          have c31b0 : decide (0 ≤ x29_2) = true := decide_eq_true c31
          clear c31
          by_cases c32 : x29_2 < (y938.length : Int)
          ·rw [if_pos c32] at H
           have c32b0 : decide (x29_2 < (y938.length : Int)) = true := decide_eq_true c32
           clear c32
           obtain ⟨t942, A33, H⟩ := zbs H
           try dsimp only at H
           obtain ⟨t943, A34, H⟩ := zbs H
           try dsimp only at H
           obtain ⟨⟨t944, t945, t946⟩, A35, H⟩ := zbs H
           try dsimp only at H
           obtain ⟨y947, hy947⟩ : ∃ y_ : List (S43), y_ = (([(⟨x934000_2, x934001_2, x934002_2⟩ : S43), (⟨t944, t945, t946⟩ : S43)] : List (S43))) := ⟨_, rfl⟩
           replace H : ((span_Join.f k2 y947).bind fun bt950 => (span_Mul_corners.l1 k2 (rd y934 x19_1) y934 (y934.length : Int) x19_1 y938 (y938.length : Int) (wrap64 (x29_2 + 1)) a1_0 a1_1 a1_2 bt950.1 bt950.2.1 bt950.2.2)) = some (r1, r2, r3) := by first | (rw [hy947]; with_reducible exact H) | (have H2_ := (Option.bind_some _ _).symm.trans H; rw [hy947]; with_reducible exact H2_) | (have H2_ := (Option.bind_some _ _).symm.trans H; with_reducible exact H2_) | with_reducible exact H | (rw [hy947]; exact H) | exact H
           have Ny947 := Aside0.mk hy947
           clear hy947
           obtain ⟨⟨t950, t951, t952⟩, A36, H⟩ := zbs H
           try dsimp only at H
           have H' := Aside0.mk H
           clear H
           have p941 : 0 ≤ (x29_2 : Int) := of_decide_eq_true (by first | (with_reducible assumption) | assumption)
           have q941 : x29_2 < (y938.length : Int) := of_decide_eq_true (by first | (with_reducible assumption) | assumption)
           obtain ⟨ad941, e941, hx941_0⟩ := Kd.at_int (Kd.R_reads' HO_27.out).2.2 x29_2 p941 q941
           cases e941
           replace p941 := eq_true p941
           replace q941 := eq_true q941
           try go_wp2
           replace HO_17 := Aside0.mk (Kd.R_drew HO_17.out)
           replace HO_27 := Aside0.mk (Kd.R_drew HO_27.out)
           replace BK927 := Aside0.mk (blk_drew BK927.out)
           replace BK928 := Aside0.mk (blk_drew BK928.out)
           replace BK929 := Aside0.mk (blk_drew BK929.out)
           replace BK933 := Aside0.mk (blk_drew BK933.out)
           replace HB := Aside0.mk (below_drew1 HB.out)
           refine start_ (n := 13) (S := fun w' => w'.cell? ⟨gb933, 0, none⟩ = some (.bool x934000_2) ∧ w'.cell? ⟨gb933, 1, none⟩ = some (.int .u64 x934001_2) ∧ w'.cell? ⟨gb933, 2, none⟩ = some (.int .u64 x934002_2)) (ds := [12]) #[false, false, false, false, false, false, false, false, false, false, false, false, false] (by kernel_rfl) rfl rfl (ze3 BK933) (fun hHeld => ?_); refine with_tabW span_Mul_corners.tab8 span_Mul_corners.bits8 (fun HT_ HW_ => ?_)
           generalize wr.drew = w37 at HO_17 HO_27 BK927 BK928 BK929 BK933 HB hHeld ⊢
           refine zpA 1 34 (h := ?_)
           refine zpA 2 35 (h := ?_)
           refine zpA 3 36 (h := ?_)
           refine zpA 5 38 (h := ?_)
           refine zpA 6 39 (h := ?_)
           refine zpA 7 40 (h := ?_)
           refine ztA 0 33 (h := ?_)
           refine zoA 4 37 (h := fun K hK => ?_)
           refine zgW Try.func137 (span_Mul_1.calls k2 (rd y934 x19_1) (rd y938 x29_2) 2 t942 _ A33.out) (h := ?_)
           rintro w38 hb
           replace HO_17 := Aside0.mk (Kd.R_below (zRW HO_17.out) hb)
           replace HO_27 := Aside0.mk (Kd.R_below (zRW HO_27.out) hb)
           refine zcn4 HB BK927 BK928 BK929 BK933 hb (c := ?_)
           clear HB BK927 BK928 BK929 BK933 hb
           intro BK927 BK928 BK929 BK933 HB
           refine hK.out _ _ (ze3 BK933) (fun hHeld => ?_)
           clear hK K
           refine znA 37 (h := ?_)
           refine zoA 8 41 (h := fun K hK => ?_)
           refine zgW Try.func137 (span_Mul_1.calls k2 (rd y934 x19_1) (rd y938 x29_2) 1 t943 _ A34.out) (h := ?_)
           rintro w39 hb
           replace HO_17 := Aside0.mk (Kd.R_below (zRW HO_17.out) hb)
           replace HO_27 := Aside0.mk (Kd.R_below (zRW HO_27.out) hb)
           refine zcn4 HB BK927 BK928 BK929 BK933 hb (c := ?_)
           clear HB BK927 BK928 BK929 BK933 hb
           intro BK927 BK928 BK929 BK933 HB
           refine hK.out _ _ (ze3 BK933) (fun hHeld => ?_)
           clear hK K
           refine znA 41 (h := ?_)
           refine zoA 9 42 (h := fun K hK => ?_)
           refine zgA Try.func172 (span_outer.calls k2 t942 t943 t944 t945 t946 _ A35.out) (h := ?_)
           rintro w40 hb
           replace HO_17 := Aside0.mk (Kd.R_below (zRW HO_17.out) hb)
           replace HO_27 := Aside0.mk (Kd.R_below (zRW HO_27.out) hb)
           refine zcn4 HB BK927 BK928 BK929 BK933 hb (c := ?_)
           clear HB BK927 BK928 BK929 BK933 hb
           intro BK927 BK928 BK929 BK933 HB
           refine hK.out _ _ (ze3 BK933) (fun hHeld => ?_)
           clear hK K
           refine znA 42 (h := ?_)
           refine zoA 10 43 (h := fun K hK => ?_)
           refine Kd.R_lit_step k43 _ 43 ?hg (N := 43) ?hd (xs := ([(⟨x934000_2, x934001_2, x934002_2⟩ : S43), (⟨t944, t945, t946⟩ : S43)] : List (S43))) (inner := [.bool x934000_2, .int .u64 x934001_2, .int .u64 x934002_2, .bool t944, .int .u64 t945, .int .u64 t946]) (ok := fun _ => True) (okp := fun _ => True) ?hr ?hp (fun _ hk => hk) trivial (Below.refl _ _) (Nat.le_refl _) (by simp) ?_; (case hd => rfl); (case hg => rfl); (case hr => first | (go_simp; done) | (go_simp; rfl)); (case hp => exact (Reps.c3 (show Kd.M k43 _ _ _ (⟨x934000_2, x934001_2, x934002_2⟩ : S43) [.bool x934000_2, .int .u64 x934001_2, .int .u64 x934002_2] from (k43_mkM _ _ _ (⟨x934000_2, x934001_2, x934002_2⟩ : S43) )) (Reps.c3 (show Kd.M k43 _ _ _ (⟨t944, t945, t946⟩ : S43) [.bool t944, .int .u64 t945, .int .u64 t946] from (k43_mkM _ _ _ (⟨t944, t945, t946⟩ : S43) )) (Reps.none _ _))))
           intro v948 w41 ho42 hb hg_ hnew_
           clear hg_ hnew_
           (first | rw [← Ny947.out] at ho42 | (simp only [Int.reduceToNat] at ho42; rw [← Ny947.out] at ho42))
           replace HO_17 := Aside0.mk (Kd.R_below (zRW HO_17.out) hb)
           replace HO_27 := Aside0.mk (Kd.R_below (zRW HO_27.out) hb)
           have HO949 := Aside0.mk (Kd.R_lower (Kd.R_newB (Kd.R_newB (Kd.R_newB (Kd.R_newB ho42 (g := gb927) (o := .cells #[.bool a0_0, .int .u64 a0_1, .int .u64 a0_2] 43 (0, 0)) (zkq BK927)) (g := gb928) (o := .cells #[.bool a1_0, .int .u64 a1_1, .int .u64 a1_2] 43 (0, 0)) (zkq BK928)) (g := gb929) (o := .cells #[.bool false, .int .u64 0, .int .u64 0] 43 (0, 0)) (zkq BK929)) (g := gb933) (o := .cells #[.bool x934000_2, .int .u64 x934001_2, .int .u64 x934002_2] 43 (0, 0)) (zkq BK933)) (below_size zaB))
           replace BK927 := zkb BK927 hb
           replace BK928 := zkb BK928 hb
           replace BK929 := zkb BK929 hb
           replace BK933 := zkb BK933 hb
           replace HB := zkB HB hb
           clear hb ho42
           obtain ⟨Ao43, co43, eo43⟩ := Kd.R_slice HO949.out
           (first | subst eo43 | (injection eo43 with f1_ f2_ f3_; have f4_ := f1_.symm; have f5_ := f3_.symm; clear f1_ f2_ f3_; subst f4_; subst f5_))
           refine hK.out _ _ (ze3 BK933) (fun hHeld => ?_)
           clear hK K
           refine znA 43 (h := ?_)
           refine zoA 11 44 (h := fun K hK => ?_)
           refine goes_ Try.func45 (by kernel_rfl) rfl #[.slice Ao43 y947.length co43] (by rfl) rfl rfl (by (try simp only [List.map_toArray, List.map_cons, List.map_nil]); first | done | rfl | (simp only [List.length_drop, List.length_take]; rfl)) ?_
           with_reducible refine (span_Join.calls k2 _ _ y947 t950 t951 t952 _ ?side1 ?side2 A36.out).mono ?_
           (case side1 => repeat (first | exact (Kd.R_reads' HO949.out).2.2 | (with_reducible refine Kd.C_alloc ?_ _) | (with_reducible refine Kd.C_drewN ?_ _) | (with_reducible refine Kd.C_drew ?_)))
           (case side2 => exact (Kd.R_reads' HO949.out).2.1)
           rintro e w44 ⟨rfl, hb⟩
           refine ⟨_, rfl, ?_⟩
           replace HO_17 := Aside0.mk (Kd.R_below (zRW HO_17.out) hb)
           replace HO_27 := Aside0.mk (Kd.R_below (zRW HO_27.out) hb)
           replace HO949 := Aside0.mk (Kd.R_below (zRW HO949.out) hb)
           refine zcn4 HB BK927 BK928 BK929 BK933 hb (c := ?_)
           clear HB BK927 BK928 BK929 BK933 hb
           intro BK927 BK928 BK929 BK933 HB
           refine hK.out _ _ (ze3 BK933) (fun hHeld => ?_)
           clear hK K
           refine znA 44 (h := ?_)
           refine last_ (i := 12) (N := none) #[true, true, true, true, true, true, true, true, true, true, true, true, true] rfl rfl (one_of HT_.out (by kernel_rfl)) (by decide) (fun K hK => ?_)
           have hs45 := zc0 BK933
           have hfs45 := blk_frozen BK933.out 0
           refine zt3 NB927_933 NB928_933 NB929_933 fun _ _ _ _ _ _ => ?_
           have hs46 := zc1 BK933
           have hfs46 := blk_frozen BK933.out 1
           refine zt3 NB927_933 NB928_933 NB929_933 fun _ _ _ _ _ _ => ?_
           have hs47 := zc2 BK933
           have hfs47 := blk_frozen BK933.out 2
           refine zt3 NB927_933 NB928_933 NB929_933 fun _ _ _ _ _ _ => ?_
           refine skip_ (w1 := ?_) (by rfl) rfl ?_ ?_
           rotate_left
           ·go_simp
            rfl
           refine hK.out _ _ ?_
           clear hK K
           refine done_ (done_of HT_.out (by kernel_rfl)) ?_
           try go_wp2
           go_roundg k2
           case measure => have := HK1.out; have := HK2.out; omega
           case rel => exact ⟨(wrap64 (x29_2 + 1)), (t950), (t951), (t952), zrl, H', ⟨by have := HK1.out; have := HK2.out; omega⟩, ⟨by (with_reducible repeat (first | apply Kd.R_alloc | apply Kd.R_drewN | apply Kd.R_drew)); exact Kd.R_mono (Kd.R_far (p := ⟨gb933, 2, none⟩) (Kd.R_far (p := ⟨gb933, 1, none⟩) (Kd.R_far (p := ⟨gb933, 0, none⟩) (Kd.R_types HO_17.out BK933.out (by decide)) (fun _ hk => hk.2) (.bool t950)) (fun _ hk => hk.2) (.int .u64 t951)) (fun _ hk => hk.2) (.int .u64 t952)) (fun _ hk => hk.1)⟩, ⟨by (with_reducible repeat (first | apply Kd.R_alloc | apply Kd.R_drewN | apply Kd.R_drew)); exact Kd.R_mono (Kd.R_far (p := ⟨gb933, 2, none⟩) (Kd.R_far (p := ⟨gb933, 1, none⟩) (Kd.R_far (p := ⟨gb933, 0, none⟩) (Kd.R_types HO_27.out BK933.out (by decide)) (fun _ hk => hk.2) (.bool t950)) (fun _ hk => hk.2) (.int .u64 t951)) (fun _ hk => hk.2) (.int .u64 t952)) (fun _ hk => hk.1)⟩, ⟨(zkf (zkf (zkf (zkq BK927) NB927_933.out _) NB927_933.out _) NB927_933.out _)⟩, ⟨(zkf (zkf (zkf (zkq BK928) NB928_933.out _) NB928_933.out _) NB928_933.out _)⟩, ⟨(zkf (zkf (zkf (zkq BK929) NB929_933.out _) NB929_933.out _) NB929_933.out _)⟩, ⟨(blk_put (cs := #[.bool t950, .int .u64 t951, .int .u64 x934002_2]) (blk_put (cs := #[.bool t950, .int .u64 x934001_2, .int .u64 x934002_2]) (blk_put (zkq BK933) 0 _ rfl) 1 _ rfl) 2 _ rfl)⟩, ⟨zaB⟩⟩
          rw [if_neg c32] at H
          exact absurd H (by simp)
         rw [if_neg c31] at H
         exact absurd H (by simp)
        rw [if_neg c30] at H
        have c30b0 : decide (x29_2 < (y938.length : Int)) = false := decide_eq_false c30
        clear c30
        have H' := Aside0.mk H
        clear H
        go_wp2
        go_roundg k2
        case measure => have := HK1.out; have := HK2.out; omega
        case rel => exact ⟨(wrap64 (x19_1 + 1)), (x934000_2), (x934001_2), (x934002_2), zrl, H', ⟨by have := HK1.out; have := HK2.out; omega⟩, ⟨by (with_reducible repeat (first | apply Kd.R_alloc | apply Kd.R_drewN | apply Kd.R_drew)); exact Kd.R_mono HO_17.out (fun _ hk => trivial)⟩, ⟨zkq BK927⟩, ⟨zkq BK928⟩, ⟨zkq BK929⟩, ⟨zkq BK933⟩, ⟨zaB⟩⟩
     rw [if_neg c22] at H
     exact absurd H (by simp)
    rw [if_neg c21] at H
    exact absurd H (by simp)
   rw [if_neg c20] at H
   have c20b0 : decide (x19_1 < (y934.length : Int)) = false := decide_eq_false c20
   clear c20
   simp only [Option.some.injEq, Prod.mk.injEq] at H
   obtain ⟨rfl, rfl, rfl⟩ := H
   refine zt3 NB927_933 NB928_933 NB929_933 fun _ _ _ _ _ _ => ?_
   refine zu3 BK933 fun _ _ _ _ _ _ => ?_
   refine zt2 NB927_929 NB928_929 fun _ _ _ _ => ?_
   refine zu3 BK929 fun _ _ _ _ _ _ => ?_
   go_wp2
   refine bodyPost_ret (results_cell_row rfl _ _ gb929 43 #[.bool x934000_1, .int .u64 x934001_1, .int .u64 x934002_1] (0, 0) _ rfl (blk_put (cs := #[.bool x934000_1, .int .u64 x934001_1, .int .u64 0]) (blk_put (cs := #[.bool x934000_1, .int .u64 0, .int .u64 0]) (blk_put (zkq BK929) 0 _ rfl) 1 _ rfl) 2 _ rfl) Try.underlying43 rfl (by kernel_rfl)) rfl ?_
   exact ⟨zaE, zaB⟩
theorem span_Mul.calls (k : Nat) (a0_0 : Bool) (a0_1 : Int) (a0_2 : Int) (a1_0 : Bool) (a1_1 : Int) (a1_2 : Int) (r1 : Bool) (r2 : Int) (r3 : Int) (w : World) (h : span_Mul.f k a0_0 a0_1 a0_2 a1_0 a1_1 a1_2 = some (r1, r2, r3)) :
  Calls Try.prog 67 #[.agg #[.bool a0_0, .int .u64 a0_1, .int .u64 a0_2], .agg #[.bool a1_0, .int .u64 a1_1, .int .u64 a1_2]] w fun e w' => e = .returned (.agg #[.bool r1, .int .u64 r2, .int .u64 r3]) ∧ Below w.heap.size w w' := by
 have hu_ := Try.underlying43
 have HB := Aside0.mk (Below.refl w.heap.size w)
 have H := h
 unfold span_Mul.f at H
 clear h
 obtain ⟨⟨t956, t957, t958⟩, A3, H⟩ := zbs H
 try dsimp only at H
 obtain ⟨⟨t959, t960, t961⟩, A4, H⟩ := zbs H
 try dsimp only at H
 have HC5 := Aside0.mk H
 clear H
 go_enter Try.func67, Try.ntmps67
 try go_wp2_with (first | ((with_reducible refine gtd 2 rfl ?_); refine zbx 2 #[.bool a0_0, .int .u64 a0_1, .int .u64 a0_2] 43 (h := ?_); intro gb953 hg w6 hbox hb; have GW953 := zkZ hg (zaB (p := Below w.heap.size w _)); replace HB := Aside0.mk (below_step zaB hb); have BK953 := Aside0.mk (hbox); clear hb hbox hg) | ((with_reducible refine gtd 3 rfl ?_); refine zbx 3 #[.bool a1_0, .int .u64 a1_1, .int .u64 a1_2] 43 (h := ?_); intro gb954 hg w7 hbox hb; refine zbn1 HB BK953 hg hb hbox (c := ?_); clear HB BK953 hb hbox hg; intro GW954 NB953_954 BK953 HB BK954) | ((with_reducible refine gtd 4 rfl ?_); refine zbx 4 #[.bool false, .int .u64 0, .int .u64 0] 43 (h := ?_); intro gb955 hg w8 hbox hb; refine zbn2 HB BK953 BK954 hg hb hbox (c := ?_); clear HB BK953 BK954 hb hbox hg; intro GW955 NB953_955 NB954_955 BK953 BK954 HB BK955))
 replace BK953 := Aside0.mk (blk_drew BK953.out)
 replace BK954 := Aside0.mk (blk_drew BK954.out)
 replace BK955 := Aside0.mk (blk_drew BK955.out)
 replace HB := Aside0.mk (below_drew1 HB.out)
 refine start_ (n := 6) (S := fun w' => w'.cell? ⟨gb953, 0, none⟩ = some (.bool a0_0) ∧ w'.cell? ⟨gb953, 1, none⟩ = some (.int .u64 a0_1) ∧ w'.cell? ⟨gb953, 2, none⟩ = some (.int .u64 a0_2) ∧ w'.cell? ⟨gb954, 0, none⟩ = some (.bool a1_0) ∧ w'.cell? ⟨gb954, 1, none⟩ = some (.int .u64 a1_1) ∧ w'.cell? ⟨gb954, 2, none⟩ = some (.int .u64 a1_2)) (ds := [4, 5]) #[false, false, false, false, false, false] (by kernel_rfl) rfl rfl (zk3 BK953 (ze3 BK954)) (fun hHeld => ?_)
 generalize w8.drew = w9 at BK953 BK954 BK955 HB hHeld ⊢
 refine take_ (i := 0) (N := some 5) (v := ?_) (a' := ?_) #[true, false, false, false, false, false] rfl rfl (by kernel_rfl) (fun _ _ _ h => h) (Or.inl ⟨by rfl, ?_⟩) hHeld ?_ ?_
 rotate_left
 ·rintro w' ⟨s0, s1, s2, s3, s4, s5⟩
  go_simp
  with_reducible rfl
 rotate_left
 ·simp only [Act.put, List.setIfInBounds_toArray, List.set_cons_zero, List.set_cons_succ, i64_w, i32_w]
  rfl
 refine take_ (i := 2) (N := some 7) (v := ?_) (a' := ?_) #[true, false, true, false, false, false] rfl rfl (by kernel_rfl) (fun _ _ _ h => h) (Or.inl ⟨by rfl, ?_⟩) hHeld ?_ ?_
 rotate_left
 ·rintro w' ⟨s0, s1, s2, s3, s4, s5⟩
  go_simp
  with_reducible rfl
 rotate_left
 ·simp only [Act.put, List.setIfInBounds_toArray, List.set_cons_zero, List.set_cons_succ, i64_w, i32_w]
  rfl
 refine zoA 1 6 (h := fun K hK => ?_)
 refine zgA Try.func112 (span_norm.calls k a0_0 a0_1 a0_2 t956 t957 t958 _ A3.out) (h := ?_)
 rintro w10 hb
 refine zcn3 HB BK953 BK954 BK955 hb (c := ?_)
 clear HB BK953 BK954 BK955 hb
 intro BK953 BK954 BK955 HB
 refine hK.out _ _ (zk3 BK953 (ze3 BK954)) (fun hHeld => ?_)
 clear hK K
 refine znA 6 (h := ?_)
 refine zoA 3 8 (h := fun K hK => ?_)
 refine zgA Try.func112 (span_norm.calls k a1_0 a1_1 a1_2 t959 t960 t961 _ A4.out) (h := ?_)
 rintro w11 hb
 refine zcn3 HB BK953 BK954 BK955 hb (c := ?_)
 clear HB BK953 BK954 BK955 hb
 intro BK953 BK954 BK955 HB
 refine hK.out _ _ (zk3 BK953 (ze3 BK954)) (fun hHeld => ?_)
 clear hK K
 refine znA 8 (h := ?_)
 refine last_ (i := 4) (N := none) #[true, true, true, true, true, false] rfl rfl (by kernel_rfl) (by decide) (fun K hK => ?_)
 have hs12 := zc0 BK953
 have hfs12 := blk_frozen BK953.out 0
 refine zt2 NB953_954 NB953_955 fun _ _ _ _ => ?_
 have hs13 := zc1 BK953
 have hfs13 := blk_frozen BK953.out 1
 refine zt2 NB953_954 NB953_955 fun _ _ _ _ => ?_
 have hs14 := zc2 BK953
 have hfs14 := blk_frozen BK953.out 2
 refine zt2 NB953_954 NB953_955 fun _ _ _ _ => ?_
 refine skip_ (w1 := ?_) (by rfl) rfl ?_ ?_
 rotate_left
 ·go_simp
  rfl
 refine hK.out _ _ ?_
 clear hK K
 refine last_ (i := 5) (N := none) #[true, true, true, true, true, true] rfl rfl (by kernel_rfl) (by decide) (fun K hK => ?_)
 have hs15 := zc0 BK954
 have hfs15 := blk_frozen BK954.out 0
 refine zt2 NB953_954 NB954_955 fun _ _ _ _ => ?_
 have hs16 := zc1 BK954
 have hfs16 := blk_frozen BK954.out 1
 refine zt2 NB953_954 NB954_955 fun _ _ _ _ => ?_
 have hs17 := zc2 BK954
 have hfs17 := blk_frozen BK954.out 2
 refine zt2 NB953_954 NB954_955 fun _ _ _ _ => ?_
 refine skip_ (w1 := ?_) (by rfl) rfl ?_ ?_
 rotate_left
 ·go_simp
  rfl
 refine hK.out _ _ ?_
 clear hK K
 refine done_ (by kernel_rfl) ?_
 go_upto_region 2 with (fail)
 go_cut [14] (fun v14 wc => ∃ (kq : Nat) (x14_4 : Bool), v14 = .bool x14_4 ∧ Aside0 (span_Mul.j0 kq x14_4 t956 t957 t958 t959 t960 t961 = some (r1, r2, r3)) ∧ Aside0 (kq ≤ k) ∧ Aside0 (wc.heap[gb953]? = some (.cells #[.bool t956, .int .u64 t957, .int .u64 t958] 43 (0, 0))) ∧ Aside0 (wc.heap[gb954]? = some (.cells #[.bool t959, .int .u64 t960, .int .u64 t961] 43 (0, 0))) ∧ Aside0 (wc.heap[gb955]? = some (.cells #[.bool false, .int .u64 0, .int .u64 0] 43 (0, 0))) ∧ Aside0 (Below w.heap.size w wc))
 case first =>
  have H := HC5.out
  clear HC5
  by_cases c18 : t956 = true
  ·subst c18
   replace H := zit H
   have H' := Aside0.mk H
   clear H
   refine zt2 NB953_954 NB953_955 fun _ _ _ _ => ?_
   refine zu3 BK953 fun z21_0 z21_1 z21_2 f21_0 f21_1 f21_2 => ?_
   go_wp2
   go_meet
   case rel => exact ⟨_, (true), zrl, H', ⟨zle⟩, ⟨(zkf (zkf (zkf (blk_put (cs := #[.bool true, .int .u64 t957, .int .u64 a0_2]) (blk_put (cs := #[.bool true, .int .u64 a0_1, .int .u64 a0_2]) (blk_put (zkq BK953) 0 _ rfl) 1 _ rfl) 2 _ rfl) NB953_954.out _) NB953_954.out _) NB953_954.out _)⟩, ⟨(blk_put (cs := #[.bool t959, .int .u64 t960, .int .u64 a1_2]) (blk_put (cs := #[.bool t959, .int .u64 a1_1, .int .u64 a1_2]) (blk_put (zkf (zkf (zkf (zkq BK954) (zks NB953_954).out _) (zks NB953_954).out _) (zks NB953_954).out _) 0 _ rfl) 1 _ rfl) 2 _ rfl)⟩, ⟨(zkf (zkf (zkf (zkf (zkf (zkf (zkq BK955) (zks NB953_955).out _) (zks NB953_955).out _) (zks NB953_955).out _) (zks NB954_955).out _) (zks NB954_955).out _) (zks NB954_955).out _)⟩, ⟨zaB⟩⟩
  replace c18 := Bool.eq_false_iff.mpr c18
  subst c18
  replace H := zif H
  have H' := Aside0.mk H
  clear H
  refine zt2 NB953_954 NB953_955 fun _ _ _ _ => ?_
  refine zu3 BK953 fun z24_0 z24_1 z24_2 f24_0 f24_1 f24_2 => ?_
  refine zt1 NB954_955 fun _ _ => ?_
  refine zu3 BK954 fun z26_0 z26_1 z26_2 f26_0 f26_1 f26_2 => ?_
  go_wp2
  go_meet
  case rel => exact ⟨_, (t959), zrl, H', ⟨zle⟩, ⟨(zkf (zkf (zkf (blk_put (cs := #[.bool false, .int .u64 t957, .int .u64 a0_2]) (blk_put (cs := #[.bool false, .int .u64 a0_1, .int .u64 a0_2]) (blk_put (zkq BK953) 0 _ rfl) 1 _ rfl) 2 _ rfl) NB953_954.out _) NB953_954.out _) NB953_954.out _)⟩, ⟨(blk_put (cs := #[.bool t959, .int .u64 t960, .int .u64 a1_2]) (blk_put (cs := #[.bool t959, .int .u64 a1_1, .int .u64 a1_2]) (blk_put (zkf (zkf (zkf (zkq BK954) (zks NB953_954).out _) (zks NB953_954).out _) (zks NB953_954).out _) 0 _ rfl) 1 _ rfl) 2 _ rfl)⟩, ⟨(zkf (zkf (zkf (zkf (zkf (zkf (zkq BK955) (zks NB953_955).out _) (zks NB953_955).out _) (zks NB953_955).out _) (zks NB954_955).out _) (zks NB954_955).out _) (zks NB954_955).out _)⟩, ⟨zaB⟩⟩
 case rest =>
  clear HC5
  try clear z21_0 z21_1 z21_2 f21_0 f21_1 f21_2
  try clear z24_0 z24_1 z24_2 f24_0 f24_1 f24_2
  try clear z26_0 z26_1 z26_2 f26_0 f26_1 f26_2
  obtain ⟨kq, x14_4, rfl, HA, HJ4, BK953, BK954, BK955, HB⟩ := hcut
  cases kq with
  | zero => exact absurd HA.out (by simp [span_Mul.j0])
  | succ kj4 =>
   have H := HA.out
   clear HA
   simp only [span_Mul.j0] at H
   by_cases c27 : x14_4 = true
   ·subst c27
    replace H := zit H
    obtain ⟨⟨t962, t963, t964⟩, A28, H⟩ := zbs H
    try dsimp only at H
    simp only [Option.some.injEq, Prod.mk.injEq] at H
    obtain ⟨rfl, rfl, rfl⟩ := H
    go_wp2_with (first | ((with_reducible refine gtc 118 rfl ?_); refine zgL 15 Try.func118 (span_none.calls  t962 t963 t964 _ A28.out) (h := ?_); rintro w29 hb; refine zcn3 HB BK953 BK954 BK955 hb (c := ?_); clear HB BK953 BK954 BK955 hb; intro BK953 BK954 BK955 HB; refine zt2 NB953_955 NB954_955 fun _ _ _ _ => ?_; refine zu3 BK955 fun _ _ _ _ _ _ => ?_))
    refine bodyPost_ret (results_cell_row rfl _ _ gb955 43 #[.bool t962, .int .u64 t963, .int .u64 t964] (0, 0) _ rfl (blk_put (cs := #[.bool t962, .int .u64 t963, .int .u64 0]) (blk_put (cs := #[.bool t962, .int .u64 0, .int .u64 0]) (blk_put (zkq BK955) 0 _ rfl) 1 _ rfl) 2 _ rfl) Try.underlying43 rfl (by kernel_rfl)) rfl ?_
    exact ⟨zaE, zaB⟩
   replace c27 := Bool.eq_false_iff.mpr c27
   subst c27
   replace H := zif H
   obtain ⟨⟨t965, t966, t967⟩, A33, H⟩ := zbs H
   try dsimp only at H
   simp only [Option.some.injEq, Prod.mk.injEq] at H
   obtain ⟨rfl, rfl, rfl⟩ := H
   refine zt2 NB953_954 NB953_955 fun _ _ _ _ => ?_
   refine zu3 BK953 fun _ _ _ _ _ _ => ?_
   refine zt1 NB954_955 fun _ _ => ?_
   refine zu3 BK954 fun _ _ _ _ _ _ => ?_
   go_wp2_with (first | ((with_reducible refine gtc 136 rfl ?_); refine zgL 18 Try.func136 (span_Mul_corners.goes kj4 t956 t957 t958 t959 t960 t961 0 t965 t966 t967 _ A33.out) (h := ?_); rintro w39 hb; refine zcn3 HB BK953 BK954 BK955 hb (c := ?_); clear HB BK953 BK954 BK955 hb; intro BK953 BK954 BK955 HB; refine zu3 BK955 fun _ _ _ _ _ _ => ?_))
   refine bodyPost_ret (results_cell_row rfl _ _ gb955 43 #[.bool t965, .int .u64 t966, .int .u64 t967] (0, 0) _ rfl (blk_put (cs := #[.bool t965, .int .u64 t966, .int .u64 0]) (blk_put (cs := #[.bool t965, .int .u64 0, .int .u64 0]) (blk_put (zkq BK955) 0 _ rfl) 1 _ rfl) 2 _ rfl) Try.underlying43 rfl (by kernel_rfl)) rfl ?_
   exact ⟨zaE, zaB⟩
theorem soft_zero.calls (k : Nat) (a0 : Bool) (r : Int) (w : World) (h : soft_zero.f k a0 = some r) :
  Calls Try.prog 85 #[.bool a0] w fun e w' => e = .returned (.int .u64 r) ∧ Drawn0 w w' := by
 have H : ((pattern_Make.f k a0 0 0).bind fun bt115 => (some bt115.1)) = some r := h
 clear h
 obtain ⟨⟨t115, t116⟩, A2, H⟩ := zbs H
 try dsimp only at H
 obtain rfl := Option.some.inj H
 go_enter Try.func85, Try.ntmps85
 go_wp2_with (first | ((with_reducible refine gtc 150 rfl ?_); refine zgL 7 Try.func150 (pattern_Make.calls k a0 0 0 t115 t116 _ A2.out) (h := ?_); rintro w' ⟨nd, rfl⟩))
 go_ret
 exact ⟨by first | rfl | (simp; done) | (simp [*]; done), by repeat (first | exact Drawn0.refl _ | apply Drawn0.step)⟩
theorem bits_LeadingZeros64.calls (a0 : Int) (r : Int) (w : World) (h : bits_LeadingZeros64.f a0 = some r) :
  Calls Try.prog 186 #[.int .u64 a0] w fun e w' => e = .returned (.int .i64 r) ∧ Drawn0 w w' := by
 unfold bits_LeadingZeros64.f at h
 split at h
 ·rename_i g
  obtain rfl := Option.some.inj h
  exact (Try.bits_LeadingZeros64 a0 w g.1 g.2).mono fun e w' ⟨h1, h2⟩ => ⟨h1, h2 ▸ Drawn0.refl _⟩
 cases h
end Go.Proofs.Ytmadjhmecfbcmaa.F
end
section
namespace Go.Proofs.Ytmadjhmecfbcmaa.M
def sh (X : Nat) : Nat := if X < 18014398509481984 then 1 else X.log2 - 52
def wd (X : Nat) : Nat := X / 2 ^ sh X
def hf (X : Nat) : Bool := X / 2 ^ (sh X - 1) % 2 == 1
def rs (X : Nat) (s : Bool) : Bool := s || X % 2 ^ (sh X - 1) != 0
def fk (X : Nat) : Nat := (sh X - 1) * 4503599627370496 + wd X
def magk (k : Nat) : Nat := if k / 4503599627370496 = 0 then k % 4503599627370496 else (4503599627370496 + k % 4503599627370496) * 2 ^ (k / 4503599627370496 - 1)
def dir (neg : Bool) (mode : Nat) : Nat := if mode = 1 then (if neg then 2 else 1) else if mode = 2 then (if neg then 1 else 2) else 0
def upw (X : Nat) (s : Bool) (d : Nat) : Bool :=
 if d = 1 then hf X || rs X s else if d = 2 then false else hf X && (rs X s || X / 2 ^ sh X % 2 == 1)
def kk (X : Nat) (s : Bool) (d : Nat) : Nat := fk X + (if upw X s d then 1 else 0)
def rnd (X : Nat) (s : Bool) (d : Nat) : Nat × Nat :=
 if kk X s d ≥ 9218868437227405312 then (if d = 2 then 9218868437227405311 else 9218868437227405312, 5)
 else (kk X s d, if hf X || rs X s then (if X < 9007199254740992 then 3 else 1) else 0)
def sg (neg : Bool) : Nat := if neg then 9223372036854775808 else 0
def RND (neg : Bool) (X : Nat) (s : Bool) (mode : Nat) : Nat × Nat :=
 (sg neg + (rnd X s (dir neg mode)).1, (rnd X s (dir neg mode)).2)
theorem RND_over {neg : Bool} {X : Nat} {s : Bool} {mode : Nat} (h : 9218868437227405312 ≤ kk X s (dir neg mode)) :
  RND neg X s mode = (sg neg + (if dir neg mode = 2 then 9218868437227405311 else 9218868437227405312), 5) := by
 unfold RND rnd; rw [if_pos h]
theorem RND_in {neg : Bool} {X : Nat} {s : Bool} {mode : Nat} (h : ¬ 9218868437227405312 ≤ kk X s (dir neg mode)) :
  RND neg X s mode = (sg neg + kk X s (dir neg mode), if hf X || rs X s then (if X < 9007199254740992 then 3 else 1) else 0) := by
 unfold RND rnd; rw [if_neg h]
theorem sh_cases (X : Nat) : (sh X = 1 ∧ X < 18014398509481984) ∨ (2 ≤ sh X ∧ 2 ^ (sh X + 52) ≤ X ∧ X < 2 ^ (sh X + 53)) := by
 unfold sh
 split
 ·left; omega
 ·right
  have h0 : X ≠ 0 := by omega
  have h1 : 54 ≤ X.log2 := by rw [Nat.le_log2 h0]; omega
  have h2 := Nat.log2_self_le h0
  have h3 : X < 2 ^ (X.log2 + 1) := Nat.lt_log2_self
  refine ⟨by omega, ?_, ?_⟩
  ·rw [show X.log2 - 52 + 52 = X.log2 by omega]; exact h2
  ·rw [show X.log2 - 52 + 53 = X.log2 + 1 by omega]; exact h3
theorem sh_pos (X : Nat) : 1 ≤ sh X := by rcases sh_cases X with h | h <;> omega
theorem two_pos (n : Nat) : 0 < 2 ^ n := Nat.two_pow_pos n
theorem pow_le {a b : Nat} (h : a ≤ b) : 2 ^ a ≤ 2 ^ b := Nat.pow_le_pow_right (by omega) h
theorem sh_unique {X t : Nat} (h : (t = 1 ∧ X < 18014398509481984) ∨ (2 ≤ t ∧ 2 ^ (t + 52) ≤ X ∧ X < 2 ^ (t + 53))) : sh X = t := by
 rcases h with ⟨rfl, h⟩ | ⟨h1, h2, h3⟩
 ·unfold sh; rw [if_pos h]
 ·have h4 : 2 ^ 54 ≤ 2 ^ (t + 52) := pow_le (by omega)
  have h5 : ¬ X < 18014398509481984 := by omega
  have h0 : X ≠ 0 := by omega
  unfold sh; rw [if_neg h5]
  have a1 : t + 52 ≤ X.log2 := by rw [Nat.le_log2 h0]; exact h2
  have a2 : X.log2 < t + 53 := by rw [Nat.log2_lt h0]; exact h3
  omega
theorem wd_lt (X : Nat) : wd X < 9007199254740992 := by
 unfold wd
 rw [Nat.div_lt_iff_lt_mul (two_pos _)]
 rcases sh_cases X with ⟨h1, h2⟩ | ⟨_, _, h3⟩
 ·rw [h1]; omega
 ·rw [Nat.pow_add] at h3; omega
theorem wd_ge (X : Nat) (h : 2 ≤ sh X) : 4503599627370496 ≤ wd X := by
 unfold wd
 rw [Nat.le_div_iff_mul_le (two_pos _)]
 rcases sh_cases X with ⟨h1, _⟩ | ⟨_, h2, _⟩
 ·omega
 ·rw [Nat.pow_add] at h2; omega
theorem magk_parts (t w : Nat) (h : (t = 1 ∧ w < 9007199254740992) ∨ (2 ≤ t ∧ 4503599627370496 ≤ w ∧ w < 9007199254740992)) :
  magk ((t - 1) * 4503599627370496 + w) = w * 2 ^ (t - 1) := by
 unfold magk
 by_cases hw : w < 4503599627370496
 ·have ht : t = 1 := by omega
  subst ht
  rw [if_pos (by omega), show (1 - 1) * 4503599627370496 + w = w by omega, Nat.mod_eq_of_lt hw, show (1 - 1 : Nat) = 0 from rfl, Nat.pow_zero, Nat.mul_one]
 ·have e1 : ((t - 1) * 4503599627370496 + w) / 4503599627370496 = t := by omega
  have e2 : ((t - 1) * 4503599627370496 + w) % 4503599627370496 = w - 4503599627370496 := by omega
  rw [e1, e2, if_neg (by omega)]
  rw [show 4503599627370496 + (w - 4503599627370496) = w by omega]
theorem magk_parts_succ (t w : Nat) (h : (t = 1 ∧ w < 9007199254740992) ∨ (2 ≤ t ∧ 4503599627370496 ≤ w ∧ w < 9007199254740992)) :
  magk ((t - 1) * 4503599627370496 + w + 1) = (w + 1) * 2 ^ (t - 1) := by
 by_cases hw : w + 1 < 9007199254740992
 ·rw [Nat.add_assoc]; exact magk_parts t (w + 1) (by omega)
 ·have hw : w = 9007199254740991 := by omega
  have ht : 1 ≤ t := by omega
  have := magk_parts (t + 1) 4503599627370496 (by omega)
  rw [show t + 1 - 1 = t by omega] at this
  rw [show (t - 1) * 4503599627370496 + w + 1 = t * 4503599627370496 + 4503599627370496 by omega, this]
  obtain ⟨u, rfl⟩ : ∃ u, t = u + 1 := ⟨t - 1, by omega⟩
  rw [show u + 1 - 1 = u by omega, Nat.pow_succ, show w + 1 = 4503599627370496 * 2 by omega]; grind
theorem key_parts (k : Nat) : ∃ t w, k = (t - 1) * 4503599627370496 + w ∧ ((t = 1 ∧ w < 9007199254740992) ∨ (2 ≤ t ∧ 4503599627370496 ≤ w ∧ w < 9007199254740992)) := by
 by_cases h : k < 9007199254740992
 ·exact ⟨1, k, by omega, by omega⟩
 ·exact ⟨k / 4503599627370496, k % 4503599627370496 + 4503599627370496, by omega, by omega⟩
theorem magk_lt_succ (k : Nat) : magk k < magk (k + 1) := by
 obtain ⟨t, w, rfl, h⟩ := key_parts k
 rw [magk_parts t w h, magk_parts_succ t w h]
 exact Nat.mul_lt_mul_of_pos_right (by omega) (two_pos _)
theorem magk_strict {a b : Nat} (h : a < b) : magk a < magk b := by
 induction b with
 | zero => omega
 | succ b ih =>
  by_cases e : a = b
  ·subst e; exact magk_lt_succ a
  ·exact Nat.lt_trans (ih (by omega)) (magk_lt_succ b)
theorem magk_mono {a b : Nat} (h : a ≤ b) : magk a ≤ magk b := by
 by_cases e : a = b
 ·subst e; exact Nat.le_refl _
 ·exact Nat.le_of_lt (magk_strict (by omega))
theorem magk_le_iff {a b : Nat} : magk a ≤ magk b ↔ a ≤ b := by
 constructor
 ·intro h; by_cases e : a ≤ b
  ·exact e
  ·exact absurd (magk_strict (a := b) (b := a) (by omega)) (by omega)
 ·exact magk_mono
theorem magk_inj {a b : Nat} (h : magk a = magk b) : a = b := by
 have h1 := magk_le_iff.1 (Nat.le_of_eq h)
 have h2 := magk_le_iff.1 (Nat.le_of_eq h.symm)
 omega
theorem fk_parts (X : Nat) : (sh X = 1 ∧ wd X < 9007199254740992) ∨ (2 ≤ sh X ∧ 4503599627370496 ≤ wd X ∧ wd X < 9007199254740992) := by
 have h1 := wd_lt X
 have h2 := sh_pos X
 by_cases h : sh X = 1
 ·left; omega
 ·right; have := wd_ge X (by omega); omega
theorem two_magk_fk (X : Nat) : 2 * magk (fk X) = wd X * 2 ^ sh X := by
 unfold fk
 rw [magk_parts _ _ (fk_parts X)]
 obtain ⟨u, hu⟩ : ∃ u, sh X = u + 1 := ⟨sh X - 1, by have := sh_pos X; omega⟩
 rw [hu, show u + 1 - 1 = u by omega, Nat.pow_succ]; grind
theorem two_magk_fk_succ (X : Nat) : 2 * magk (fk X + 1) = (wd X + 1) * 2 ^ sh X := by
 unfold fk
 rw [magk_parts_succ _ _ (fk_parts X)]
 obtain ⟨u, hu⟩ : ∃ u, sh X = u + 1 := ⟨sh X - 1, by have := sh_pos X; omega⟩
 rw [hu, show u + 1 - 1 = u by omega, Nat.pow_succ]; grind
theorem fk_le (X : Nat) : 2 * magk (fk X) ≤ X := by
 rw [two_magk_fk]; exact Nat.div_mul_le_self _ _
theorem fk_lt (X : Nat) : X < 2 * magk (fk X + 1) := by
 rw [two_magk_fk_succ]; unfold wd
 exact Nat.lt_mul_of_div_lt (by omega) (two_pos _)
theorem fk_iff (X k : Nat) : 2 * magk k ≤ X ↔ k ≤ fk X := by
 constructor
 ·intro h
  by_cases e : k ≤ fk X
  ·exact e
  ·have := magk_mono (a := fk X + 1) (b := k) (by omega)
   have := fk_lt X
   omega
 ·intro h
  have := magk_mono h
  have := fk_le X
  omega
theorem X_parts (X : Nat) : X = wd X * 2 ^ sh X + (if hf X then 1 else 0) * 2 ^ (sh X - 1) + X % 2 ^ (sh X - 1) := by
 obtain ⟨u, hu⟩ : ∃ u, sh X = u + 1 := ⟨sh X - 1, by have := sh_pos X; omega⟩
 unfold wd hf
 rw [hu, show u + 1 - 1 = u by omega]
 have h1 := Nat.div_add_mod X (2 ^ u)
 have h2 : X / 2 ^ (u + 1) = X / 2 ^ u / 2 := by rw [Nat.pow_succ, Nat.div_div_eq_div_mul]
 have h3 := Nat.div_add_mod (X / 2 ^ u) 2
 rw [h2]
 have h4 : (if (X / 2 ^ u % 2 == 1) = true then 1 else 0) = X / 2 ^ u % 2 := by
  rcases Nat.mod_two_eq_zero_or_one (X / 2 ^ u) with h | h <;> rw [h] <;> rfl
 rw [h4, Nat.pow_succ]
 generalize hq : X / 2 ^ u = q at *
 have h5 : q / 2 * (2 ^ u * 2) + q % 2 * 2 ^ u = q * 2 ^ u := by
  rw [← Nat.mul_assoc, Nat.mul_right_comm, ← Nat.add_mul]; congr 1; omega
 rw [h5, Nat.mul_comm q]; omega
theorem exact_iff (X : Nat) (s : Bool) : (hf X || rs X s) = false ↔ X = 2 * magk (fk X) ∧ s = false := by
 rw [two_magk_fk]
 have hp := X_parts X
 have hm := Nat.mod_lt X (two_pos (sh X - 1))
 have h2 := two_pos (sh X - 1)
 unfold rs
 cases h : hf X <;> cases s <;> simp [h] at hp ⊢ <;> omega
end Go.Proofs.Ytmadjhmecfbcmaa.M
end
section
namespace Go.Proofs.Ytmadjhmecfbcmaa.M
open Go.RowKit Go.Proofs.YtmadjhmecfbcmaaW.PrintWords Go.Proofs.YtmadjhmecfbcmaaW.PrintLast Go.Proofs.YtmadjhmecfbcmaaW.PrintMore Go.Proofs.Ytmadjhmecfbcmaa.F
theorem w64 {n : Int} (h0 : -9223372036854775808 ≤ n) (h1 : n < 9223372036854775808) : wrap64 n = n := by unfold wrap64; omega
theorem wu64 {n : Int} (h0 : 0 ≤ n) (h1 : n < 18446744073709551616) : IntKind.u64.wrap n = n := by rw [IntKind.wrap_u64]; omega
theorem and_mask (a j : Nat) (ha : a < 18446744073709551616) (hj : j ≤ 63) : bits .and .u64 (a : Int) ((2 ^ j - 1 : Nat) : Int) = ((a % 2 ^ j : Nat) : Int) := by
 have h : 2 ^ j ≤ 2 ^ 63 := pow_le hj
 rw [u64_and_nat a (2 ^ j - 1) ha (by omega), Nat.and_two_pow_sub_one_eq_mod]
theorem and_1 (a : Nat) (ha : a < 18446744073709551616) : bits .and .u64 (a : Int) 1 = ((a % 2 : Nat) : Int) := and_mask a 1 ha (by decide)
theorem and_2047 (a : Nat) (ha : a < 18446744073709551616) : bits .and .u64 (a : Int) 2047 = ((a % 2048 : Nat) : Int) := and_mask a 11 ha (by decide)
theorem and_52 (a : Nat) (ha : a < 18446744073709551616) : bits .and .u64 (a : Int) 4503599627370495 = ((a % 4503599627370496 : Nat) : Int) := and_mask a 52 ha (by decide)
theorem or_join (a b i : Nat) (ha : a < 18446744073709551616) (hb : b < 2 ^ i) (hm : a % 2 ^ i = 0) (hi : b < 18446744073709551616) : bits .or .u64 (a : Int) (b : Int) = ((a + b : Nat) : Int) := by
 rw [u64_or_nat a b ha hi, nat_join i a b hm hb]
theorem or_join' (a b i : Nat) (ha : a < 18446744073709551616) (hb : b < 2 ^ i) (hm : a % 2 ^ i = 0) (hi : b < 18446744073709551616) : bits .or .u64 (b : Int) (a : Int) = ((a + b : Nat) : Int) := by
 rw [u64_or_nat b a hi ha, Nat.or_comm, nat_join i a b hm hb]
def flip (a : Nat) : Nat := if a < 9223372036854775808 then a + 9223372036854775808 else a - 9223372036854775808
theorem xor_sign (a : Nat) (ha : a < 18446744073709551616) : bits .xor .u64 (a : Int) 9223372036854775808 = ((flip a : Nat) : Int) := by
 rw [show (9223372036854775808 : Int) = ((9223372036854775808 : Nat) : Int) from rfl, u64_xor_nat a 9223372036854775808 ha (by decide)]
 congr 1
 unfold flip
 split
 ·rename_i h
  have e : a ^^^ 9223372036854775808 = 9223372036854775808 ||| a := by
   apply Nat.eq_of_testBit_eq
   intro j
   rw [Nat.testBit_xor, Nat.testBit_or]
   by_cases hj : j = 63
   ·subst hj
    have : a.testBit 63 = false := Nat.testBit_lt_two_pow (by omega)
    rw [this]; rfl
   ·rw [show (9223372036854775808 : Nat) = 2 ^ 63 from rfl, Nat.testBit_two_pow]
    simp [Ne.symm hj]
  rw [e, nat_join 63 _ _ (by decide) (by omega)]; omega
 ·rename_i h
  obtain ⟨b, rfl⟩ : ∃ b, a = 9223372036854775808 + b := ⟨a - 9223372036854775808, by omega⟩
  have hb : b < 2 ^ 63 := by omega
  rw [← nat_join 63 9223372036854775808 b (by decide) hb]
  have e : (9223372036854775808 ||| b) ^^^ 9223372036854775808 = b := by
   apply Nat.eq_of_testBit_eq
   intro j
   rw [Nat.testBit_xor, Nat.testBit_or]
   by_cases hj : j = 63
   ·subst hj
    have : b.testBit 63 = false := Nat.testBit_lt_two_pow hb
    rw [this]; rfl
   ·rw [show (9223372036854775808 : Nat) = 2 ^ 63 from rfl, Nat.testBit_two_pow]
    simp [Ne.symm hj]
  rw [e, nat_join 63 _ _ (by decide) hb]; omega
theorem andNot_sign (a : Nat) (ha : a < 18446744073709551616) : bits .andNot .u64 (a : Int) 9223372036854775808 = ((a % 9223372036854775808 : Nat) : Int) := by
 rw [show (9223372036854775808 : Int) = ((9223372036854775808 : Nat) : Int) from rfl, u64_andNot_nat a 9223372036854775808 ha (by decide)]
 rw [show (18446744073709551615 - 9223372036854775808 : Nat) = 2 ^ 63 - 1 from rfl, Nat.and_two_pow_sub_one_eq_mod]
theorem bitLen_log2 (n : Nat) (h0 : n ≠ 0) (h : n < 18446744073709551616) : Lib.bitLen n = n.log2 + 1 := by
 have h1 := Lib.bitLenAux_bounds 64 n (by omega) h0
 have h2 : Lib.bitLenAux 64 n - 1 ≤ n.log2 := by rw [Nat.le_log2 h0]; exact h1.2.1
 have h3 : n.log2 < Lib.bitLenAux 64 n := by rw [Nat.log2_lt h0]; exact h1.2.2
 unfold Lib.bitLen; omega
theorem shl_nat (x n : Nat) (h : n ≤ 64) : shl .u64 (x : Int) (n : Int) = ((x * 2 ^ n % 18446744073709551616 : Nat) : Int) := by
 unfold shl
 rw [IntKind.wrap_u64, show IntKind.u64.bits = 64 from rfl, Int.toNat_natCast, Nat.min_eq_left h]; simp
theorem shr_nat (x n : Nat) (h : n ≤ 64) : shr .u64 (x : Int) (n : Int) = ((x / 2 ^ n : Nat) : Int) := by
 unfold shr
 rw [show IntKind.u64.bits = 64 from rfl, Int.toNat_natCast, Nat.min_eq_left h]; simp
theorem bind_of {α β : Type} {x : Option α} {a : α} (f : α → Option β) (h : x = some a) : x.bind f = f a := by rw [h]; rfl
theorem Ev.later {α : Type} {g : Nat → Option α} {r : α} (n : Nat) (h : ∀ k, g (k + n) = some r) : Ev g r :=
 ⟨n, fun k hk => by have := h (k - n); rwa [Nat.sub_add_cancel hk] at this⟩
theorem Ev.next {α : Type} {g : Nat → Option α} {r : α} (h : Ev (fun k => g (k + 1)) r) : Ev g r := Ev.step (fun _ => rfl) h
theorem Ev.all {α : Type} {g : Nat → Option α} {r : α} (h : ∀ k, g k = some r) : Ev g r := ⟨0, fun k _ => h k⟩
theorem Ev.const {α : Type} {x : Option α} {r : α} (h : x = some r) : Ev (fun _ => x) r := ⟨0, fun _ _ => h⟩
theorem Ev.b {α β : Type} {g : Nat → Option α} {f : Nat → α → Option β} (a : α) {r : β} (h : Ev g a) (k : Ev (fun n => f n a) r) : Ev (fun n => (g n).bind (f n)) r := Ev.bind h k
end Go.Proofs.Ytmadjhmecfbcmaa.M
end
section
namespace Go.Proofs.Ytmadjhmecfbcmaa.M
open Go.RowKit Go.Proofs.YtmadjhmecfbcmaaW.PrintWords Go.Proofs.YtmadjhmecfbcmaaW.PrintLast Go.Proofs.YtmadjhmecfbcmaaW.PrintMore Go.Proofs.Ytmadjhmecfbcmaa.F
structure Kn (y y1 y0 u c t v : Nat) : Prop where
 hy : y = y1 * 4294967296 + y0
 h0 : y0 < 4294967296
 h1 : 2147483648 ≤ y1
 h2 : y1 < 4294967296
 hu : u < y
 hc : c < 4294967296
 hd : u * 4294967296 + c = t * y + v
 hv : v < y
theorem Kn.t_lt {y y1 y0 u c t v : Nat} (K : Kn y y1 y0 u c t v) : t < 4294967296 := by
 have h1 := K.hd; have h2 := K.hu; have h3 := K.hc
 by_cases h : t < 4294967296
 ·exact h
 ·have : 4294967296 * y ≤ t * y := Nat.mul_le_mul_right _ (by omega)
  omega
theorem Kn.too {y y1 y0 u c t v q r : Nat} (K : Kn y y1 y0 u c t v) (hs : u = q * y1 + r) (h : 4294967296 ≤ q ∨ 4294967296 * r + c < q * y0) : t < q := by
 have ht := K.t_lt
 rcases h with h | h
 ·omega
 ·have h1 := K.hd
  by_cases g : t < q
  ·exact g
  ·exfalso
   have h2 : q * y ≤ t * y := Nat.mul_le_mul_right _ (by omega)
   have h3 : q * y = q * y1 * 4294967296 + q * y0 := by rw [K.hy]; grind
   rw [hs] at h1
   omega
theorem Kn.fit {y y1 y0 u c t v q r : Nat} (K : Kn y y1 y0 u c t v) (hs : u = q * y1 + r) (h : q * y0 ≤ 4294967296 * r + c) : q ≤ t := by
 have h1 := K.hd
 have h3 : q * y = q * y1 * 4294967296 + q * y0 := by rw [K.hy]; grind
 by_cases g : q ≤ t
 ·exact g
 ·exfalso
  have h2 : (t + 1) * y ≤ q * y := Nat.mul_le_mul_right _ (by omega)
  have h4 := K.hv
  rw [hs] at h1
  rw [Nat.add_mul, Nat.one_mul] at h2
  omega
theorem Kn.start {y y1 y0 u c t v : Nat} (K : Kn y y1 y0 u c t v) : t ≤ u / y1 ∧ u / y1 ≤ 4294967297 ∧ u % y1 < 4294967296 ∧ u = u / y1 * y1 + u % y1 := by
 have h1 := K.h1; have h2 := K.h2; have h0 := K.h0; have hu := K.hu; have hy := K.hy; have hd := K.hd; have hc := K.hc
 have hm := Nat.mod_lt u (show 0 < y1 by omega)
 refine ⟨?_, ?_, by omega, by rw [Nat.mul_comm]; exact (Nat.div_add_mod u y1).symm⟩
 ·rw [Nat.le_div_iff_mul_le (by omega)]
  have h3 : t * y = t * y1 * 4294967296 + t * y0 := by rw [hy]; grind
  omega
 ·have : u / y1 < 4294967298 := by rw [Nat.div_lt_iff_lt_mul (by omega)]; omega
  omega
theorem Kn.mul_ok {y y1 y0 u c t v q : Nat} (K : Kn y y1 y0 u c t v) (hq : q ≤ 4294967297) : q * y0 < 18446744073709551616 := by
 have h0 := K.h0
 have : q * y0 ≤ 4294967297 * 4294967295 := Nat.mul_le_mul hq (by omega)
 omega
theorem wnat {n : Nat} (h : n < 18446744073709551616) : IntKind.u64.wrap (n : Int) = (n : Int) := wu64 (by omega) (by omega)
theorem Dv_l0 {y y1 y0 u c t v : Nat} (K : Kn y y1 y0 u c t v) (s u0 : Int) (res : Int × Int) (J : Ev (fun k => bits_Div64q.j2 k (y : Int) s (y1 : Int) (y0 : Int) (u : Int) (c : Int) u0 (t : Int)) res) :
  ∀ (n q r : Nat), q = t + n → q ≤ 4294967297 → r < 4294967296 → u = q * y1 + r →
   Ev (fun k => bits_Div64q.l0 k (y : Int) s (y1 : Int) (y0 : Int) (u : Int) (c : Int) u0 (q : Int) (r : Int)) res := by
 have h1 := K.h1; have h2 := K.h2; have h0 := K.h0; have hc := K.hc
 intro n
 induction n with
 | zero =>
  intro q r hq hq2 hr hs
  have hmul := K.mul_ok hq2
  have nc : ¬ (4294967296 ≤ q ∨ 4294967296 * r + c < q * y0) := fun h => by have := K.too hs h; omega
  have m1 : IntKind.u64.wrap ((q : Int) * (y0 : Int)) = ((q * y0 : Nat) : Int) := by rw [← Int.natCast_mul]; exact wnat hmul
  have m2 : IntKind.u64.wrap (4294967296 * (r : Int)) = ((4294967296 * r : Nat) : Int) := by rw [wu64 (by omega) (by omega)]; omega
  have m3 : IntKind.u64.wrap (((4294967296 * r : Nat) : Int) + (c : Int)) = ((4294967296 * r + c : Nat) : Int) := by rw [wu64 (by omega) (by omega)]; omega
  refine Ev.next ?_
  simp only [bits_Div64q.l0]
  rw [m1, m2, m3, decide_eq_false (show ¬ (((q * y0 : Nat) : Int) > ((4294967296 * r + c : Nat) : Int)) by omega)]
  refine Ev.congr (fun k => by rw [if_neg (show ¬ (q : Int) ≥ 4294967296 by omega)]) ?_
  refine Ev.next ?_
  simp only [bits_Div64q.j1]
  have e : q = t := by omega
  rw [e]
  exact Ev.congr (fun k => by rw [if_neg (by simp)]) J
 | succ n ih =>
  intro q r hq hq2 hr hs
  have hmul := K.mul_ok hq2
  have cc : 4294967296 ≤ q ∨ 4294967296 * r + c < q * y0 := by
   by_cases h : 4294967296 * r + c < q * y0
   ·exact .inr h
   ·have := K.fit hs (by omega); omega
  have m1 : IntKind.u64.wrap ((q : Int) * (y0 : Int)) = ((q * y0 : Nat) : Int) := by rw [← Int.natCast_mul]; exact wnat hmul
  have m2 : IntKind.u64.wrap (4294967296 * (r : Int)) = ((4294967296 * r : Nat) : Int) := by rw [wu64 (by omega) (by omega)]; omega
  have m3 : IntKind.u64.wrap (((4294967296 * r : Nat) : Int) + (c : Int)) = ((4294967296 * r + c : Nat) : Int) := by rw [wu64 (by omega) (by omega)]; omega
  have m4 : IntKind.u64.wrap ((r : Int) + (y1 : Int)) = ((r + y1 : Nat) : Int) := by rw [wu64 (by omega) (by omega)]; omega
  have m5 : IntKind.u64.wrap ((q : Int) - 1) = ((q - 1 : Nat) : Int) := by rw [wu64 (by omega) (by omega)]; omega
  have hs2 : u = (q - 1) * y1 + (r + y1) := by
   have : q * y1 = (q - 1) * y1 + y1 := by
    obtain ⟨p, rfl⟩ : ∃ p, q = p + 1 := ⟨q - 1, by omega⟩
    rw [Nat.add_sub_cancel, Nat.add_mul, Nat.one_mul]
   omega
  have B : Ev (fun k => bits_Div64q.j1 k (y : Int) s (y1 : Int) (y0 : Int) (u : Int) (c : Int) u0 (q : Int) (r : Int) true) res := by
   refine Ev.next ?_
   simp only [bits_Div64q.j1]
   rw [m4, m5]
   by_cases g : 4294967296 ≤ r + y1
   ·have hm : (q - 1) * y0 ≤ 4294967296 * 4294967296 := Nat.mul_le_mul (by omega) (by omega)
    have := K.fit hs2 (by omega)
    have e : q - 1 = t := by omega
    rw [e]
    exact Ev.congr (fun k => by rw [if_pos trivial, if_pos (by omega)]) J
   ·exact Ev.congr (fun k => by rw [if_pos trivial, if_neg (by omega)]) (ih (q - 1) (r + y1) (by omega) (by omega) (by omega) hs2)
  refine Ev.next ?_
  simp only [bits_Div64q.l0]
  rw [m1, m2, m3]
  by_cases g : 4294967296 ≤ q
  ·exact Ev.congr (fun k => by rw [if_pos (by omega)]) B
  ·have g2 : 4294967296 * r + c < q * y0 := by rcases cc with h | h; exact absurd h g; exact h
   rw [decide_eq_true (show ((q * y0 : Nat) : Int) > ((4294967296 * r + c : Nat) : Int) by omega)]
   exact Ev.congr (fun k => by rw [if_neg (by omega)]) B
theorem Dv_l1 {y y1 y0 u c t v : Nat} (K : Kn y y1 y0 u c t v) (s : Nat) (q1 : Nat) (hs64 : s ≤ 64) (hy : y < 18446744073709551616) (hq1 : q1 < 4294967296) :
  ∀ (n q r : Nat), q = t + n → q ≤ 4294967297 → r < 4294967296 → u = q * y1 + r →
   Ev (fun k => bits_Div64q.l1 k (y : Int) (s : Int) (y1 : Int) (y0 : Int) (c : Int) (q1 : Int) (r : Int) (u : Int) (q : Int)) (((q1 * 4294967296 + t : Nat) : Int), ((v / 2 ^ s : Nat) : Int)) := by
 have h1 := K.h1; have h2 := K.h2; have h0 := K.h0; have hc := K.hc; have hd := K.hd; have hv := K.hv; have hu := K.hu; have htl := K.t_lt
 have f1 : IntKind.u64.wrap (IntKind.u64.wrap ((q1 : Int) * 4294967296) + (t : Int)) = ((q1 * 4294967296 + t : Nat) : Int) := by
  simp only [IntKind.wrap_u64]; omega
 have f2 : IntKind.u64.wrap (IntKind.u64.wrap (IntKind.u64.wrap ((u : Int) * 4294967296) + (c : Int)) - IntKind.u64.wrap ((t : Int) * (y : Int))) = (v : Int) := by
  rw [← Int.natCast_mul t y]
  obtain ⟨p, hp⟩ : ∃ p, t * y = p := ⟨_, rfl⟩
  rw [hp] at hd ⊢
  simp only [IntKind.wrap_u64]; omega
 have f3 : shr .u64 (v : Int) (s : Int) = ((v / 2 ^ s : Nat) : Int) := shr_nat v s hs64
 intro n
 induction n with
 | zero =>
  intro q r hq hq2 hr hs
  have hmul := K.mul_ok hq2
  have nc : ¬ (4294967296 ≤ q ∨ 4294967296 * r + c < q * y0) := fun h => by have := K.too hs h; omega
  have m1 : IntKind.u64.wrap ((q : Int) * (y0 : Int)) = ((q * y0 : Nat) : Int) := by rw [← Int.natCast_mul]; exact wnat hmul
  have m2 : IntKind.u64.wrap (4294967296 * (r : Int)) = ((4294967296 * r : Nat) : Int) := by rw [wu64 (by omega) (by omega)]; omega
  have m3 : IntKind.u64.wrap (((4294967296 * r : Nat) : Int) + (c : Int)) = ((4294967296 * r + c : Nat) : Int) := by rw [wu64 (by omega) (by omega)]; omega
  refine Ev.next ?_
  simp only [bits_Div64q.l1]
  rw [m1, m2, m3, decide_eq_false (show ¬ (((q * y0 : Nat) : Int) > ((4294967296 * r + c : Nat) : Int)) by omega)]
  refine Ev.congr (fun k => by rw [if_neg (show ¬ (q : Int) ≥ 4294967296 by omega)]) ?_
  refine Ev.next ?_
  simp only [bits_Div64q.j4]
  have e : q = t := by omega
  rw [e, f1, f2, f3]
  exact Ev.congr (fun k => by rw [if_neg (by simp), if_pos (by omega)]) (Ev.now _)
 | succ n ih =>
  intro q r hq hq2 hr hs
  have hmul := K.mul_ok hq2
  have cc : 4294967296 ≤ q ∨ 4294967296 * r + c < q * y0 := by
   by_cases h : 4294967296 * r + c < q * y0
   ·exact .inr h
   ·have := K.fit hs (by omega); omega
  have m1 : IntKind.u64.wrap ((q : Int) * (y0 : Int)) = ((q * y0 : Nat) : Int) := by rw [← Int.natCast_mul]; exact wnat hmul
  have m2 : IntKind.u64.wrap (4294967296 * (r : Int)) = ((4294967296 * r : Nat) : Int) := by rw [wu64 (by omega) (by omega)]; omega
  have m3 : IntKind.u64.wrap (((4294967296 * r : Nat) : Int) + (c : Int)) = ((4294967296 * r + c : Nat) : Int) := by rw [wu64 (by omega) (by omega)]; omega
  have m4 : IntKind.u64.wrap ((r : Int) + (y1 : Int)) = ((r + y1 : Nat) : Int) := by rw [wu64 (by omega) (by omega)]; omega
  have m5 : IntKind.u64.wrap ((q : Int) - 1) = ((q - 1 : Nat) : Int) := by rw [wu64 (by omega) (by omega)]; omega
  have hs2 : u = (q - 1) * y1 + (r + y1) := by
   have : q * y1 = (q - 1) * y1 + y1 := by
    obtain ⟨p, rfl⟩ : ∃ p, q = p + 1 := ⟨q - 1, by omega⟩
    rw [Nat.add_sub_cancel, Nat.add_mul, Nat.one_mul]
   omega
  have B : Ev (fun k => bits_Div64q.j4 k (y : Int) (s : Int) (y1 : Int) (y0 : Int) (c : Int) (q1 : Int) (r : Int) (u : Int) (q : Int) true) (((q1 * 4294967296 + t : Nat) : Int), ((v / 2 ^ s : Nat) : Int)) := by
   refine Ev.next ?_
   simp only [bits_Div64q.j4]
   rw [m4, m5]
   by_cases g : 4294967296 ≤ r + y1
   ·have hm : (q - 1) * y0 ≤ 4294967296 * 4294967296 := Nat.mul_le_mul (by omega) (by omega)
    have := K.fit hs2 (by omega)
    have e : q - 1 = t := by omega
    rw [e, f1, f2, f3]
    exact Ev.congr (fun k => by rw [if_pos trivial, if_pos (by omega), if_pos (by omega)]) (Ev.now _)
   ·exact Ev.congr (fun k => by rw [if_pos trivial, if_neg (by omega)]) (ih (q - 1) (r + y1) (by omega) (by omega) (by omega) hs2)
  refine Ev.next ?_
  simp only [bits_Div64q.l1]
  rw [m1, m2, m3]
  by_cases g : 4294967296 ≤ q
  ·exact Ev.congr (fun k => by rw [if_pos (by omega)]) B
  ·have g2 : 4294967296 * r + c < q * y0 := by rcases cc with h | h; exact absurd h g; exact h
   rw [decide_eq_true (show ((q * y0 : Nat) : Int) > ((4294967296 * r + c : Nat) : Int) by omega)]
   exact Ev.congr (fun k => by rw [if_neg (by omega)]) B
theorem Dv_tot (u c c0 p v p2 v2 : Nat) (h1 : u * 4294967296 + c = p + v) (h2 : v * 4294967296 + c0 = p2 + v2) : (u * 4294967296 + c) * 4294967296 + c0 = p * 4294967296 + p2 + v2 := by
 rw [h1, Nat.add_mul, Nat.add_assoc, h2, Nat.add_assoc]
theorem Dv_f (y s u c c0 : Nat) (y1 y0 : Nat) (hy : y = y1 * 4294967296 + y0) (h0 : y0 < 4294967296) (h1 : 2147483648 ≤ y1) (h2 : y1 < 4294967296) (hu : u < y) (hc : c < 4294967296) (hc0 : c0 < 4294967296) (hs : s ≤ 64) :
  Ev (fun k => bits_Div64q.l0 k (y : Int) (s : Int) (y1 : Int) (y0 : Int) (u : Int) (c : Int) (c0 : Int) ((u / y1 : Nat) : Int) ((u % y1 : Nat) : Int))
   ((((u * 4294967296 + c) * 4294967296 + c0) / y : Nat), ((((u * 4294967296 + c) * 4294967296 + c0) % y / 2 ^ s : Nat) : Int)) := by
 have y0' : 0 < y := by omega
 have K : Kn y y1 y0 u c ((u * 4294967296 + c) / y) ((u * 4294967296 + c) % y) :=
  ⟨hy, h0, h1, h2, hu, hc, (Nat.div_add_mod' _ _).symm, Nat.mod_lt _ y0'⟩
 obtain ⟨t, ht⟩ : ∃ t, (u * 4294967296 + c) / y = t := ⟨_, rfl⟩
 obtain ⟨v, hv⟩ : ∃ v, (u * 4294967296 + c) % y = v := ⟨_, rfl⟩
 rw [ht, hv] at K
 have K2 : Kn y y1 y0 v c0 ((v * 4294967296 + c0) / y) ((v * 4294967296 + c0) % y) :=
  ⟨hy, h0, h1, h2, K.hv, hc0, (Nat.div_add_mod' _ _).symm, Nat.mod_lt _ y0'⟩
 obtain ⟨t2, ht2⟩ : ∃ t, (v * 4294967296 + c0) / y = t := ⟨_, rfl⟩
 obtain ⟨v2, hv2⟩ : ∃ v', (v * 4294967296 + c0) % y = v' := ⟨_, rfl⟩
 rw [ht2, hv2] at K2
 have hd := K.hd
 have hd2 := K2.hd
 have hv3 := K2.hv
 have hv1 := K.hv
 have tl := K.t_lt
 have tl2 := K2.t_lt
 have S := K.start
 have S2 := K2.start
 have total : (u * 4294967296 + c) * 4294967296 + c0 = (t * 4294967296 + t2) * y + v2 := by
  have e : (t * 4294967296 + t2) * y = t * y * 4294967296 + t2 * y := by rw [Nat.add_mul (t * 4294967296) t2 y, Nat.mul_right_comm t 4294967296 y]
  rw [e]
  exact Dv_tot u c c0 (t * y) v (t2 * y) v2 hd hd2
 have q_ok : ((u * 4294967296 + c) * 4294967296 + c0) / y = t * 4294967296 + t2 := by
  rw [total, Nat.add_comm, Nat.add_mul_div_right _ _ y0', Nat.div_eq_of_lt hv3, Nat.zero_add]
 have r_ok : ((u * 4294967296 + c) * 4294967296 + c0) % y = v2 := by
  rw [total, Nat.add_comm, Nat.add_mul_mod_self_right, Nat.mod_eq_of_lt hv3]
 rw [q_ok, r_ok]
 have L1 := Dv_l1 K2 s t hs (by omega) tl (v / y1 - t2) (v / y1) (v % y1) (by omega) S2.2.1 S2.2.2.1 S2.2.2.2
 have un : IntKind.u64.wrap (IntKind.u64.wrap (IntKind.u64.wrap ((u : Int) * 4294967296) + (c : Int)) - IntKind.u64.wrap ((t : Int) * (y : Int))) = (v : Int) := by
  rw [← Int.natCast_mul t y]
  obtain ⟨p, hp⟩ : ∃ p, t * y = p := ⟨_, rfl⟩
  rw [hp] at hd ⊢
  simp only [IntKind.wrap_u64]; omega
 have qd : IntKind.u64.wrap (Int.tdiv (v : Int) (y1 : Int)) = ((v / y1 : Nat) : Int) := by
  rw [Int.ofNat_tdiv]; exact wnat (by have := Nat.div_le_self v y1; omega)
 have rd : IntKind.u64.wrap ((v : Int) - IntKind.u64.wrap (((v / y1 : Nat) : Int) * (y1 : Int))) = ((v % y1 : Nat) : Int) := by
  rw [← Int.natCast_mul]
  have e := S2.2.2.2
  obtain ⟨p, hp⟩ : ∃ p, v / y1 * y1 = p := ⟨_, rfl⟩
  rw [hp] at e ⊢
  simp only [IntKind.wrap_u64]; omega
 have J : Ev (fun k => bits_Div64q.j2 k (y : Int) (s : Int) (y1 : Int) (y0 : Int) (u : Int) (c : Int) (c0 : Int) (t : Int)) (((t * 4294967296 + t2 : Nat) : Int), ((v2 / 2 ^ s : Nat) : Int)) := by
  refine Ev.next ?_
  simp only [bits_Div64q.j2]
  rw [un, qd, rd]
  exact Ev.congr (fun k => by rw [if_neg (by omega)]) L1
 exact Dv_l0 K (s : Int) (c0 : Int) _ J (u / y1 - t) (u / y1) (u % y1) (by omega) S.2.1 S.2.2.1 S.2.2.2
theorem Div64_ev (a0 a1 a2 : Nat) (h1 : a1 < 18446744073709551616) (h2 : a0 < a2) (h3 : a2 < 18446744073709551616) :
  Ev (fun k => bits_Div64q.f k (a0 : Int) (a1 : Int) (a2 : Int)) (((a0 * 18446744073709551616 + a1) / a2 : Nat), ((a0 * 18446744073709551616 + a1) % a2 : Nat)) := by
 unfold bits_Div64q.f
 by_cases z : a0 = 0
 ·subst z
  rw [Nat.zero_mul, Nat.zero_add]
  have e1 : IntKind.u64.wrap (Int.tdiv (a1 : Int) (a2 : Int)) = ((a1 / a2 : Nat) : Int) := by
   rw [Int.ofNat_tdiv]; exact wnat (by have := Nat.div_le_self a1 a2; omega)
  have e2 : Int.tmod (a1 : Int) (a2 : Int) = ((a1 % a2 : Nat) : Int) := (Int.ofNat_tmod a1 a2).symm
  rw [e1, e2]
  exact Ev.congr (fun k => by rw [if_pos (by omega), if_neg (by omega)]) (Ev.now _)
 have bd := Lib.bitLenAux_bounds 64 a2 (by omega) (by omega)
 obtain ⟨L, hL⟩ : ∃ L, Lib.bitLenAux 64 a2 = L := ⟨_, rfl⟩
 rw [hL] at bd
 have hLZ : bits_LeadingZeros64.f (a2 : Int) = some (((64 - L : Nat)) : Int) := by
  unfold bits_LeadingZeros64.f
  rw [if_pos (by omega), Int.toNat_natCast]
  congr 1
  show (64 : Int) - (Lib.bitLenAux 64 a2 : Nat) = _
  rw [hL]
  have : L ≤ 64 := by
   by_cases g : L ≤ 64
   ·exact g
   ·have : 2 ^ 64 ≤ 2 ^ (L - 1) := pow_le (by omega)
    omega
  omega
 have hL64 : L ≤ 64 := by
  by_cases g : L ≤ 64
  ·exact g
  ·have : 2 ^ 64 ≤ 2 ^ (L - 1) := pow_le (by omega)
   omega
 obtain ⟨s, hs⟩ : ∃ s, 64 - L = s := ⟨_, rfl⟩
 rw [hs] at hLZ
 have ps := two_pos s
 have pL : 2 ^ L * 2 ^ s = 18446744073709551616 := by rw [← Nat.pow_add, show L + s = 64 by omega]
 have pL1 : 2 ^ (L - 1) * 2 ^ s = 9223372036854775808 := by rw [← Nat.pow_add, show L - 1 + s = 63 by omega]
 have hy1 : a2 * 2 ^ s < 18446744073709551616 := by rw [← pL]; exact Nat.mul_lt_mul_of_pos_right bd.2.2 ps
 have hy2 : 9223372036854775808 ≤ a2 * 2 ^ s := by rw [← pL1]; exact Nat.mul_le_mul_right _ bd.2.1
 have pS : 2 ^ (64 - s) * 2 ^ s = 18446744073709551616 := by rw [← Nat.pow_add, show 64 - s + s = 64 by omega]
 have hs63 : s ≤ 63 := by omega
 have lohi : a1 / 2 ^ (64 - s) < 2 ^ s := by rw [Nat.div_lt_iff_lt_mul (two_pos _), Nat.mul_comm, pS]; exact h1
 have hhi : (a0 + 1) * 2 ^ s ≤ a2 * 2 ^ s := Nat.mul_le_mul_right _ (by omega)
 rw [Nat.add_mul, Nat.one_mul] at hhi
 have ps63 : 2 ^ s ≤ 2 ^ 63 := pow_le hs63
 have w1 : IntKind.u64.wrap (s : Int) = (s : Int) := wu64 (by omega) (by omega)
 have w2 : IntKind.u64.wrap (64 - (s : Int)) = ((64 - s : Nat) : Int) := by rw [wu64 (by omega) (by omega)]; omega
 have e1 : shl .u64 (a2 : Int) (s : Int) = ((a2 * 2 ^ s : Nat) : Int) := by rw [shl_nat a2 s (by omega), Nat.mod_eq_of_lt hy1]
 have e2 : shl .u64 (a0 : Int) (s : Int) = ((a0 * 2 ^ s : Nat) : Int) := by rw [shl_nat a0 s (by omega), Nat.mod_eq_of_lt (by omega)]
 have e3 : shr .u64 (a1 : Int) ((64 - s : Nat) : Int) = ((a1 / 2 ^ (64 - s) : Nat) : Int) := shr_nat a1 (64 - s) (by omega)
 have e4 : shl .u64 (a1 : Int) (s : Int) = ((a1 * 2 ^ s % 18446744073709551616 : Nat) : Int) := shl_nat a1 s (by omega)
 have e5 : bits .or .u64 ((a0 * 2 ^ s : Nat) : Int) ((a1 / 2 ^ (64 - s) : Nat) : Int) = ((a0 * 2 ^ s + a1 / 2 ^ (64 - s) : Nat) : Int) :=
  or_join _ _ s (by omega) lohi (by simp) (by omega)
 have lowp : a1 * 2 ^ s = a1 / 2 ^ (64 - s) * 18446744073709551616 + a1 * 2 ^ s % 18446744073709551616 := by
  have : a1 * 2 ^ s / 18446744073709551616 = a1 / 2 ^ (64 - s) := by rw [← pS]; exact Nat.mul_div_mul_right _ _ ps
  rw [← this]; exact (Nat.div_add_mod' _ _).symm
 have D1 : (a0 * 18446744073709551616 + a1) / a2 = (a0 * 18446744073709551616 + a1) * 2 ^ s / (a2 * 2 ^ s) := (Nat.mul_div_mul_right _ _ ps).symm
 have D2 : (a0 * 18446744073709551616 + a1) % a2 = (a0 * 18446744073709551616 + a1) * 2 ^ s % (a2 * 2 ^ s) / 2 ^ s := by
  rw [Nat.mul_mod_mul_right, Nat.mul_div_cancel _ ps]
 rw [D1, D2]
 rw [Nat.add_mul, Nat.mul_right_comm]
 obtain ⟨A0, hA0⟩ : ∃ x, a0 * 2 ^ s = x := ⟨_, rfl⟩
 obtain ⟨H, hH⟩ : ∃ x, a1 / 2 ^ (64 - s) = x := ⟨_, rfl⟩
 obtain ⟨Y, hY⟩ : ∃ x, a2 * 2 ^ s = x := ⟨_, rfl⟩
 obtain ⟨A1, hA1⟩ : ∃ x, a1 * 2 ^ s = x := ⟨_, rfl⟩
 obtain ⟨M, hM⟩ : ∃ x, A1 % 18446744073709551616 = x := ⟨_, rfl⟩
 rw [hA0, hA1, hY]
 rw [hA1, hM, hH] at lowp
 rw [hA0] at hhi e2 e5
 rw [hH] at lohi e3 e5
 rw [hY] at hy1 hy2 hhi e1
 rw [hA1, hM] at e4
 have hM64 : M < 18446744073709551616 := by omega
 have tot : A0 * 18446744073709551616 + A1 = ((A0 + H) * 4294967296 + M / 4294967296) * 4294967296 + M % 4294967296 := by omega
 have m32 : bits .and .u64 (Y : Int) 4294967295 = ((Y % 4294967296 : Nat) : Int) := and_mask Y 32 hy1 (by decide)
 have m32' : bits .and .u64 (M : Int) 4294967295 = ((M % 4294967296 : Nat) : Int) := and_mask M 32 hM64 (by decide)
 have dY : (Y : Int) / 4294967296 = ((Y / 4294967296 : Nat) : Int) := by omega
 have dM : (M : Int) / 4294967296 = ((M / 4294967296 : Nat) : Int) := by omega
 obtain ⟨y1, hy⟩ : ∃ x, Y / 4294967296 = x := ⟨_, rfl⟩
 obtain ⟨u, hu⟩ : ∃ x, A0 + H = x := ⟨_, rfl⟩
 have hy1b : 2147483648 ≤ y1 := by omega
 have hu64 : u < Y := by omega
 have qd : IntKind.u64.wrap (Int.tdiv (u : Int) (y1 : Int)) = ((u / y1 : Nat) : Int) := by
  rw [Int.ofNat_tdiv]; exact wnat (by have := Nat.div_le_self u y1; omega)
 have rd : IntKind.u64.wrap ((u : Int) - IntKind.u64.wrap (((u / y1 : Nat) : Int) * (y1 : Int))) = ((u % y1 : Nat) : Int) := by
  rw [← Int.natCast_mul]
  have e := (Nat.div_add_mod' u y1).symm
  obtain ⟨p, hp⟩ : ∃ p, u / y1 * y1 = p := ⟨_, rfl⟩
  rw [hp] at e ⊢
  have := Nat.mod_lt u (show 0 < y1 by omega)
  simp only [IntKind.wrap_u64]; omega
 have F := Dv_f Y s u (M / 4294967296) (M % 4294967296) y1 (Y % 4294967296) (by omega) (by omega) hy1b (by omega) hu64 (by omega) (by omega) (by omega)
 rw [hu] at tot e5
 rw [hy] at dY
 rw [tot]
 refine Ev.congr (fun k => by rw [if_neg (by omega)]) ?_
 refine Ev.b _ (Ev.const hLZ) ?_
 rw [w1, w2, e1, e2, e3, e4, e5, m32, m32', dY, dM, qd, rd]
 exact Ev.congr (fun k => by rw [if_pos (by omega), if_pos (by omega), if_neg (by omega)]) F
theorem Dv64_ok (a0 a1 a2 : Int) (h : 0 ≤ a0 ∧ 0 ≤ a1 ∧ a1 < 18446744073709551616 ∧ a0 < a2 ∧ a2 < 18446744073709551616) :
  ∃ k, bits_Div64q.f k a0 a1 a2 = some ((a0 * 18446744073709551616 + a1) / a2, (a0 * 18446744073709551616 + a1) % a2) := by
 obtain ⟨h1, h2, h3, h4, h5⟩ := h
 obtain ⟨x, rfl⟩ := Int.eq_ofNat_of_zero_le h1
 obtain ⟨y, rfl⟩ := Int.eq_ofNat_of_zero_le h2
 obtain ⟨z, rfl⟩ := Int.eq_ofNat_of_zero_le (show 0 ≤ a2 by omega)
 obtain ⟨k, hk⟩ := Div64_ev x y z (by omega) (by omega) (by omega)
 refine ⟨k, (hk k (Nat.le_refl _)).trans ?_⟩
 rw [Int.natCast_ediv, Int.natCast_emod, Int.natCast_add, Int.natCast_mul]
 rfl
end Go.Proofs.Ytmadjhmecfbcmaa.M
end
section
namespace Go.Proofs.Ytmadjhmecfbcmaa.F
open Go.RowKit Go.Proofs.YtmadjhmecfbcmaaW.PrintWords Go.Proofs.YtmadjhmecfbcmaaW.PrintLast Go.Proofs.YtmadjhmecfbcmaaW.PrintMore
attribute [local go_sem] max2_int min2_int max_two min_two max_three min_three max_four min_four
set_option linter.unusedVariables false
set_option linter.unusedSimpArgs false
set_option maxHeartbeats 8000000
set_option maxRecDepth 100000
theorem bits_Div64q.walk (k : Nat) (a0 : Int) (a1 : Int) (a2 : Int) (r1 : Int) (r2 : Int) (w : World) (c00b0 : (a2 == 0) = false) (c01b0 : decide (a2 ≤ a0) = false) (h : bits_Div64q.f k a0 a1 a2 = some (r1, r2)) :
  Calls Try.prog 162 #[.int .u64 a0, .int .u64 a1, .int .u64 a2] w fun e w' => e = .returned (.tuple #[.int .u64 r1, .int .u64 r2]) ∧ Drawn0 w w' := by
 have H := h
 unfold bits_Div64q.f at H
 clear h
 by_cases c4 : a0 = 0
 ·rw [if_pos c4] at H
  have c4b0 : (a0 == 0) = true := beq_iff_eq.mpr c4
  have c4b1 : (a0 != 0) = false := bne_eq_false_iff_eq.mpr c4
  clear c4
  by_cases c5 : a2 = 0
  ·rw [if_pos c5] at H
   exact absurd H (by simp)
  rw [if_neg c5] at H
  have c5b0 : (a2 == 0) = false := beq_eq_false_iff_ne.mpr c5
  have c5b1 : (a2 != 0) = true := bne_iff_ne.mpr c5
  simp only [Option.some.injEq, Prod.mk.injEq] at H
  obtain ⟨rfl, rfl⟩ := H
  go_enter Try.func162, Try.ntmps162
  go_wp2
  repeat (go_quiet (fail); try go_wp2)
  go_ret2
  exact ⟨by first | rfl | (simp; done) | (simp [*]; done), by repeat (first | exact Drawn0.refl _ | apply Drawn0.step)⟩
 rw [if_neg c4] at H
 have c4b0 : (a0 == 0) = false := beq_eq_false_iff_ne.mpr c4
 have c4b1 : (a0 != 0) = true := bne_iff_ne.mpr c4
 obtain ⟨t256, A6, H⟩ := zbs H
 try dsimp only at H
 obtain ⟨ji7, hji7⟩ : ∃ j_ : Int, (IntKind.u64.wrap (t256)) = j_ := ⟨_, rfl⟩
 replace H : (if 0 ≤ (ji7) then (if 0 ≤ (IntKind.u64.wrap (64 - (ji7))) then (if ((shl .u64 a2 (ji7)) / 4294967296) = 0 then (none) else (bits_Div64q.l0 k (shl .u64 a2 (ji7)) ji7 ((shl .u64 a2 (ji7)) / 4294967296) (Go.bits .and .u64 (shl .u64 a2 (ji7)) 4294967295) (Go.bits .or .u64 (shl .u64 a0 (ji7)) (shr .u64 a1 (IntKind.u64.wrap (64 - (ji7))))) ((shl .u64 a1 (ji7)) / 4294967296) (Go.bits .and .u64 (shl .u64 a1 (ji7)) 4294967295) (IntKind.u64.wrap (Int.tdiv (Go.bits .or .u64 (shl .u64 a0 (ji7)) (shr .u64 a1 (IntKind.u64.wrap (64 - (ji7))))) ((shl .u64 a2 (ji7)) / 4294967296))) (IntKind.u64.wrap ((Go.bits .or .u64 (shl .u64 a0 (ji7)) (shr .u64 a1 (IntKind.u64.wrap (64 - (ji7))))) - (IntKind.u64.wrap ((IntKind.u64.wrap (Int.tdiv (Go.bits .or .u64 (shl .u64 a0 (ji7)) (shr .u64 a1 (IntKind.u64.wrap (64 - (ji7))))) ((shl .u64 a2 (ji7)) / 4294967296))) * ((shl .u64 a2 (ji7)) / 4294967296))))))) else (none)) else (none)) = some (r1, r2) := by first | (rw [hji7] at H; exact H) | (simp only [hji7] at H ⊢; exact H)
 (try rw [hji7] at A6)
 by_cases c8 : 0 ≤ (ji7)
 ·rw [if_pos c8] at H
  have c8b0 := eq_true c8
  have c8b1 : decide (0 ≤ (ji7)) = true := decide_eq_true c8
  clear c8
  obtain ⟨ji9, hji9⟩ : ∃ j_ : Int, (shl .u64 a2 (ji7)) = j_ := ⟨_, rfl⟩
  replace H : (if 0 ≤ (IntKind.u64.wrap (64 - (ji7))) then (if ((ji9) / 4294967296) = 0 then (none) else (bits_Div64q.l0 k ji9 ji7 ((ji9) / 4294967296) (Go.bits .and .u64 (ji9) 4294967295) (Go.bits .or .u64 (shl .u64 a0 (ji7)) (shr .u64 a1 (IntKind.u64.wrap (64 - (ji7))))) ((shl .u64 a1 (ji7)) / 4294967296) (Go.bits .and .u64 (shl .u64 a1 (ji7)) 4294967295) (IntKind.u64.wrap (Int.tdiv (Go.bits .or .u64 (shl .u64 a0 (ji7)) (shr .u64 a1 (IntKind.u64.wrap (64 - (ji7))))) ((ji9) / 4294967296))) (IntKind.u64.wrap ((Go.bits .or .u64 (shl .u64 a0 (ji7)) (shr .u64 a1 (IntKind.u64.wrap (64 - (ji7))))) - (IntKind.u64.wrap ((IntKind.u64.wrap (Int.tdiv (Go.bits .or .u64 (shl .u64 a0 (ji7)) (shr .u64 a1 (IntKind.u64.wrap (64 - (ji7))))) ((ji9) / 4294967296))) * ((ji9) / 4294967296))))))) else (none)) = some (r1, r2) := by first | (rw [hji9] at H; exact H) | (simp only [hji9] at H ⊢; exact H)
  (try rw [hji9] at A6)
  have hji9_ : (IntKind.u64.wrap (a2 * 2 ^ min (ji7).toNat 64)) = ji9 := hji9
  have hji9z : (ji7) ≤ 64 → (IntKind.u64.wrap (a2 * 2 ^ (ji7).toNat)) = ji9 := shl_small hji9
  have c10b0 := eq_true (of_decide_eq_true (by first | (with_reducible assumption) | assumption) : 0 ≤ (ji7))
  obtain ⟨ji11, hji11⟩ : ∃ j_ : Int, (shl .u64 a0 (ji7)) = j_ := ⟨_, rfl⟩
  replace H : (if 0 ≤ (IntKind.u64.wrap (64 - (ji7))) then (if ((ji9) / 4294967296) = 0 then (none) else (bits_Div64q.l0 k ji9 ji7 ((ji9) / 4294967296) (Go.bits .and .u64 (ji9) 4294967295) (Go.bits .or .u64 (ji11) (shr .u64 a1 (IntKind.u64.wrap (64 - (ji7))))) ((shl .u64 a1 (ji7)) / 4294967296) (Go.bits .and .u64 (shl .u64 a1 (ji7)) 4294967295) (IntKind.u64.wrap (Int.tdiv (Go.bits .or .u64 (ji11) (shr .u64 a1 (IntKind.u64.wrap (64 - (ji7))))) ((ji9) / 4294967296))) (IntKind.u64.wrap ((Go.bits .or .u64 (ji11) (shr .u64 a1 (IntKind.u64.wrap (64 - (ji7))))) - (IntKind.u64.wrap ((IntKind.u64.wrap (Int.tdiv (Go.bits .or .u64 (ji11) (shr .u64 a1 (IntKind.u64.wrap (64 - (ji7))))) ((ji9) / 4294967296))) * ((ji9) / 4294967296))))))) else (none)) = some (r1, r2) := by first | (rw [hji11] at H; exact H) | (simp only [hji11] at H ⊢; exact H)
  (try rw [hji11] at A6)
  have hji11_ : (IntKind.u64.wrap (a0 * 2 ^ min (ji7).toNat 64)) = ji11 := hji11
  have hji11z : (ji7) ≤ 64 → (IntKind.u64.wrap (a0 * 2 ^ (ji7).toNat)) = ji11 := shl_small hji11
  obtain ⟨ji12, hji12⟩ : ∃ j_ : Int, (IntKind.u64.wrap (64 - (ji7))) = j_ := ⟨_, rfl⟩
  replace H : (if 0 ≤ (ji12) then (if ((ji9) / 4294967296) = 0 then (none) else (bits_Div64q.l0 k ji9 ji7 ((ji9) / 4294967296) (Go.bits .and .u64 (ji9) 4294967295) (Go.bits .or .u64 (ji11) (shr .u64 a1 (ji12))) ((shl .u64 a1 (ji7)) / 4294967296) (Go.bits .and .u64 (shl .u64 a1 (ji7)) 4294967295) (IntKind.u64.wrap (Int.tdiv (Go.bits .or .u64 (ji11) (shr .u64 a1 (ji12))) ((ji9) / 4294967296))) (IntKind.u64.wrap ((Go.bits .or .u64 (ji11) (shr .u64 a1 (ji12))) - (IntKind.u64.wrap ((IntKind.u64.wrap (Int.tdiv (Go.bits .or .u64 (ji11) (shr .u64 a1 (ji12))) ((ji9) / 4294967296))) * ((ji9) / 4294967296))))))) else (none)) = some (r1, r2) := by first | (rw [hji12] at H; exact H) | (simp only [hji12] at H ⊢; exact H)
  (try rw [hji12] at A6)
  by_cases c13 : 0 ≤ (ji12)
  ·rw [if_pos c13] at H
   have c13b0 := eq_true c13
   have c13b1 : decide (0 ≤ (ji12)) = true := decide_eq_true c13
   clear c13
   obtain ⟨ji14, hji14⟩ : ∃ j_ : Int, (shr .u64 a1 (ji12)) = j_ := ⟨_, rfl⟩
   replace H : (if ((ji9) / 4294967296) = 0 then (none) else (bits_Div64q.l0 k ji9 ji7 ((ji9) / 4294967296) (Go.bits .and .u64 (ji9) 4294967295) (Go.bits .or .u64 (ji11) (ji14)) ((shl .u64 a1 (ji7)) / 4294967296) (Go.bits .and .u64 (shl .u64 a1 (ji7)) 4294967295) (IntKind.u64.wrap (Int.tdiv (Go.bits .or .u64 (ji11) (ji14)) ((ji9) / 4294967296))) (IntKind.u64.wrap ((Go.bits .or .u64 (ji11) (ji14)) - (IntKind.u64.wrap ((IntKind.u64.wrap (Int.tdiv (Go.bits .or .u64 (ji11) (ji14)) ((ji9) / 4294967296))) * ((ji9) / 4294967296))))))) = some (r1, r2) := by first | (rw [hji14] at H; exact H) | (simp only [hji14] at H ⊢; exact H)
   (try rw [hji14] at A6)
   have hji14_ : (a1 / 2 ^ min (ji12).toNat 64) = ji14 := hji14
   have hji14z : (ji12) ≤ 64 → (a1 / 2 ^ (ji12).toNat) = ji14 := shr_small hji14
   have c15b0 := eq_true (of_decide_eq_true (by first | (with_reducible assumption) | assumption) : 0 ≤ (ji7))
   obtain ⟨ji16, hji16⟩ : ∃ j_ : Int, (shl .u64 a1 (ji7)) = j_ := ⟨_, rfl⟩
   replace H : (if ((ji9) / 4294967296) = 0 then (none) else (bits_Div64q.l0 k ji9 ji7 ((ji9) / 4294967296) (Go.bits .and .u64 (ji9) 4294967295) (Go.bits .or .u64 (ji11) (ji14)) ((ji16) / 4294967296) (Go.bits .and .u64 (ji16) 4294967295) (IntKind.u64.wrap (Int.tdiv (Go.bits .or .u64 (ji11) (ji14)) ((ji9) / 4294967296))) (IntKind.u64.wrap ((Go.bits .or .u64 (ji11) (ji14)) - (IntKind.u64.wrap ((IntKind.u64.wrap (Int.tdiv (Go.bits .or .u64 (ji11) (ji14)) ((ji9) / 4294967296))) * ((ji9) / 4294967296))))))) = some (r1, r2) := by first | (rw [hji16] at H; exact H) | (simp only [hji16] at H ⊢; exact H)
   (try rw [hji16] at A6)
   have hji16_ : (IntKind.u64.wrap (a1 * 2 ^ min (ji7).toNat 64)) = ji16 := hji16
   have hji16z : (ji7) ≤ 64 → (IntKind.u64.wrap (a1 * 2 ^ (ji7).toNat)) = ji16 := shl_small hji16
   by_cases c17 : ((ji9) / 4294967296) = 0
   ·rw [if_pos c17] at H
    exact absurd H (by simp)
   rw [if_neg c17] at H
   have c17b0 : (((ji9) / 4294967296) == 0) = false := beq_eq_false_iff_ne.mpr c17
   have c17b1 : (((ji9) / 4294967296) != 0) = true := bne_iff_ne.mpr c17
   have HC18 := Aside0.mk H
   clear H
   go_enter Try.func162, Try.ntmps162
   go_upto_block 0 with (first | (go_at_call 186; (with_reducible refine (bits_LeadingZeros64.calls a2 t256 _ A6.out).mono ?_); rintro e w' ⟨rfl, ⟨nd, rfl⟩⟩; (try first | exact ⟨rfl, _, World.drewN_drewN _ _ _⟩ | exact ⟨rfl, _, Eq.trans (World.drewN_drewN _ _ _) (congrArg (World.drewN _) (Nat.add_assoc _ _ _))⟩)))
   repeat (go_quiet (first | (go_at_call 186; (with_reducible refine (bits_LeadingZeros64.calls a2 t256 _ A6.out).mono ?_); rintro e w' ⟨rfl, ⟨nd, rfl⟩⟩; (try first | exact ⟨rfl, _, World.drewN_drewN _ _ _⟩ | exact ⟨rfl, _, Eq.trans (World.drewN_drewN _ _ _) (congrArg (World.drewN _) (Nat.add_assoc _ _ _))⟩))); go_upto_block 0 with (first | (go_at_call 186; (with_reducible refine (bits_LeadingZeros64.calls a2 t256 _ A6.out).mono ?_); rintro e w' ⟨rfl, ⟨nd, rfl⟩⟩; (try first | exact ⟨rfl, _, World.drewN_drewN _ _ _⟩ | exact ⟨rfl, _, Eq.trans (World.drewN_drewN _ _ _) (congrArg (World.drewN _) (Nat.add_assoc _ _ _))⟩))))
   (try simp only [Act.put, List.setIfInBounds_toArray, List.set_cons_zero, List.set_cons_succ])
   go_cut [15] (fun v15 wc => ∃ (kq : Nat) (x15_17 : Int), v15 = .int .u64 x15_17 ∧ Aside0 (bits_Div64q.j2 kq ji9 ji7 ((ji9) / 4294967296) (Go.bits .and .u64 (ji9) 4294967295) (Go.bits .or .u64 (ji11) (ji14)) ((ji16) / 4294967296) (Go.bits .and .u64 (ji16) 4294967295) x15_17 = some (r1, r2)) ∧ Aside0 (kq ≤ k) ∧ Drawn0 w wc)
   case first =>
    have H := HC18.out
    clear HC18
    have H' := Aside0.mk H
    clear H
    go_wp2
    repeat (go_quiet (fail); try go_wp2)
    (try simp only [Act.put, List.setIfInBounds_toArray, List.set_cons_zero, List.set_cons_succ])
    go_loopg [15, 16] k (fun kq v15 v16 w' => ∃ (x15_1 : Int) (x16_1 : Int), v15 = .int .u64 x15_1 ∧ v16 = .int .u64 x16_1 ∧ Aside0 (bits_Div64q.l0 kq ji9 ji7 ((ji9) / 4294967296) (Go.bits .and .u64 (ji9) 4294967295) (Go.bits .or .u64 (ji11) (ji14)) ((ji16) / 4294967296) (Go.bits .and .u64 (ji16) 4294967295) x15_1 x16_1 = some (r1, r2)) ∧ Aside0 (kq ≤ k) ∧ Drawn0 w w')
    case atStart => exact ⟨(IntKind.u64.wrap (Int.tdiv (Go.bits .or .u64 (ji11) (ji14)) ((ji9) / 4294967296))), (IntKind.u64.wrap ((Go.bits .or .u64 (ji11) (ji14)) - (IntKind.u64.wrap ((IntKind.u64.wrap (Int.tdiv (Go.bits .or .u64 (ji11) (ji14)) ((ji9) / 4294967296))) * ((ji9) / 4294967296))))), (by first | rfl | (simp; done) | (simp only [← hji9, ← hji11, ← hji14] <;> (first | rfl | simp)) | (simp [*]; done)), (by first | rfl | (simp; done) | (simp only [← hji9, ← hji11, ← hji14] <;> (first | rfl | simp)) | (simp [*]; done)), H', ⟨Nat.le_refl _⟩, by repeat (first | exact Drawn0.refl _ | apply Drawn0.step)⟩
    case round =>
     clear H'
     try clear c4b0
     try clear c4b1
     try clear c5b0
     try clear c5b1
     try clear c8b0
     try clear c8b1
     try clear c10b0
     try clear c13b0
     try clear c13b1
     try clear c15b0
     try clear c17b0
     try clear c17b1
     obtain ⟨x15_1, x16_1, rfl, rfl, HA, HK1, ⟨m1, rfl⟩⟩ := hrel
     cases gk with
     | zero => exact absurd HA.out (by simp [bits_Div64q.l0])
     | succ k1 =>
      have H := HA.out
      clear HA
      simp only [bits_Div64q.l0] at H
      have HC19 := Aside0.mk H
      clear H
      go_upto_region 17 with (fail)
      repeat (go_quiet (fail); go_upto_region 17 with (fail))
      go_cut [78] (fun v78 wc => ∃ (kq : Nat) (x78_18 : Bool), v78 = .bool x78_18 ∧ Aside0 (bits_Div64q.j1 kq ji9 ji7 ((ji9) / 4294967296) (Go.bits .and .u64 (ji9) 4294967295) (Go.bits .or .u64 (ji11) (ji14)) ((ji16) / 4294967296) (Go.bits .and .u64 (ji16) 4294967295) x15_1 x16_1 x78_18 = some (r1, r2)) ∧ Aside0 (kq ≤ k1) ∧ Drawn0 w wc)
      case first =>
       have H := HC19.out
       clear HC19
       by_cases c20 : x15_1 ≥ 4294967296
       ·rw [if_pos c20] at H
        have c20b0 : decide (4294967296 ≤ x15_1) = true := decide_eq_true c20
        clear c20
        (first | rw [c20b0] | (simp only [i64_w, i32_w]; rw [c20b0]) | skip)
        have H' := Aside0.mk H
        clear H
        go_wp2
        repeat (go_quiet (fail); try go_wp2)
        go_meet
        case rel => exact ⟨_, (true), zrl, H', ⟨by have := HK1.out; first | omega | exact Nat.le_refl _⟩, by repeat (first | exact Drawn0.refl _ | apply Drawn0.step)⟩
       rw [if_neg c20] at H
       have c20b0 : decide (4294967296 ≤ x15_1) = false := decide_eq_false c20
       clear c20
       (first | rw [c20b0] | (simp only [i64_w, i32_w]; rw [c20b0]) | skip)
       have H' := Aside0.mk H
       clear H
       go_wp2
       repeat (go_quiet (fail); try go_wp2)
       go_meet
       case rel => exact ⟨_, (decide ((IntKind.u64.wrap (x15_1 * (Go.bits .and .u64 (ji9) 4294967295))) > (IntKind.u64.wrap ((IntKind.u64.wrap (4294967296 * x16_1)) + ((ji16) / 4294967296))))), (by first | rfl | (simp; done) | (simp only [← hji9, ← hji16] <;> (first | rfl | simp)) | (simp [*]; done)), H', ⟨by have := HK1.out; first | omega | exact Nat.le_refl _⟩, by repeat (first | exact Drawn0.refl _ | apply Drawn0.step)⟩
      case rest =>
       clear HC19
       try clear c4b0
       try clear c4b1
       try clear c5b0
       try clear c5b1
       try clear c8b0
       try clear c8b1
       try clear c10b0
       try clear c13b0
       try clear c13b1
       try clear c15b0
       try clear c17b0
       try clear c17b1
       try clear c20b0
       obtain ⟨kq, x78_18, rfl, HA, HJ18, ⟨mc18, rfl⟩⟩ := hcut
       cases kq with
       | zero => exact absurd HA.out (by simp [bits_Div64q.j1])
       | succ kj18 =>
        have H := HA.out
        clear HA
        simp only [bits_Div64q.j1] at H
        by_cases c21 : x78_18 = true
        ·subst c21
         replace H := zit H
         by_cases c22 : (IntKind.u64.wrap (x16_1 + ((ji9) / 4294967296))) ≥ 4294967296
         ·rw [if_pos c22] at H
          have c22b0 : decide (4294967296 ≤ (IntKind.u64.wrap (x16_1 + ((ji9) / 4294967296)))) = true := decide_eq_true c22
          clear c22
          have H' := Aside0.mk H
          clear H
          go_wp2
          repeat (go_quiet (fail); try go_wp2)
          go_meet
          case rel => exact ⟨_, (IntKind.u64.wrap (x15_1 - 1)), zrl, H', ⟨by have := HK1.out; have := HJ18.out; first | omega | exact Nat.le_refl _⟩, by repeat (first | exact Drawn0.refl _ | apply Drawn0.step)⟩
         rw [if_neg c22] at H
         have c22b0 : decide (4294967296 ≤ (IntKind.u64.wrap (x16_1 + ((ji9) / 4294967296)))) = false := decide_eq_false c22
         clear c22
         have H' := Aside0.mk H
         clear H
         go_wp2
         repeat (go_quiet (fail); try go_wp2)
         go_roundg kj18
         case measure => have := HK1.out; have := HJ18.out; omega
         case rel => exact ⟨(IntKind.u64.wrap (x15_1 - 1)), (IntKind.u64.wrap (x16_1 + ((ji9) / 4294967296))), zrl, (by first | rfl | (simp; done) | (simp only [← hji9] <;> (first | rfl | simp)) | (simp [*]; done)), H', ⟨by have := HK1.out; have := HJ18.out; omega⟩, by repeat (first | exact Drawn0.refl _ | apply Drawn0.step)⟩
        replace c21 := Bool.eq_false_iff.mpr c21
        subst c21
        replace H := zif H
        have H' := Aside0.mk H
        clear H
        go_wp2
        repeat (go_quiet (fail); try go_wp2)
        go_meet
        case rel => exact ⟨_, (x15_1), zrl, H', ⟨by have := HK1.out; have := HJ18.out; first | omega | exact Nat.le_refl _⟩, by repeat (first | exact Drawn0.refl _ | apply Drawn0.step)⟩
   case rest =>
    clear HC18
    try clear c4b0
    try clear c4b1
    try clear c5b0
    try clear c5b1
    try clear c8b0
    try clear c8b1
    try clear c10b0
    try clear c13b0
    try clear c13b1
    try clear c15b0
    try clear c17b0
    try clear c17b1
    try clear c20b0
    try clear c22b0
    obtain ⟨kq, x15_17, rfl, HA, HJ17, ⟨mc17, rfl⟩⟩ := hcut
    cases kq with
    | zero => exact absurd HA.out (by simp [bits_Div64q.j2])
    | succ kj17 =>
     have H := HA.out
     clear HA
     simp only [bits_Div64q.j2] at H
     by_cases c23 : ((ji9) / 4294967296) = 0
     ·rw [if_pos c23] at H
      exact absurd H (by simp)
     rw [if_neg c23] at H
     have c23b0 : (((ji9) / 4294967296) == 0) = false := beq_eq_false_iff_ne.mpr c23
     have c23b1 : (((ji9) / 4294967296) != 0) = true := bne_iff_ne.mpr c23
     have H' := Aside0.mk H
     clear H
     go_wp2
     repeat (go_quiet (fail); try go_wp2)
     (try simp only [Act.put, List.setIfInBounds_toArray, List.set_cons_zero, List.set_cons_succ])
     go_loopg [16, 18] kj17 (fun kq v16 v18 w' => ∃ (x16_2 : Int) (x18_2 : Int), v16 = .int .u64 x16_2 ∧ v18 = .int .u64 x18_2 ∧ Aside0 (bits_Div64q.l1 kq ji9 ji7 ((ji9) / 4294967296) (Go.bits .and .u64 (ji9) 4294967295) (Go.bits .and .u64 (ji16) 4294967295) x15_17 x16_2 (IntKind.u64.wrap ((IntKind.u64.wrap ((IntKind.u64.wrap ((Go.bits .or .u64 (ji11) (ji14)) * 4294967296)) + ((ji16) / 4294967296))) - (IntKind.u64.wrap (x15_17 * ji9)))) x18_2 = some (r1, r2)) ∧ Aside0 (kq ≤ kj17) ∧ Drawn0 w w')
     case atStart => exact ⟨(IntKind.u64.wrap ((IntKind.u64.wrap ((IntKind.u64.wrap ((IntKind.u64.wrap ((Go.bits .or .u64 (ji11) (ji14)) * 4294967296)) + ((ji16) / 4294967296))) - (IntKind.u64.wrap (x15_17 * ji9)))) - (IntKind.u64.wrap ((IntKind.u64.wrap (Int.tdiv (IntKind.u64.wrap ((IntKind.u64.wrap ((IntKind.u64.wrap ((Go.bits .or .u64 (ji11) (ji14)) * 4294967296)) + ((ji16) / 4294967296))) - (IntKind.u64.wrap (x15_17 * ji9)))) ((ji9) / 4294967296))) * ((ji9) / 4294967296))))), (IntKind.u64.wrap (Int.tdiv (IntKind.u64.wrap ((IntKind.u64.wrap ((IntKind.u64.wrap ((Go.bits .or .u64 (ji11) (ji14)) * 4294967296)) + ((ji16) / 4294967296))) - (IntKind.u64.wrap (x15_17 * ji9)))) ((ji9) / 4294967296))), (by first | rfl | (simp; done) | (simp only [← hji9, ← hji11, ← hji14, ← hji16] <;> (first | rfl | simp)) | (simp [*]; done)), (by first | rfl | (simp; done) | (simp only [← hji9, ← hji11, ← hji14, ← hji16] <;> (first | rfl | simp)) | (simp [*]; done)), H', ⟨Nat.le_refl _⟩, by repeat (first | exact Drawn0.refl _ | apply Drawn0.step)⟩
     case round =>
      clear H'
      try clear c4b0
      try clear c4b1
      try clear c5b0
      try clear c5b1
      try clear c8b0
      try clear c8b1
      try clear c10b0
      try clear c13b0
      try clear c13b1
      try clear c15b0
      try clear c17b0
      try clear c17b1
      try clear c20b0
      try clear c22b0
      try clear c23b0
      try clear c23b1
      obtain ⟨x16_2, x18_2, rfl, rfl, HA, HK2, ⟨m2, rfl⟩⟩ := hrel
      cases gk with
      | zero => exact absurd HA.out (by simp [bits_Div64q.l1])
      | succ k2 =>
       have H := HA.out
       clear HA
       simp only [bits_Div64q.l1] at H
       have HC24 := Aside0.mk H
       clear H
       go_upto_region 24 with (fail)
       repeat (go_quiet (fail); go_upto_region 24 with (fail))
       go_cut [113] (fun v113 wc => ∃ (kq : Nat) (x113_23 : Bool), v113 = .bool x113_23 ∧ Aside0 (bits_Div64q.j4 kq ji9 ji7 ((ji9) / 4294967296) (Go.bits .and .u64 (ji9) 4294967295) (Go.bits .and .u64 (ji16) 4294967295) x15_17 x16_2 (IntKind.u64.wrap ((IntKind.u64.wrap ((IntKind.u64.wrap ((Go.bits .or .u64 (ji11) (ji14)) * 4294967296)) + ((ji16) / 4294967296))) - (IntKind.u64.wrap (x15_17 * ji9)))) x18_2 x113_23 = some (r1, r2)) ∧ Aside0 (kq ≤ k2) ∧ Drawn0 w wc)
       case first =>
        have H := HC24.out
        clear HC24
        by_cases c25 : x18_2 ≥ 4294967296
        ·rw [if_pos c25] at H
         have c25b0 : decide (4294967296 ≤ x18_2) = true := decide_eq_true c25
         clear c25
         (first | rw [c25b0] | (simp only [i64_w, i32_w]; rw [c25b0]) | skip)
         have H' := Aside0.mk H
         clear H
         go_wp2
         repeat (go_quiet (fail); try go_wp2)
         go_meet
         case rel => exact ⟨_, (true), zrl, H', ⟨by have := HJ17.out; have := HK2.out; first | omega | exact Nat.le_refl _⟩, by repeat (first | exact Drawn0.refl _ | apply Drawn0.step)⟩
        rw [if_neg c25] at H
        have c25b0 : decide (4294967296 ≤ x18_2) = false := decide_eq_false c25
        clear c25
        (first | rw [c25b0] | (simp only [i64_w, i32_w]; rw [c25b0]) | skip)
        have H' := Aside0.mk H
        clear H
        go_wp2
        repeat (go_quiet (fail); try go_wp2)
        go_meet
        case rel => exact ⟨_, (decide ((IntKind.u64.wrap (x18_2 * (Go.bits .and .u64 (ji9) 4294967295))) > (IntKind.u64.wrap ((IntKind.u64.wrap (4294967296 * x16_2)) + (Go.bits .and .u64 (ji16) 4294967295))))), (by first | rfl | (simp; done) | (simp only [← hji9, ← hji16] <;> (first | rfl | simp)) | (simp [*]; done)), H', ⟨by have := HJ17.out; have := HK2.out; first | omega | exact Nat.le_refl _⟩, by repeat (first | exact Drawn0.refl _ | apply Drawn0.step)⟩
       case rest =>
        clear HC24
        try clear c4b0
        try clear c4b1
        try clear c5b0
        try clear c5b1
        try clear c8b0
        try clear c8b1
        try clear c10b0
        try clear c13b0
        try clear c13b1
        try clear c15b0
        try clear c17b0
        try clear c17b1
        try clear c20b0
        try clear c22b0
        try clear c23b0
        try clear c23b1
        try clear c25b0
        obtain ⟨kq, x113_23, rfl, HA, HJ23, ⟨mc23, rfl⟩⟩ := hcut
        cases kq with
        | zero => exact absurd HA.out (by simp [bits_Div64q.j4])
        | succ kj23 =>
         have H := HA.out
         clear HA
         simp only [bits_Div64q.j4] at H
         by_cases c26 : x113_23 = true
         ·subst c26
          replace H := zit H
          by_cases c27 : (IntKind.u64.wrap (x16_2 + ((ji9) / 4294967296))) ≥ 4294967296
          ·rw [if_pos c27] at H
           have c27b0 : decide (4294967296 ≤ (IntKind.u64.wrap (x16_2 + ((ji9) / 4294967296)))) = true := decide_eq_true c27
           clear c27
           by_cases c28 : 0 ≤ ji7
           ·rw [if_pos c28] at H
            have c28b0 := eq_true c28
            have c28b1 : decide (0 ≤ ji7) = true := decide_eq_true c28
            clear c28
            obtain ⟨ji29, hji29⟩ : ∃ j_ : Int, (shr .u64 (IntKind.u64.wrap ((IntKind.u64.wrap ((IntKind.u64.wrap ((IntKind.u64.wrap ((IntKind.u64.wrap ((IntKind.u64.wrap ((Go.bits .or .u64 (ji11) (ji14)) * 4294967296)) + ((ji16) / 4294967296))) - (IntKind.u64.wrap (x15_17 * ji9)))) * 4294967296)) + (Go.bits .and .u64 (ji16) 4294967295))) - (IntKind.u64.wrap ((IntKind.u64.wrap (x18_2 - 1)) * ji9)))) ji7) = j_ := ⟨_, rfl⟩
            replace H : (some (IntKind.u64.wrap ((IntKind.u64.wrap (x15_17 * 4294967296)) + (IntKind.u64.wrap (x18_2 - 1))), ji29)) = some (r1, r2) := by first | (rw [hji29] at H; exact H) | (simp only [hji29] at H ⊢; exact H)
            have hji29_ : ((IntKind.u64.wrap ((IntKind.u64.wrap ((IntKind.u64.wrap ((IntKind.u64.wrap ((IntKind.u64.wrap ((IntKind.u64.wrap ((Go.bits .or .u64 (ji11) (ji14)) * 4294967296)) + ((ji16) / 4294967296))) - (IntKind.u64.wrap (x15_17 * ji9)))) * 4294967296)) + (Go.bits .and .u64 (ji16) 4294967295))) - (IntKind.u64.wrap ((IntKind.u64.wrap (x18_2 - 1)) * ji9)))) / 2 ^ min ji7.toNat 64) = ji29 := hji29
            have hji29z : ji7 ≤ 64 → ((IntKind.u64.wrap ((IntKind.u64.wrap ((IntKind.u64.wrap ((IntKind.u64.wrap ((IntKind.u64.wrap ((IntKind.u64.wrap ((Go.bits .or .u64 (ji11) (ji14)) * 4294967296)) + ((ji16) / 4294967296))) - (IntKind.u64.wrap (x15_17 * ji9)))) * 4294967296)) + (Go.bits .and .u64 (ji16) 4294967295))) - (IntKind.u64.wrap ((IntKind.u64.wrap (x18_2 - 1)) * ji9)))) / 2 ^ ji7.toNat) = ji29 := shr_small hji29
            simp only [Option.some.injEq, Prod.mk.injEq] at H
            obtain ⟨rfl, rfl⟩ := H
            go_wp2
            repeat (go_quiet (fail); try go_wp2)
            go_ret2
            exact ⟨by first | rfl | (simp; done) | (simp only [← hji7, ← hji9, ← hji11, ← hji12, ← hji14, ← hji16, ← hji29] <;> (first | rfl | simp)) | (simp [*]; done), by repeat (first | exact Drawn0.refl _ | apply Drawn0.step)⟩
           rw [if_neg c28] at H
           exact absurd H (by simp)
          rw [if_neg c27] at H
          have c27b0 : decide (4294967296 ≤ (IntKind.u64.wrap (x16_2 + ((ji9) / 4294967296)))) = false := decide_eq_false c27
          clear c27
          have H' := Aside0.mk H
          clear H
          go_wp2
          repeat (go_quiet (fail); try go_wp2)
          go_roundg kj23
          case measure => have := HJ17.out; have := HK2.out; have := HJ23.out; omega
          case rel => exact ⟨(IntKind.u64.wrap (x16_2 + ((ji9) / 4294967296))), (IntKind.u64.wrap (x18_2 - 1)), (by first | rfl | (simp; done) | (simp only [← hji9] <;> (first | rfl | simp)) | (simp [*]; done)), zrl, H', ⟨by have := HJ17.out; have := HK2.out; have := HJ23.out; omega⟩, by repeat (first | exact Drawn0.refl _ | apply Drawn0.step)⟩
         replace c26 := Bool.eq_false_iff.mpr c26
         subst c26
         replace H := zif H
         by_cases c30 : 0 ≤ ji7
         ·rw [if_pos c30] at H
          have c30b0 := eq_true c30
          have c30b1 : decide (0 ≤ ji7) = true := decide_eq_true c30
          clear c30
          obtain ⟨ji31, hji31⟩ : ∃ j_ : Int, (shr .u64 (IntKind.u64.wrap ((IntKind.u64.wrap ((IntKind.u64.wrap ((IntKind.u64.wrap ((IntKind.u64.wrap ((IntKind.u64.wrap ((Go.bits .or .u64 (ji11) (ji14)) * 4294967296)) + ((ji16) / 4294967296))) - (IntKind.u64.wrap (x15_17 * ji9)))) * 4294967296)) + (Go.bits .and .u64 (ji16) 4294967295))) - (IntKind.u64.wrap (x18_2 * ji9)))) ji7) = j_ := ⟨_, rfl⟩
          replace H : (some (IntKind.u64.wrap ((IntKind.u64.wrap (x15_17 * 4294967296)) + x18_2), ji31)) = some (r1, r2) := by first | (rw [hji31] at H; exact H) | (simp only [hji31] at H ⊢; exact H)
          have hji31_ : ((IntKind.u64.wrap ((IntKind.u64.wrap ((IntKind.u64.wrap ((IntKind.u64.wrap ((IntKind.u64.wrap ((IntKind.u64.wrap ((Go.bits .or .u64 (ji11) (ji14)) * 4294967296)) + ((ji16) / 4294967296))) - (IntKind.u64.wrap (x15_17 * ji9)))) * 4294967296)) + (Go.bits .and .u64 (ji16) 4294967295))) - (IntKind.u64.wrap (x18_2 * ji9)))) / 2 ^ min ji7.toNat 64) = ji31 := hji31
          have hji31z : ji7 ≤ 64 → ((IntKind.u64.wrap ((IntKind.u64.wrap ((IntKind.u64.wrap ((IntKind.u64.wrap ((IntKind.u64.wrap ((IntKind.u64.wrap ((Go.bits .or .u64 (ji11) (ji14)) * 4294967296)) + ((ji16) / 4294967296))) - (IntKind.u64.wrap (x15_17 * ji9)))) * 4294967296)) + (Go.bits .and .u64 (ji16) 4294967295))) - (IntKind.u64.wrap (x18_2 * ji9)))) / 2 ^ ji7.toNat) = ji31 := shr_small hji31
          simp only [Option.some.injEq, Prod.mk.injEq] at H
          obtain ⟨rfl, rfl⟩ := H
          go_wp2
          repeat (go_quiet (fail); try go_wp2)
          go_ret2
          exact ⟨by first | rfl | (simp; done) | (simp only [← hji7, ← hji9, ← hji11, ← hji12, ← hji14, ← hji16, ← hji31] <;> (first | rfl | simp)) | (simp [*]; done), by repeat (first | exact Drawn0.refl _ | apply Drawn0.step)⟩
         rw [if_neg c30] at H
         exact absurd H (by simp)
  rw [if_neg c13] at H
  exact absurd H (by simp)
 rw [if_neg c8] at H
 exact absurd H (by simp)
theorem bits_Div64.calls (a0 : Int) (a1 : Int) (a2 : Int) (r1 : Int) (r2 : Int) (w : World) (h : bits_Div64.f a0 a1 a2 = some (r1, r2)) :
  Calls Try.prog 162 #[.int .u64 a0, .int .u64 a1, .int .u64 a2] w fun e w' => e = .returned (.tuple #[.int .u64 r1, .int .u64 r2]) ∧ Below w.heap.size w w' := by
 unfold bits_Div64.f at h
 split at h
 ·rename_i g
  obtain ⟨k, hk⟩ : ∃ k, bits_Div64q.f k a0 a1 a2 = some (r1, r2) := by
   rw [← h]; exact M.Dv64_ok a0 a1 a2 g
  refine (bits_Div64q.walk k a0 a1 a2 r1 r2 w (beq_eq_false_iff_ne.2 (by omega)) (decide_eq_false (by omega)) hk).mono ?_
  rintro e w' ⟨rfl, ⟨nd, rfl⟩⟩
  exact ⟨rfl, by apply pw_below_drewN; exact Below.refl _ _⟩
 cases h
theorem wide_U128_Div.calls (a0_0 : Int) (a0_1 : Int) (a1 : Int) (r1 : Int) (r2 : Int) (r3 : Int) (w : World) (h : wide_U128_Div.f a0_0 a0_1 a1 = some (r1, r2, r3)) :
  Calls Try.prog 104 #[.agg #[.int .u64 a0_0, .int .u64 a0_1], .int .u64 a1] w fun e w' => e = .returned (.tuple #[.agg #[.int .u64 r1, .int .u64 r2], .int .u64 r3]) ∧ Below w.heap.size w w' := by
 have hu109 := Try.underlying109
 have HB := Aside0.mk (Below.refl w.heap.size w)
 have H := h
 unfold wide_U128_Div.f at H
 clear h
 by_cases c3 : a1 = 0
 ·rw [if_pos c3] at H
  have c3b0 : (a1 == 0) = true := beq_iff_eq.mpr c3
  have c3b1 : (a1 != 0) = false := bne_eq_false_iff_eq.mpr c3
  clear c3
  simp only [Option.some.injEq, Prod.mk.injEq] at H
  obtain ⟨rfl, rfl, rfl⟩ := H
  go_enter Try.func104, Try.ntmps104
  go_wp2_with (first | ((with_reducible refine gtd 2 rfl ?_); refine zbx 2 #[.int .u64 a0_0, .int .u64 a0_1] 109 (h := ?_); intro gb256 hg w4 hbox hb; have GW256 := zkZ hg (zaB (p := Below w.heap.size w _)); replace HB := Aside0.mk (below_step zaB hb); have BK256 := Aside0.mk (hbox); clear hb hbox hg) | ((with_reducible refine gtd 4 rfl ?_); refine zbx 4 #[.int .u64 0, .int .u64 0] 109 (h := ?_); intro gb257 hg w5 hbox hb; refine zbn1 HB BK256 hg hb hbox (c := ?_); clear HB BK256 hb hbox hg; intro GW257 NB256_257 BK256 HB BK257; refine zt1 NB256_257 fun _ _ => ?_; refine zu2 BK257 fun _ _ _ _ => ?_))
  refine bodyPost_ret (results_ct rfl _ _ gb257 109 #[.int .u64 0, .int .u64 0] (0, 0) _ rfl (blk_put (cs := #[.int .u64 0, .int .u64 0]) (blk_put (zkq BK257) 0 _ rfl) 1 _ rfl) Try.underlying109 rfl (by kernel_rfl)) rfl ?_
  exact ⟨zaE, zaB⟩
 rw [if_neg c3] at H
 have c3b0 : (a1 == 0) = false := beq_eq_false_iff_ne.mpr c3
 have c3b1 : (a1 != 0) = true := bne_iff_ne.mpr c3
 obtain ⟨⟨t258, t259⟩, A8, H⟩ := zbs H
 try dsimp only at H
 obtain ⟨⟨t260, t261⟩, A9, H⟩ := zbs H
 try dsimp only at H
 simp only [Option.some.injEq, Prod.mk.injEq] at H
 obtain ⟨rfl, rfl, rfl⟩ := H
 go_enter Try.func104, Try.ntmps104
 go_wp2_with (first | ((with_reducible refine gtd 2 rfl ?_); refine zbx 2 #[.int .u64 a0_0, .int .u64 a0_1] 109 (h := ?_); intro gb256 hg w10 hbox hb; have GW256 := zkZ hg (zaB (p := Below w.heap.size w _)); replace HB := Aside0.mk (below_step zaB hb); have BK256 := Aside0.mk (hbox); clear hb hbox hg) | ((with_reducible refine gtd 4 rfl ?_); refine zbx 4 #[.int .u64 0, .int .u64 0] 109 (h := ?_); intro gb257 hg w11 hbox hb; refine zbn1 HB BK256 hg hb hbox (c := ?_); clear HB BK256 hb hbox hg; intro GW257 NB256_257 BK256 HB BK257; refine zt1 NB256_257 fun _ _ => ?_; refine zu2 BK256 fun _ _ _ _ => ?_) | ((with_reducible refine gtc 162 rfl ?_); refine zgL 16 Try.func162 (bits_Div64.calls 0 a0_0 a1 t258 t259 _ A8.out) (h := ?_); rintro w14 hb; refine zcn2 HB BK256 BK257 hb (c := ?_); clear HB BK256 BK257 hb; intro BK256 BK257 HB; refine zu2 BK256 fun _ _ _ _ => ?_) | ((with_reducible refine gtc 162 rfl ?_); refine zgL 24 Try.func162 (bits_Div64.calls t259 a0_1 a1 t260 t261 _ A9.out) (h := ?_); rintro w16 hb; refine zcn2 HB BK256 BK257 hb (c := ?_); clear HB BK256 BK257 hb; intro BK256 BK257 HB; refine zu2 BK257 fun _ _ _ _ => ?_))
 refine bodyPost_ret (results_ct rfl _ _ gb257 109 #[.int .u64 t258, .int .u64 t260] (0, 0) _ rfl (blk_put (cs := #[.int .u64 t258, .int .u64 0]) (blk_put (zkq BK257) 0 _ rfl) 1 _ rfl) Try.underlying109 rfl (by kernel_rfl)) rfl ?_
 exact ⟨zaE, zaB⟩
def soft_Div.T15 : Bool × List (List Nat × List Nat) := (true, [([], []), ([0], [0]), ([], []), ([1, 2], [1, 2]), ([3], [3]), ([], []), ([5], [5]), ([4, 6], [4, 6]), ([7], [7]), ([8], [8]), ([8], [8]), ([], []), ([11, 9, 7, 0, 1, 2, 3, 4, 5, 6, 7, 8, 9, 11], [9, 11]), ([10, 12, 0, 1, 2, 3, 4, 5, 6, 7, 8, 9, 10, 11, 12], [10])])
def soft_Div.B15 : List Nat := [0, 1, 0, 7, 15, 0, 32, 127, 255, 511, 511, 0, 3071, 8191]
theorem soft_Div.tab15 : rtab .any (opsOf Try.f27 15) = soft_Div.T15 := by kernel_rfl
theorem soft_Div.bits15 : waitsOk soft_Div.T15.2 soft_Div.B15 = true := by kernel_rfl
theorem soft_Div.calls (k : Nat) (a0 : Int) (a1 : Int) (a2 : Int) (r1 : Int) (r2 : Int) (w : World) (h : soft_Div.f k a0 a1 a2 = some (r1, r2)) :
  Calls Try.prog 27 #[.int .u64 a0, .int .u64 a1, .int .u8 a2] w fun e w' => e = .returned (.tuple #[.int .u64 r1, .int .u8 r2]) ∧ Below w.heap.size w w' := by
 have hu88 := Try.underlying88
 have hu109 := Try.underlying109
 have HB := Aside0.mk (Below.refl w.heap.size w)
 have H := h
 unfold soft_Div.f at H
 clear h
 obtain ⟨⟨t262, t263, t264, t265, t266⟩, A4, H⟩ := zbs H
 try dsimp only at H
 obtain ⟨⟨t267, t268, t269, t270, t271⟩, A5, H⟩ := zbs H
 try dsimp only at H
 obtain ⟨t274, A6, H⟩ := zbs H
 try dsimp only at H
 by_cases c7 : t274 = true
 ·subst c7
  replace H := zit H
  obtain ⟨t275, A8, H⟩ := zbs H
  try dsimp only at H
  simp only [Option.some.injEq, Prod.mk.injEq] at H
  obtain ⟨rfl, rfl⟩ := H
  go_enter Try.func27, Try.ntmps27
  go_wp2_with (first | ((with_reducible refine gtc 82 rfl ?_); refine zgL 15 Try.func82 (soft_of.calls k a0 t262 t263 t264 t265 t266 _ A4.out) (h := ?_); rintro w9 hb; replace HB := Aside0.mk (below_step zaB hb); (try clear hb)) | ((with_reducible refine gtc 82 rfl ?_); refine zgL 17 Try.func82 (soft_of.calls k a1 t267 t268 t269 t270 t271 _ A5.out) (h := ?_); rintro w10 hb; replace HB := Aside0.mk (below_step zaB hb); (try clear hb)) | ((with_reducible refine gtd 8 rfl ?_); refine zbx 8 #[.int .u64 0, .int .u8 0, .bool false, .int .u64 0, .int .i64 0] 88 (h := ?_); intro gb272 hg w11 hbox hb; have GW272 := zkZ hg (zaB (p := Below w.heap.size w _)); replace HB := Aside0.mk (below_step zaB hb); have BK272 := Aside0.mk (hbox); clear hb hbox hg) | ((with_reducible refine gtd 9 rfl ?_); refine zbx 9 #[.int .u64 0, .int .u8 0, .bool false, .int .u64 0, .int .i64 0] 88 (h := ?_); intro gb273 hg w12 hbox hb; refine zbn1 HB BK272 hg hb hbox (c := ?_); clear HB BK272 hb hbox hg; intro GW273 NB272_273 BK272 HB BK273; refine zt1 NB272_273 fun _ _ => ?_; refine zu5 BK272 fun z14_0 z14_1 z14_2 z14_3 z14_4 f14_0 f14_1 f14_2 f14_3 f14_4 => ?_; refine zu5 BK273 fun z15_0 z15_1 z15_2 z15_3 z15_4 f15_0 f15_1 f15_2 f15_3 f15_4 => ?_) | ((with_reducible refine gtc 83 rfl ?_); refine zgL 26 Try.func83 (soft_either.calls t262 t263 t264 t265 t266 t267 t268 t269 t270 t271 4 true _ A6.out) (h := ?_); rintro w16 hb; replace BK272 := Aside0.mk (blk_below (o := .cells #[.int .u64 t262, .int .u8 t263, .bool t264, .int .u64 t265, .int .i64 t266] 88 (0, 0)) (zkf (zkf (zkf (zkf (zkf (blk_put (cs := #[.int .u64 t262, .int .u8 t263, .bool t264, .int .u64 t265, .int .i64 0]) (blk_put (cs := #[.int .u64 t262, .int .u8 t263, .bool t264, .int .u64 0, .int .i64 0]) (blk_put (cs := #[.int .u64 t262, .int .u8 t263, .bool false, .int .u64 0, .int .i64 0]) (blk_put (cs := #[.int .u64 t262, .int .u8 0, .bool false, .int .u64 0, .int .i64 0]) (blk_put BK272.out 0 _ rfl) 1 _ rfl) 2 _ rfl) 3 _ rfl) 4 _ rfl) NB272_273.out _) NB272_273.out _) NB272_273.out _) NB272_273.out _) NB272_273.out _) hb); replace BK273 := Aside0.mk (blk_below (o := .cells #[.int .u64 t267, .int .u8 t268, .bool t269, .int .u64 t270, .int .i64 t271] 88 (0, 0)) (blk_put (cs := #[.int .u64 t267, .int .u8 t268, .bool t269, .int .u64 t270, .int .i64 0]) (blk_put (cs := #[.int .u64 t267, .int .u8 t268, .bool t269, .int .u64 0, .int .i64 0]) (blk_put (cs := #[.int .u64 t267, .int .u8 t268, .bool false, .int .u64 0, .int .i64 0]) (blk_put (cs := #[.int .u64 t267, .int .u8 0, .bool false, .int .u64 0, .int .i64 0]) (blk_put (zkf (zkf (zkf (zkf (zkf BK273.out (zks NB272_273).out _) (zks NB272_273).out _) (zks NB272_273).out _) (zks NB272_273).out _) (zks NB272_273).out _) 0 _ rfl) 1 _ rfl) 2 _ rfl) 3 _ rfl) 4 _ rfl) hb); replace HB := Aside0.mk (below_step (below_set (below_set (below_set (below_set (below_set (below_set (below_set (below_set (below_set (below_set HB.out GW272.out) GW272.out) GW272.out) GW272.out) GW272.out) GW273.out) GW273.out) GW273.out) GW273.out) GW273.out) hb); (try clear hb)) | ((with_reducible refine gtc 81 rfl ?_); refine zgL 27 Try.func81 (pattern_Quiet.calls  t275 _ A8.out) (h := ?_); rintro w' ⟨nd, rfl⟩))
  go_ret2
  exact ⟨zaE, zaB⟩
 replace c7 := Bool.eq_false_iff.mpr c7
 subst c7
 replace H := zif H
 have HC17 := Aside0.mk H
 clear H
 go_enter Try.func27, Try.ntmps27
 go_upto_region 5 with (first | ((with_reducible refine gtc 82 rfl ?_); refine zgL 15 Try.func82 (soft_of.calls k a0 t262 t263 t264 t265 t266 _ A4.out) (h := ?_); rintro w18 hb; replace HB := Aside0.mk (below_step zaB hb); (try clear hb)) | ((with_reducible refine gtc 82 rfl ?_); refine zgL 17 Try.func82 (soft_of.calls k a1 t267 t268 t269 t270 t271 _ A5.out) (h := ?_); rintro w19 hb; replace HB := Aside0.mk (below_step zaB hb); (try clear hb)) | ((with_reducible refine gtd 8 rfl ?_); refine zbx 8 #[.int .u64 0, .int .u8 0, .bool false, .int .u64 0, .int .i64 0] 88 (h := ?_); intro gb272 hg w20 hbox hb; have GW272 := zkZ hg (zaB (p := Below w.heap.size w _)); replace HB := Aside0.mk (below_step zaB hb); have BK272 := Aside0.mk (hbox); clear hb hbox hg) | ((with_reducible refine gtd 9 rfl ?_); refine zbx 9 #[.int .u64 0, .int .u8 0, .bool false, .int .u64 0, .int .i64 0] 88 (h := ?_); intro gb273 hg w21 hbox hb; refine zbn1 HB BK272 hg hb hbox (c := ?_); clear HB BK272 hb hbox hg; intro GW273 NB272_273 BK272 HB BK273; refine zt1 NB272_273 fun _ _ => ?_; refine zu5 BK272 fun z23_0 z23_1 z23_2 z23_3 z23_4 f23_0 f23_1 f23_2 f23_3 f23_4 => ?_; refine zu5 BK273 fun z24_0 z24_1 z24_2 z24_3 z24_4 f24_0 f24_1 f24_2 f24_3 f24_4 => ?_) | ((with_reducible refine gtc 83 rfl ?_); refine zgL 26 Try.func83 (soft_either.calls t262 t263 t264 t265 t266 t267 t268 t269 t270 t271 4 false _ A6.out) (h := ?_); rintro w25 hb; replace BK272 := Aside0.mk (blk_below (o := .cells #[.int .u64 t262, .int .u8 t263, .bool t264, .int .u64 t265, .int .i64 t266] 88 (0, 0)) (zkf (zkf (zkf (zkf (zkf (blk_put (cs := #[.int .u64 t262, .int .u8 t263, .bool t264, .int .u64 t265, .int .i64 0]) (blk_put (cs := #[.int .u64 t262, .int .u8 t263, .bool t264, .int .u64 0, .int .i64 0]) (blk_put (cs := #[.int .u64 t262, .int .u8 t263, .bool false, .int .u64 0, .int .i64 0]) (blk_put (cs := #[.int .u64 t262, .int .u8 0, .bool false, .int .u64 0, .int .i64 0]) (blk_put BK272.out 0 _ rfl) 1 _ rfl) 2 _ rfl) 3 _ rfl) 4 _ rfl) NB272_273.out _) NB272_273.out _) NB272_273.out _) NB272_273.out _) NB272_273.out _) hb); replace BK273 := Aside0.mk (blk_below (o := .cells #[.int .u64 t267, .int .u8 t268, .bool t269, .int .u64 t270, .int .i64 t271] 88 (0, 0)) (blk_put (cs := #[.int .u64 t267, .int .u8 t268, .bool t269, .int .u64 t270, .int .i64 0]) (blk_put (cs := #[.int .u64 t267, .int .u8 t268, .bool t269, .int .u64 0, .int .i64 0]) (blk_put (cs := #[.int .u64 t267, .int .u8 t268, .bool false, .int .u64 0, .int .i64 0]) (blk_put (cs := #[.int .u64 t267, .int .u8 0, .bool false, .int .u64 0, .int .i64 0]) (blk_put (zkf (zkf (zkf (zkf (zkf BK273.out (zks NB272_273).out _) (zks NB272_273).out _) (zks NB272_273).out _) (zks NB272_273).out _) (zks NB272_273).out _) 0 _ rfl) 1 _ rfl) 2 _ rfl) 3 _ rfl) 4 _ rfl) hb); replace HB := Aside0.mk (below_step (below_set (below_set (below_set (below_set (below_set (below_set (below_set (below_set (below_set (below_set HB.out GW272.out) GW272.out) GW272.out) GW272.out) GW272.out) GW273.out) GW273.out) GW273.out) GW273.out) GW273.out) hb); (try clear hb)))
 (try simp only [Act.put, List.setIfInBounds_toArray, List.set_cons_zero, List.set_cons_succ])
 go_cut [28] (fun v28 wc => ∃ (kq : Nat) (x28_16 : Bool), v28 = .bool x28_16 ∧ Aside0 (soft_Div.j0 kq a2 (t264 != t269) x28_16 t262 t263 t264 t265 t266 t267 t268 t269 t270 t271 = some (r1, r2)) ∧ Aside0 (kq ≤ k) ∧ Aside0 (wc.heap[gb272]? = some (.cells #[.int .u64 t262, .int .u8 t263, .bool t264, .int .u64 t265, .int .i64 t266] 88 (0, 0))) ∧ Aside0 (wc.heap[gb273]? = some (.cells #[.int .u64 t267, .int .u8 t268, .bool t269, .int .u64 t270, .int .i64 t271] 88 (0, 0))) ∧ Aside0 (Below w.heap.size w wc))
 case first =>
  have H := HC17.out
  clear HC17
  by_cases c26 : t263 = t268
  ·rw [if_pos c26] at H
   have c26b0 : (t263 == t268) = true := beq_iff_eq.mpr c26
   have c26b1 : (t263 != t268) = false := bne_eq_false_iff_eq.mpr c26
   clear c26
   (first | rw [c26b0] | (simp only [i64_w, i32_w]; rw [c26b0]) | skip)
   by_cases c27 : t263 = 3
   ·rw [if_pos c27] at H
    have c27b0 : (t263 == 3) = true := beq_iff_eq.mpr c27
    have c27b1 : (t263 != 3) = false := bne_eq_false_iff_eq.mpr c27
    clear c27
    have H' := Aside0.mk H
    clear H
    refine zt1 NB272_273 fun _ _ => ?_
    refine zu5 BK272 fun z29_0 z29_1 z29_2 z29_3 z29_4 f29_0 f29_1 f29_2 f29_3 f29_4 => ?_
    refine zu5 BK273 fun z30_0 z30_1 z30_2 z30_3 z30_4 f30_0 f30_1 f30_2 f30_3 f30_4 => ?_
    go_wp2
    go_meet
    case rel => exact ⟨_, (true), zrl, H', ⟨zle⟩, ⟨zkq BK272⟩, ⟨zkq BK273⟩, ⟨zaB⟩⟩
   rw [if_neg c27] at H
   have c27b0 : (t263 == 3) = false := beq_eq_false_iff_ne.mpr c27
   have c27b1 : (t263 != 3) = true := bne_iff_ne.mpr c27
   have H' := Aside0.mk H
   clear H
   refine zt1 NB272_273 fun _ _ => ?_
   refine zu5 BK272 fun z32_0 z32_1 z32_2 z32_3 z32_4 f32_0 f32_1 f32_2 f32_3 f32_4 => ?_
   refine zu5 BK273 fun z33_0 z33_1 z33_2 z33_3 z33_4 f33_0 f33_1 f33_2 f33_3 f33_4 => ?_
   go_wp2
   go_meet
   case rel => exact ⟨_, ((t263 == 0)), zrl, H', ⟨zle⟩, ⟨zkq BK272⟩, ⟨zkq BK273⟩, ⟨zaB⟩⟩
  rw [if_neg c26] at H
  have c26b0 : (t263 == t268) = false := beq_eq_false_iff_ne.mpr c26
  have c26b1 : (t263 != t268) = true := bne_iff_ne.mpr c26
  (first | rw [c26b0] | (simp only [i64_w, i32_w]; rw [c26b0]) | skip)
  have H' := Aside0.mk H
  clear H
  refine zt1 NB272_273 fun _ _ => ?_
  refine zu5 BK272 fun z35_0 z35_1 z35_2 z35_3 z35_4 f35_0 f35_1 f35_2 f35_3 f35_4 => ?_
  refine zu5 BK273 fun z36_0 z36_1 z36_2 z36_3 z36_4 f36_0 f36_1 f36_2 f36_3 f36_4 => ?_
  go_wp2
  go_meet
  case rel => exact ⟨_, (false), zrl, H', ⟨zle⟩, ⟨zkq BK272⟩, ⟨zkq BK273⟩, ⟨zaB⟩⟩
 case rest =>
  clear HC17
  try clear c26b0
  try clear c26b1
  try clear c27b0
  try clear c27b1
  try clear z14_0 z14_1 z14_2 z14_3 z14_4 f14_0 f14_1 f14_2 f14_3 f14_4
  try clear z15_0 z15_1 z15_2 z15_3 z15_4 f15_0 f15_1 f15_2 f15_3 f15_4
  try clear z23_0 z23_1 z23_2 z23_3 z23_4 f23_0 f23_1 f23_2 f23_3 f23_4
  try clear z24_0 z24_1 z24_2 z24_3 z24_4 f24_0 f24_1 f24_2 f24_3 f24_4
  try clear z29_0 z29_1 z29_2 z29_3 z29_4 f29_0 f29_1 f29_2 f29_3 f29_4
  try clear z30_0 z30_1 z30_2 z30_3 z30_4 f30_0 f30_1 f30_2 f30_3 f30_4
  try clear z32_0 z32_1 z32_2 z32_3 z32_4 f32_0 f32_1 f32_2 f32_3 f32_4
  try clear z33_0 z33_1 z33_2 z33_3 z33_4 f33_0 f33_1 f33_2 f33_3 f33_4
  try clear z35_0 z35_1 z35_2 z35_3 z35_4 f35_0 f35_1 f35_2 f35_3 f35_4
  try clear z36_0 z36_1 z36_2 z36_3 z36_4 f36_0 f36_1 f36_2 f36_3 f36_4
  obtain ⟨kq, x28_16, rfl, HA, HJ16, BK272, BK273, HB⟩ := hcut
  cases kq with
  | zero => exact absurd HA.out (by simp [soft_Div.j0])
  | succ kj16 =>
   have H := HA.out
   clear HA
   simp only [soft_Div.j0] at H
   by_cases c37 : x28_16 = true
   ·subst c37
    replace H := zit H
    obtain ⟨⟨t276, t277⟩, A38, H⟩ := zbs H
    try dsimp only at H
    simp only [Option.some.injEq, Prod.mk.injEq] at H
    obtain ⟨rfl, rfl⟩ := H
    go_wp2_with (first | ((with_reducible refine gtc 84 rfl ?_); refine zgL 44 Try.func84 (soft_invalid.calls  t276 t277 _ A38.out) (h := ?_); rintro w' ⟨nd, rfl⟩))
    go_ret2
    exact ⟨zaE, zaB⟩
   replace c37 := Bool.eq_false_iff.mpr c37
   subst c37
   replace H := zif H
   by_cases c39 : t263 = 3
   ·rw [if_pos c39] at H
    have c39b0 : (t263 == 3) = true := beq_iff_eq.mpr c39
    have c39b1 : (t263 != 3) = false := bne_eq_false_iff_eq.mpr c39
    clear c39
    obtain ⟨t278, A40, H⟩ := zbs H
    try dsimp only at H
    simp only [Option.some.injEq, Prod.mk.injEq] at H
    obtain ⟨rfl, rfl⟩ := H
    refine zt1 NB272_273 fun _ _ => ?_
    refine zu5 BK272 fun z42_0 z42_1 z42_2 z42_3 z42_4 f42_0 f42_1 f42_2 f42_3 f42_4 => ?_
    go_wp2_with (first | ((with_reducible refine gtc 79 rfl ?_); refine zgL 52 Try.func79 (pattern_Inf.calls kj16 (t264 != t269) t278 _ A40.out) (h := ?_); rintro w' ⟨nd, rfl⟩))
    go_ret2
    exact ⟨zaE, zaB⟩
   rw [if_neg c39] at H
   have c39b0 : (t263 == 3) = false := beq_eq_false_iff_ne.mpr c39
   have c39b1 : (t263 != 3) = true := bne_iff_ne.mpr c39
   by_cases c43 : t268 = 0
   ·rw [if_pos c43] at H
    have c43b0 : (t268 == 0) = true := beq_iff_eq.mpr c43
    have c43b1 : (t268 != 0) = false := bne_eq_false_iff_eq.mpr c43
    clear c43
    obtain ⟨t279, A44, H⟩ := zbs H
    try dsimp only at H
    simp only [Option.some.injEq, Prod.mk.injEq] at H
    obtain ⟨rfl, rfl⟩ := H
    refine zt1 NB272_273 fun _ _ => ?_
    refine zu5 BK272 fun z46_0 z46_1 z46_2 z46_3 z46_4 f46_0 f46_1 f46_2 f46_3 f46_4 => ?_
    refine zu5 BK273 fun z47_0 z47_1 z47_2 z47_3 z47_4 f47_0 f47_1 f47_2 f47_3 f47_4 => ?_
    go_wp2_with (first | ((with_reducible refine gtc 79 rfl ?_); refine zgL 58 Try.func79 (pattern_Inf.calls kj16 (t264 != t269) t279 _ A44.out) (h := ?_); rintro w' ⟨nd, rfl⟩))
    go_ret2
    exact ⟨zaE, zaB⟩
   rw [if_neg c43] at H
   have c43b0 : (t268 == 0) = false := beq_eq_false_iff_ne.mpr c43
   have c43b1 : (t268 != 0) = true := bne_iff_ne.mpr c43
   have HC48 := Aside0.mk H
   clear H
   refine zt1 NB272_273 fun _ _ => ?_
   refine zu5 BK272 fun z50_0 z50_1 z50_2 z50_3 z50_4 f50_0 f50_1 f50_2 f50_3 f50_4 => ?_
   refine zu5 BK273 fun z51_0 z51_1 z51_2 z51_3 z51_4 f51_0 f51_1 f51_2 f51_3 f51_4 => ?_
   go_upto_if 59 with (fail)
   go_cut [59] (fun v59 wc => ∃ (kq : Nat) (x59_47 : Bool), v59 = .bool x59_47 ∧ Aside0 (soft_Div.j1 kq a2 (t264 != t269) x59_47 t262 t263 t264 t265 t266 t267 t268 t269 t270 t271 = some (r1, r2)) ∧ Aside0 (kq ≤ kj16) ∧ Aside0 (wc.heap[gb272]? = some (.cells #[.int .u64 t262, .int .u8 t263, .bool t264, .int .u64 t265, .int .i64 t266] 88 (0, 0))) ∧ Aside0 (wc.heap[gb273]? = some (.cells #[.int .u64 t267, .int .u8 t268, .bool t269, .int .u64 t270, .int .i64 t271] 88 (0, 0))) ∧ Aside0 (Below w.heap.size w wc))
   case first =>
    have H := HC48.out
    clear HC48
    by_cases c52 : t263 = 0
    ·rw [if_pos c52] at H
     have c52b0 : (t263 == 0) = true := beq_iff_eq.mpr c52
     have c52b1 : (t263 != 0) = false := bne_eq_false_iff_eq.mpr c52
     clear c52
     (first | rw [c52b0] | (simp only [i64_w, i32_w]; rw [c52b0]) | skip)
     have H' := Aside0.mk H
     clear H
     go_wp2
     go_meet
     case rel => exact ⟨_, ((t263 == 0)), zrl, H', ⟨by have := HJ16.out; first | omega | exact Nat.le_refl _⟩, ⟨zkq BK272⟩, ⟨zkq BK273⟩, ⟨zaB⟩⟩
    rw [if_neg c52] at H
    have c52b0 : (t263 == 0) = false := beq_eq_false_iff_ne.mpr c52
    have c52b1 : (t263 != 0) = true := bne_iff_ne.mpr c52
    (first | rw [c52b0] | (simp only [i64_w, i32_w]; rw [c52b0]) | skip)
    have H' := Aside0.mk H
    clear H
    refine zt1 NB272_273 fun _ _ => ?_
    refine zu5 BK273 fun z54_0 z54_1 z54_2 z54_3 z54_4 f54_0 f54_1 f54_2 f54_3 f54_4 => ?_
    go_wp2
    go_meet
    case rel => exact ⟨_, ((t268 == 3)), zrl, H', ⟨by have := HJ16.out; first | omega | exact Nat.le_refl _⟩, ⟨zkq BK272⟩, ⟨zkq BK273⟩, ⟨zaB⟩⟩
   case rest =>
    clear HC48
    try clear c26b0
    try clear c26b1
    try clear c27b0
    try clear c27b1
    try clear c39b0
    try clear c39b1
    try clear c43b0
    try clear c43b1
    try clear c52b0
    try clear c52b1
    try clear z14_0 z14_1 z14_2 z14_3 z14_4 f14_0 f14_1 f14_2 f14_3 f14_4
    try clear z15_0 z15_1 z15_2 z15_3 z15_4 f15_0 f15_1 f15_2 f15_3 f15_4
    try clear z23_0 z23_1 z23_2 z23_3 z23_4 f23_0 f23_1 f23_2 f23_3 f23_4
    try clear z24_0 z24_1 z24_2 z24_3 z24_4 f24_0 f24_1 f24_2 f24_3 f24_4
    try clear z29_0 z29_1 z29_2 z29_3 z29_4 f29_0 f29_1 f29_2 f29_3 f29_4
    try clear z30_0 z30_1 z30_2 z30_3 z30_4 f30_0 f30_1 f30_2 f30_3 f30_4
    try clear z32_0 z32_1 z32_2 z32_3 z32_4 f32_0 f32_1 f32_2 f32_3 f32_4
    try clear z33_0 z33_1 z33_2 z33_3 z33_4 f33_0 f33_1 f33_2 f33_3 f33_4
    try clear z35_0 z35_1 z35_2 z35_3 z35_4 f35_0 f35_1 f35_2 f35_3 f35_4
    try clear z36_0 z36_1 z36_2 z36_3 z36_4 f36_0 f36_1 f36_2 f36_3 f36_4
    try clear z42_0 z42_1 z42_2 z42_3 z42_4 f42_0 f42_1 f42_2 f42_3 f42_4
    try clear z46_0 z46_1 z46_2 z46_3 z46_4 f46_0 f46_1 f46_2 f46_3 f46_4
    try clear z47_0 z47_1 z47_2 z47_3 z47_4 f47_0 f47_1 f47_2 f47_3 f47_4
    try clear z50_0 z50_1 z50_2 z50_3 z50_4 f50_0 f50_1 f50_2 f50_3 f50_4
    try clear z51_0 z51_1 z51_2 z51_3 z51_4 f51_0 f51_1 f51_2 f51_3 f51_4
    try clear z54_0 z54_1 z54_2 z54_3 z54_4 f54_0 f54_1 f54_2 f54_3 f54_4
    obtain ⟨kq, x59_47, rfl, HA, HJ47, BK272, BK273, HB⟩ := hcut
    cases kq with
    | zero => exact absurd HA.out (by simp [soft_Div.j1])
    | succ kj47 =>
     have H := HA.out
     clear HA
     simp only [soft_Div.j1] at H
     by_cases c55 : x59_47 = true
     ·subst c55
      replace H := zit H
      obtain ⟨t280, A56, H⟩ := zbs H
      try dsimp only at H
      simp only [Option.some.injEq, Prod.mk.injEq] at H
      obtain ⟨rfl, rfl⟩ := H
      go_wp2_with (first | ((with_reducible refine gtc 85 rfl ?_); refine zgL 67 Try.func85 (soft_zero.calls kj47 (t264 != t269) t280 _ A56.out) (h := ?_); rintro w' ⟨nd, rfl⟩))
      go_ret2
      exact ⟨zaE, zaB⟩
     replace c55 := Bool.eq_false_iff.mpr c55
     subst c55
     replace H := zif H
     obtain ⟨t281, A57, H⟩ := zbs H
     try dsimp only at H
     obtain ⟨ji58, hji58⟩ : ∃ j_ : Int, (wrap64 (64 - t281)) = j_ := ⟨_, rfl⟩
     replace H : (if 0 ≤ (ji58) then ((wide_U128_Div.f (shl .u64 t265 (ji58)) 0 t270).bind fun bt282 => ((round_Round.f kj47 (t264 != t269) bt282.1 bt282.2.1 (wrap64 ((wrap64 ((wrap64 (t266 - (ji58))) - 64)) - t271)) (bt282.2.2 != 0) a2).bind fun bt286 => (some (bt286.1, bt286.2)))) else (none)) = some (r1, r2) := by first | (rw [hji58] at H; exact H) | (simp only [hji58] at H ⊢; exact H)
     (try rw [hji58] at A57)
     have hji58w : (IntKind.i64.wrap (64 - t281)) = ji58 := (i64_w _).trans hji58
     by_cases c59 : 0 ≤ (ji58)
     ·rw [if_pos c59] at H
      have c59b0 := eq_true c59
      have c59b1 : decide (0 ≤ (ji58)) = true := decide_eq_true c59
      clear c59
      obtain ⟨ji60, hji60⟩ : ∃ j_ : Int, (shl .u64 t265 (ji58)) = j_ := ⟨_, rfl⟩
      replace H : ((wide_U128_Div.f (ji60) 0 t270).bind fun bt282 => ((round_Round.f kj47 (t264 != t269) bt282.1 bt282.2.1 (wrap64 ((wrap64 ((wrap64 (t266 - (ji58))) - 64)) - t271)) (bt282.2.2 != 0) a2).bind fun bt286 => (some (bt286.1, bt286.2)))) = some (r1, r2) := by first | (rw [hji60] at H; exact H) | (simp only [hji60] at H ⊢; exact H)
      (try rw [hji60] at A57)
      have hji60_ : (IntKind.u64.wrap (t265 * 2 ^ min (ji58).toNat 64)) = ji60 := hji60
      have hji60z : (ji58) ≤ 64 → (IntKind.u64.wrap (t265 * 2 ^ (ji58).toNat)) = ji60 := shl_small hji60
      obtain ⟨⟨t282, t283, t284⟩, A61, H⟩ := zbs H
      try dsimp only at H
      obtain ⟨⟨t286, t287⟩, A62, H⟩ := zbs H
      try dsimp only at H
      simp only [Option.some.injEq, Prod.mk.injEq] at H
      obtain ⟨rfl, rfl⟩ := H
      refine zt1 NB272_273 fun _ _ => ?_
      refine zu5 BK272 fun _ _ _ _ _ _ _ _ _ _ => ?_
      try go_wp2_with (first | ((with_reducible refine gtc 103 rfl ?_); refine zgL 71 Try.func103 (wide_U128_Len.calls 0 t265 t281 _ A57.out) (h := ?_); rintro w65 hb; refine zcn2 HB BK272 BK273 hb (c := ?_); clear HB BK272 BK273 hb; intro BK272 BK273 HB))
      replace BK272 := Aside0.mk (blk_drew BK272.out)
      replace BK273 := Aside0.mk (blk_drew BK273.out)
      replace HB := Aside0.mk (below_drew1 HB.out)
      refine start_ (n := 14) (S := fun w' => w'.cell? ⟨gb272, 0, none⟩ = some (.int .u64 t262) ∧ w'.cell? ⟨gb272, 1, none⟩ = some (.int .u8 t263) ∧ w'.cell? ⟨gb272, 2, none⟩ = some (.bool t264) ∧ w'.cell? ⟨gb272, 3, none⟩ = some (.int .u64 t265) ∧ w'.cell? ⟨gb272, 4, none⟩ = some (.int .i64 t266) ∧ w'.cell? ⟨gb273, 0, none⟩ = some (.int .u64 t267) ∧ w'.cell? ⟨gb273, 1, none⟩ = some (.int .u8 t268) ∧ w'.cell? ⟨gb273, 2, none⟩ = some (.bool t269) ∧ w'.cell? ⟨gb273, 3, none⟩ = some (.int .u64 t270) ∧ w'.cell? ⟨gb273, 4, none⟩ = some (.int .i64 t271)) (ds := []) #[false, false, false, false, false, false, false, false, false, false, false, false, false, false] (by kernel_rfl) rfl rfl (zk5 BK272 (ze5 BK273)) (fun hHeld => ?_); refine with_tabW soft_Div.tab15 soft_Div.bits15 (fun HT_ HW_ => ?_)
      generalize w65.drew = w66 at BK272 BK273 HB hHeld ⊢
      refine zpA 0 74 (h := ?_)
      refine zpA 2 76 (h := ?_)
      refine zpA 5 79 (h := ?_)
      refine ztA 1 75 (h := ?_)
      refine zpA 3 77 (h := ?_)
      refine zpA 4 78 (h := ?_)
      refine ztA 6 80 (h := ?_)
      refine join_ (σ := Nat) 2 #[true, true, true, true, true, true, true, true, true, true, true, true, false, false] (fun s_ => [(81, .tuple #[.agg #[.int .u64 t282, .int .u64 t283], .int .u64 t284]), (12, .pointer (some ⟨s_, 0, none⟩)), (73, .tuple #[.agg #[.int .u64 t282, .int .u64 t283], .int .u64 t284]), (82, .agg #[.int .u64 t282, .int .u64 t283]), (83, .int .u64 t284)]) (fun s_ w' => (w'.cell? ⟨gb272, 0, none⟩ = some (.int .u64 t262) ∧ w'.cell? ⟨gb272, 1, none⟩ = some (.int .u8 t263) ∧ w'.cell? ⟨gb272, 2, none⟩ = some (.bool t264) ∧ w'.cell? ⟨gb272, 3, none⟩ = some (.int .u64 t265) ∧ w'.cell? ⟨gb272, 4, none⟩ = some (.int .i64 t266) ∧ w'.cell? ⟨gb273, 0, none⟩ = some (.int .u64 t267) ∧ w'.cell? ⟨gb273, 1, none⟩ = some (.int .u8 t268) ∧ w'.cell? ⟨gb273, 2, none⟩ = some (.bool t269) ∧ w'.cell? ⟨gb273, 3, none⟩ = some (.int .u64 t270) ∧ w'.cell? ⟨gb273, 4, none⟩ = some (.int .i64 t271)) ∧ (w'.heap[gb272]? = some (.cells #[.int .u64 t262, .int .u8 t263, .bool t264, .int .u64 t265, .int .i64 t266] 88 (0, 0))) ∧ (w'.heap[gb273]? = some (.cells #[.int .u64 t267, .int .u8 t268, .bool t269, .int .u64 t270, .int .i64 t271] 88 (0, 0))) ∧ (w'.heap[s_]? = some (.cells #[.int .u64 0, .int .u64 0] 109 (0, 0))) ∧ (w.heap.size ≤ s_) ∧ (w.heap.size ≤ s_) ∧ (gb272 ≠ s_) ∧ (s_ ≠ gb272) ∧ (gb273 ≠ s_) ∧ (s_ ≠ gb273) ∧ (Below w.heap.size w w')) ?_ ?_
      rotate_left
      ·intro hCont
       refine two_ (i := 7) (j := 11) (Ni := some 81) (Nj := some 12) #[true, true, true, true, true, true, true, true, false, false, false, false, false, false] #[true, true, true, true, true, true, true, false, false, false, false, true, false, false] rfl rfl rfl rfl (two_of HT_.out (by kernel_rfl)) (by decide) (by decide) (fun K hK => ?_) (fun K hK => ?_)
       ·skip
        refine goes_ Try.func104 (by kernel_rfl) rfl #[.agg #[.int .u64 ji60, .int .u64 0], .int .u64 t270] (by rfl) rfl rfl (by (try simp only [List.map_toArray, List.map_cons, List.map_nil]); first | done | (simp only [hji60]; rfl) | rfl | (simp only [List.length_drop, List.length_take]; rfl)) ?_
        with_reducible refine (wide_U128_Div.calls ji60 0 t270 t282 t283 t284 _ A61.out).mono ?_
        rintro e w67 ⟨rfl, hb⟩
        refine ⟨_, rfl, ?_⟩
        refine zcn2 HB BK272 BK273 hb (c := ?_)
        clear HB BK272 BK273 hb
        intro BK272 BK273 HB
        refine hK.out _ _ (zk5 BK272 (ze5 BK273)) (fun hHeld => ?_)
        clear hK K
        refine znA 81 (h := ?_)
        refine zpA 8 73 (h := ?_)
        refine zpA 9 82 (h := ?_)
        refine zpA 10 83 (h := ?_)
        refine zoA 11 12 (h := fun K hK => ?_)
        refine box_step ?hg (N := 12) ?hd (cs := #[.int .u64 0, .int .u64 0]) (t := 109) ?hr ?_; (case hd => rfl); (case hg => rfl); (case hr => first | (go_simp; done) | (go_simp; rfl))
        intro gb285 hg w68 hbox hb
        refine zbn2 HB BK272 BK273 hg hb hbox (c := ?_)
        clear HB BK272 BK273 hb hbox hg
        intro GW285 NB272_285 NB273_285 BK272 BK273 HB BK285
        refine hK.out _ _ (zk5 BK272 (ze5 BK273)) (fun hHeld => ?_)
        clear hK K
        refine znA 12 (h := ?_)
        exact norm_ (by simp only [putAll, Act.put, List.setIfInBounds_toArray, List.set_cons_zero, List.set_cons_succ]) (hCont (gb285) _ ⟨hHeld, (zkq BK272), (zkq BK273), (zkq BK285), GW285.out, GW285.out, NB272_285.out, (zks NB272_285).out, NB273_285.out, (zks NB273_285).out, zaB⟩)
       skip
       refine box_step ?hg (N := 12) ?hd (cs := #[.int .u64 0, .int .u64 0]) (t := 109) ?hr ?_; (case hd => rfl); (case hg => rfl); (case hr => first | (go_simp; done) | (go_simp; rfl))
       intro gb285 hg w67 hbox hb
       refine zbn2 HB BK272 BK273 hg hb hbox (c := ?_)
       clear HB BK272 BK273 hb hbox hg
       intro GW285 NB272_285 NB273_285 BK272 BK273 HB BK285
       refine hK.out _ _ (zk5 BK272 (ze5 BK273)) (fun hHeld => ?_)
       clear hK K
       refine znA 12 (h := ?_)
       refine zoA 7 81 (h := fun K hK => ?_)
       refine goes_ Try.func104 (by kernel_rfl) rfl #[.agg #[.int .u64 ji60, .int .u64 0], .int .u64 t270] (by rfl) rfl rfl (by (try simp only [List.map_toArray, List.map_cons, List.map_nil]); first | done | (simp only [hji60]; rfl) | rfl | (simp only [List.length_drop, List.length_take]; rfl)) ?_
       with_reducible refine (wide_U128_Div.calls ji60 0 t270 t282 t283 t284 _ A61.out).mono ?_
       rintro e w68 ⟨rfl, hb⟩
       refine ⟨_, rfl, ?_⟩
       refine zcn3 HB BK272 BK273 BK285 hb (c := ?_)
       clear HB BK272 BK273 BK285 hb
       intro BK272 BK273 BK285 HB
       refine hK.out _ _ (zk5 BK272 (ze5 BK273)) (fun hHeld => ?_)
       clear hK K
       refine znA 81 (h := ?_)
       refine zpA 8 73 (h := ?_)
       refine zpA 9 82 (h := ?_)
       refine zpA 10 83 (h := ?_)
       exact norm_ (by simp only [putAll, Act.put, List.setIfInBounds_toArray, List.set_cons_zero, List.set_cons_succ]) (hCont (gb285) _ ⟨hHeld, (zkq BK272), (zkq BK273), (zkq BK285), GW285.out, GW285.out, NB272_285.out, (zks NB272_285).out, NB273_285.out, (zks NB273_285).out, zaB⟩)
      rintro gb285 w69 ⟨hS_, h0_, h1_, h2_, h3_, h4_, h5_, h6_, h7_, h8_, h9_⟩
      have n0_ : Aside0 (w69.heap[gb272]? = some (.cells #[.int .u64 t262, .int .u8 t263, .bool t264, .int .u64 t265, .int .i64 t266] 88 (0, 0))) := ⟨h0_⟩
      have n1_ : Aside0 (w69.heap[gb273]? = some (.cells #[.int .u64 t267, .int .u8 t268, .bool t269, .int .u64 t270, .int .i64 t271] 88 (0, 0))) := ⟨h1_⟩
      have n2_ : Aside0 (w69.heap[gb285]? = some (.cells #[.int .u64 0, .int .u64 0] 109 (0, 0))) := ⟨h2_⟩
      have n3_ : Aside0 (w.heap.size ≤ gb285) := ⟨h3_⟩
      have n4_ : Aside0 (w.heap.size ≤ gb285) := ⟨h4_⟩
      have n5_ : Aside0 (gb272 ≠ gb285) := ⟨h5_⟩
      have n6_ : Aside0 (gb285 ≠ gb272) := ⟨h6_⟩
      have n7_ : Aside0 (gb273 ≠ gb285) := ⟨h7_⟩
      have n8_ : Aside0 (gb285 ≠ gb273) := ⟨h8_⟩
      have n9_ : Aside0 (Below w.heap.size w w69) := ⟨h9_⟩
      clear BK272
      clear BK273
      clear HB
      clear h0_ h1_ h2_ h3_ h4_ h5_ h6_ h7_ h8_ h9_
      have BK272 := n0_
      have BK273 := n1_
      have BK285 := n2_
      have GW285 := n3_
      have GW285 := n4_
      have NB272_285 := n5_
      have NB285_272 := n6_
      have NB273_285 := n7_
      have NB285_273 := n8_
      have HB := n9_
      clear n0_ n1_ n2_ n3_ n4_ n5_ n6_ n7_ n8_ n9_
      have hHeld : w69.cell? ⟨gb272, 0, none⟩ = some (.int .u64 t262) ∧ w69.cell? ⟨gb272, 1, none⟩ = some (.int .u8 t263) ∧ w69.cell? ⟨gb272, 2, none⟩ = some (.bool t264) ∧ w69.cell? ⟨gb272, 3, none⟩ = some (.int .u64 t265) ∧ w69.cell? ⟨gb272, 4, none⟩ = some (.int .i64 t266) ∧ w69.cell? ⟨gb273, 0, none⟩ = some (.int .u64 t267) ∧ w69.cell? ⟨gb273, 1, none⟩ = some (.int .u8 t268) ∧ w69.cell? ⟨gb273, 2, none⟩ = some (.bool t269) ∧ w69.cell? ⟨gb273, 3, none⟩ = some (.int .u64 t270) ∧ w69.cell? ⟨gb273, 4, none⟩ = some (.int .i64 t271) := hS_
      refine norm_ (a' := ?_) ?_ ?_
      rotate_left
      ·simp only [putAll, Act.put, List.setIfInBounds_toArray, List.set_cons_zero, List.set_cons_succ]
       rfl
      refine one_ (i := 12) (N := none) #[true, true, true, true, true, true, true, true, true, true, true, true, true, false] rfl rfl (one_of HT_.out (by kernel_rfl)) (by decide) (fun K hK => ?_)
      have hs70 := zc0 BK285
      have hfs70 := blk_frozen BK285.out 0
      refine zt2 NB272_285 NB273_285 fun _ _ _ _ => ?_
      have hs71 := zc1 BK285
      have hfs71 := blk_frozen BK285.out 1
      refine zt2 NB272_285 NB273_285 fun _ _ _ _ => ?_
      refine skip_ (w1 := ?_) (by rfl) rfl ?_ ?_
      rotate_left
      ·go_simp
       rfl
      refine hK.out _ _ ⟨(zff NB272_285 (zff NB272_285 hHeld.1)), (zff NB272_285 (zff NB272_285 hHeld.2.1)), (zff NB272_285 (zff NB272_285 hHeld.2.2.1)), (zff NB272_285 (zff NB272_285 hHeld.2.2.2.1)), (zff NB272_285 (zff NB272_285 hHeld.2.2.2.2.1)), (zff NB273_285 (zff NB273_285 hHeld.2.2.2.2.2.1)), (zff NB273_285 (zff NB273_285 hHeld.2.2.2.2.2.2.1)), (zff NB273_285 (zff NB273_285 hHeld.2.2.2.2.2.2.2.1)), (zff NB273_285 (zff NB273_285 hHeld.2.2.2.2.2.2.2.2.1)), (zff NB273_285 (zff NB273_285 hHeld.2.2.2.2.2.2.2.2.2))⟩ (fun hHeld => ?_)
      clear hK K
      refine zpA 13 13 (h := ?_)
      refine done_ (done_of HT_.out (by kernel_rfl)) ?_
      refine zt2 NB272_285 NB273_285 fun _ _ _ _ => ?_
      refine zu2 BK285 fun _ _ _ _ => ?_
      refine zu5 BK272 fun _ _ _ _ _ _ _ _ _ _ => ?_
      refine zu5 BK273 fun _ _ _ _ _ _ _ _ _ _ => ?_
      try go_wp2_with (first | ((with_reducible refine gtc 99 rfl ?_); refine goesL_ (some 97) rfl rfl Try.func99 (by kernel_rfl) rfl #[.bool (t264 != t269), .agg #[.int .u64 t282, .int .u64 t283], .int .i64 (wrap64 ((wrap64 ((wrap64 (t266 - (ji58))) - 64)) - t271)), .bool (t284 != 0), .int .u8 a2] rfl (by (try simp only [List.map_toArray, List.map_cons, List.map_nil]); first | done | (simp only [hji58]; rfl) | rfl | (simp only [List.length_drop, List.length_take]; rfl)) ?_; (with_reducible refine (round_Round.calls kj47 (t264 != t269) t282 t283 (wrap64 ((wrap64 ((wrap64 (t266 - (ji58))) - 64)) - t271)) (t284 != 0) a2 t286 t287 _ A62.out).mono ?_); rintro e w77 ⟨rfl, hb⟩; refine ⟨_, rfl, ?_⟩; replace BK272 := Aside0.mk (blk_below (zkf (zkf BK272.out NB272_285.out _) NB272_285.out _) hb); replace BK273 := Aside0.mk (blk_below (zkf (zkf BK273.out NB273_285.out _) NB273_285.out _) hb); replace BK285 := Aside0.mk (blk_below (o := .cells #[.int .u64 t282, .int .u64 t283] 109 (0, 0)) (blk_put (cs := #[.int .u64 t282, .int .u64 0]) (blk_put BK285.out 0 _ rfl) 1 _ rfl) hb); replace HB := Aside0.mk (below_step (below_set (below_set HB.out GW285.out) GW285.out) hb); (try clear hb)))
      go_ret2
      exact ⟨by first | rfl | (simp [errW_none, errW_some] <;> rfl) | (simp only [← hji58, ← hji60]; first | rfl | (simp [errW_none, errW_some] <;> rfl)) | (simp [*, errW_none, errW_some] <;> rfl), zaB⟩
     rw [if_neg c59] at H
     exact absurd H (by simp)
theorem span_above_1.calls (k : Nat) (a0 : Int) (a1 : Int) (a2 : Int) (r : Int) (w : World) (h : span_above_1.f k a0 a1 a2 = some r) :
  Calls Try.prog 173 #[.int .u64 a0, .int .u64 a1, .int .u8 a2] w fun e w' => e = .returned (.int .u64 r) ∧ Below w.heap.size w w' := by
 have HB := Aside0.mk (Below.refl w.heap.size w)
 have H := h
 unfold span_above_1.f at H
 clear h
 obtain ⟨t927, A4, H⟩ := zbs H
 try dsimp only at H
 obtain ⟨t928, A5, H⟩ := zbs H
 try dsimp only at H
 have HC6 := Aside0.mk H
 clear H
 go_enter Try.func173, Try.ntmps173
 go_upto_if 13 with (first | ((with_reducible refine gtc 24 rfl ?_); refine zgL 11 Try.func24 (pattern_Class.calls k a1 t927 _ A4.out) (h := ?_); rintro w' ⟨nd, rfl⟩) | ((with_reducible refine gtc 138 rfl ?_); refine zgL 15 Try.func138 (span_zero.calls k a0 t928 _ A5.out) (h := ?_); rintro w' ⟨nd, rfl⟩))
 (try simp only [Act.put, List.setIfInBounds_toArray, List.set_cons_zero, List.set_cons_succ])
 go_cut [7, 13] (fun v7 v13 wc => ∃ (kq : Nat) (x13_5 : Bool), v13 = .bool x13_5 ∧ v7 = .bool (t927 == 3) ∧ Aside0 (span_above_1.j0 kq a0 a1 a2 (t927 == 3) x13_5 = some r) ∧ Aside0 (kq ≤ k) ∧ Aside0 (Below w.heap.size w wc))
 case first =>
  have H := HC6.out
  clear HC6
  by_cases c7 : t928 = true
  ·subst c7
   replace H := zit H
   have H' := Aside0.mk H
   clear H
   go_wp2
   go_meet
   case rel => exact ⟨_, (true), zrl, (by first | rfl | (rw [c8b0]) | (rw [c12b0]) | (simp [*]; done)), H', ⟨zle⟩, ⟨zaB⟩⟩
  replace c7 := Bool.eq_false_iff.mpr c7
  subst c7
  replace H := zif H
  by_cases c8 : t927 = 3
  ·rw [if_pos c8] at H
   have c8b0 : (t927 == 3) = true := beq_iff_eq.mpr c8
   have c8b1 : (t927 != 3) = false := bne_eq_false_iff_eq.mpr c8
   clear c8
   (first | rw [c8b0] | (simp only [i64_w, i32_w]; rw [c8b0]) | skip)
   obtain ⟨t929, A9, H⟩ := zbs H
   try dsimp only at H
   have H' := Aside0.mk H
   clear H
   go_wp2_with (first | (go_at_call 24; (with_reducible refine (pattern_Class.calls k a0 t929 _ A9.out).mono ?_); rintro e w' ⟨rfl, ⟨nd, rfl⟩⟩))
   go_meet
   case rel => exact ⟨_, ((t929 != 3)), zrl, (by first | rfl | (rw [c8b0]) | (rw [c12b0]) | (simp [*]; done)), H', ⟨zle⟩, ⟨zaB⟩⟩
  rw [if_neg c8] at H
  have c8b0 : (t927 == 3) = false := beq_eq_false_iff_ne.mpr c8
  have c8b1 : (t927 != 3) = true := bne_iff_ne.mpr c8
  (first | rw [c8b0] | (simp only [i64_w, i32_w]; rw [c8b0]) | skip)
  have H' := Aside0.mk H
  clear H
  go_wp2
  go_meet
  case rel => exact ⟨_, (false), zrl, (by first | rfl | (rw [c8b0]) | (rw [c12b0]) | (simp [*]; done)), H', ⟨zle⟩, ⟨zaB⟩⟩
 case rest =>
  clear HC6
  try clear c8b0
  try clear c8b1
  obtain ⟨kq, x13_5, rfl, rfl, HA, HJ5, HB⟩ := hcut
  cases kq with
  | zero => exact absurd HA.out (by simp [span_above_1.j0])
  | succ kj5 =>
   have H := HA.out
   clear HA
   simp only [span_above_1.j0] at H
   by_cases c10 : x13_5 = true
   ·subst c10
    replace H := zit H
    obtain rfl := Option.some.inj H
    go_wp2
    go_ret
    exact ⟨zaE, zaB⟩
   replace c10 := Bool.eq_false_iff.mpr c10
   subst c10
   replace H := zif H
   have HC11 := Aside0.mk H
   clear H
   go_upto_if 22 with (fail)
   go_cut [7, 22] (fun v7 v22 wc => ∃ (kq : Nat) (x22_10 : Bool), v22 = .bool x22_10 ∧ v7 = .bool (t927 == 3) ∧ Aside0 (span_above_1.j1 kq a0 a1 a2 x22_10 = some r) ∧ Aside0 (kq ≤ kj5) ∧ Aside0 (Below w.heap.size w wc))
   case first =>
    have H := HC11.out
    clear HC11
    by_cases c12 : (t927 == 3) = true
    ·rw [if_pos c12] at H
     have c12b0 : (t927 == 3) = true := c12
     (try (have c12b1 : decide (t927 = 3) = true := by simpa using c12))
     (try (have c12b2 : (t927 == 3) = true := by simpa using c12))
     clear c12
     (first | rw [c12b0] | (simp only [i64_w, i32_w]; rw [c12b0]) | skip)
     have H' := Aside0.mk H
     clear H
     go_wp2
     go_meet
     case rel => exact ⟨_, ((t927 == 3)), zrl, (by first | rfl | (rw [c8b0]) | (rw [c12b0]) | (simp [*]; done)), H', ⟨by have := HJ5.out; first | omega | exact Nat.le_refl _⟩, ⟨zaB⟩⟩
    rw [if_neg c12] at H
    have c12b0 : (t927 == 3) = false := by simpa using c12
    (try (have c12b1 : decide (t927 = 3) = false := by simpa using c12))
    (try (have c12b2 : (t927 == 3) = false := by simpa using c12))
    (try (have c12b3 : ¬ (t927 = 3) := by simpa using c12))
    clear c12
    (first | rw [c12b0] | (simp only [i64_w, i32_w]; rw [c12b0]) | skip)
    obtain ⟨t930, A13, H⟩ := zbs H
    try dsimp only at H
    have H' := Aside0.mk H
    clear H
    go_wp2_with (first | ((with_reducible refine gtc 138 rfl ?_); refine zgL 25 Try.func138 (span_zero.calls kj5 a1 t930 _ A13.out) (h := ?_); rintro w' ⟨nd, rfl⟩))
    go_meet
    case rel => exact ⟨_, (t930), zrl, (by first | rfl | (rw [c8b0]) | (rw [c12b0]) | (simp [*]; done)), H', ⟨by have := HJ5.out; first | omega | exact Nat.le_refl _⟩, ⟨zaB⟩⟩
   case rest =>
    clear HC11
    try clear c8b0
    try clear c8b1
    try clear c12b0
    try clear c12b1
    try clear c12b2
    obtain ⟨kq, x22_10, rfl, rfl, HA, HJ10, HB⟩ := hcut
    cases kq with
    | zero => exact absurd HA.out (by simp [span_above_1.j1])
    | succ kj10 =>
     have H := HA.out
     clear HA
     simp only [span_above_1.j1] at H
     by_cases c14 : x22_10 = true
     ·subst c14
      replace H := zit H
      obtain ⟨t931, A15, H⟩ := zbs H
      try dsimp only at H
      obtain rfl := Option.some.inj H
      go_wp2_with (first | ((with_reducible refine gtc 79 rfl ?_); refine zgL 29 Try.func79 (pattern_Inf.calls kj10 ((a0 / 9223372036854775808) == 1) t931 _ A15.out) (h := ?_); rintro w' ⟨nd, rfl⟩))
      go_ret
      exact ⟨zaE, zaB⟩
     replace c14 := Bool.eq_false_iff.mpr c14
     subst c14
     replace H := zif H
     obtain ⟨⟨t932, t933⟩, A16, H⟩ := zbs H
     try dsimp only at H
     obtain rfl := Option.some.inj H
     go_wp2_with (first | ((with_reducible refine gtc 27 rfl ?_); refine zgL 34 Try.func27 (soft_Div.calls kj10 a0 a1 a2 t932 t933 _ A16.out) (h := ?_); rintro w17 hb; replace HB := Aside0.mk (below_step zaB hb); (try clear hb)))
     go_ret
     exact ⟨zaE, zaB⟩
def span_above_corners.T8 : Bool × List (List Nat × List Nat) := (true, [([], []), ([], []), ([], []), ([], []), ([1, 2, 3], [1, 2, 3]), ([], []), ([], []), ([], []), ([5, 6, 7, 4], [5, 6, 7]), ([4, 8, 8], [4, 8]), ([0, 9], [0, 9]), ([10, 9], [10]), ([11, 11, 0, 1, 2, 3, 4, 5, 6, 7, 8, 9, 10, 11], [11])])
def span_above_corners.B8 : List Nat := [0, 0, 0, 0, 14, 0, 0, 0, 254, 510, 1023, 2047, 4095]
theorem span_above_corners.tab8 : rtab .any (opsOf Try.f136 8) = span_above_corners.T8 := by kernel_rfl
theorem span_above_corners.bits8 : waitsOk span_above_corners.T8.2 span_above_corners.B8 = true := by kernel_rfl
theorem span_above_corners.goes (k : Nat) (a0_0 : Bool) (a0_1 : Int) (a0_2 : Int) (a1_0 : Bool) (a1_1 : Int) (a1_2 : Int) (a2 : Int) (r1 : Bool) (r2 : Int) (r3 : Int) (w : World) (h : span_above_corners.f k a0_0 a0_1 a0_2 a1_0 a1_1 a1_2 a2 = some (r1, r2, r3)) :
  Calls Try.prog 136 #[.agg #[.bool a0_0, .int .u64 a0_1, .int .u64 a0_2], .agg #[.bool a1_0, .int .u64 a1_1, .int .u64 a1_2], .func (.func 173) #[] #[]] w fun e w' => e = .returned (.agg #[.bool r1, .int .u64 r2, .int .u64 r3]) ∧ Below w.heap.size w w' := by
 have hu_ := Try.underlying43
 have HB := Aside0.mk (Below.refl w.heap.size w)
 have H := h
 unfold span_above_corners.f at H
 clear h
 obtain ⟨⟨t933, t934, t935⟩, A4, H⟩ := zbs H
 try dsimp only at H
 obtain ⟨y937, hy937⟩ : ∃ y_ : List Int, y_ = (([a0_1, a0_2] : List Int)) := ⟨_, rfl⟩
 replace H : (span_above_corners.l0 k y937 (y937.length : Int) 0 a1_0 a1_1 a1_2 t933 t934 t935) = some (r1, r2, r3) := by first | (rw [hy937]; with_reducible exact H) | (have H2_ := (Option.bind_some _ _).symm.trans H; rw [hy937]; with_reducible exact H2_) | (have H2_ := (Option.bind_some _ _).symm.trans H; with_reducible exact H2_) | with_reducible exact H | (rw [hy937]; exact H) | exact H
 have Ny937 := Aside0.mk hy937
 clear hy937
 have H' := Aside0.mk H
 clear H
 go_enter Try.func136, Try.ntmps136
 go_wp2_with (first | ((with_reducible refine gtd 3 rfl ?_); refine zbx 3 #[.bool a0_0, .int .u64 a0_1, .int .u64 a0_2] 43 (h := ?_); intro gb930 hg w5 hbox hb; have GW930 := zkZ hg (zaB (p := Below w.heap.size w _)); replace HB := Aside0.mk (below_step zaB hb); have BK930 := Aside0.mk (hbox); clear hb hbox hg) | ((with_reducible refine gtd 4 rfl ?_); refine zbx 4 #[.bool a1_0, .int .u64 a1_1, .int .u64 a1_2] 43 (h := ?_); intro gb931 hg w6 hbox hb; refine zbn1 HB BK930 hg hb hbox (c := ?_); clear HB BK930 hb hbox hg; intro GW931 NB930_931 BK930 HB BK931) | ((with_reducible refine gtd 6 rfl ?_); refine zbx 6 #[.bool false, .int .u64 0, .int .u64 0] 43 (h := ?_); intro gb932 hg w7 hbox hb; refine zbn2 HB BK930 BK931 hg hb hbox (c := ?_); clear HB BK930 BK931 hb hbox hg; intro GW932 NB930_932 NB931_932 BK930 BK931 HB BK932) | ((with_reducible refine gtc 118 rfl ?_); refine zgL 12 Try.func118 (span_none.calls  t933 t934 t935 _ A4.out) (h := ?_); rintro w8 hb; refine zcn3 HB BK930 BK931 BK932 hb (c := ?_); clear HB BK930 BK931 BK932 hb; intro BK930 BK931 BK932 HB) | ((with_reducible refine gtd 7 rfl ?_); refine zbx 7 #[.bool false, .int .u64 0, .int .u64 0] 43 (h := ?_); intro gb936 hg w9 hbox hb; refine zbn3 HB BK930 BK931 BK932 hg hb hbox (c := ?_); clear HB BK930 BK931 BK932 hb hbox hg; intro GW936 NB930_936 NB931_936 NB932_936 BK930 BK931 BK932 HB BK936; refine zt3 NB930_936 NB931_936 NB932_936 fun _ _ _ _ _ _ => ?_; refine zu3 BK936 fun z13_0 z13_1 z13_2 f13_0 f13_1 f13_2 => ?_; refine zt2 NB930_931 NB930_932 fun _ _ _ _ => ?_; refine zu3 BK930 fun z16_0 z16_1 z16_2 f16_0 f16_1 f16_2 => ?_) | ((with_reducible refine gtd 17 rfl ?_); refine Kd.R_lit (Kd.int .u64) _ 23 ?hg (N := 17) ?hd (xs := ([a0_1, a0_2] : List Int)) (inner := [.int .u64 a0_1, .int .u64 a0_2]) (ok := fun _ => True) (okp := fun _ => True) ?hr ?hp (fun _ hk => hk) trivial (Below.refl _ _) (Nat.le_refl _) (by simp) ?_; (case hd => rfl); (case hg => rfl); (case hr => first | (go_simp; done) | (go_simp; rfl)); (case hp => exact (Reps.one (show Kd.M (Kd.int .u64) _ _ _ a0_1 [.int .u64 a0_1] from rfl) (Reps.one (show Kd.M (Kd.int .u64) _ _ _ a0_2 [.int .u64 a0_2] from rfl) (Reps.none _ _)))); intro v938 w17 ho18 hb hg_ hnew_; clear hg_ hnew_; (first | rw [← Ny937.out] at ho18 | (simp only [Int.reduceToNat] at ho18; rw [← Ny937.out] at ho18)); have HO939 := Aside0.mk (Kd.R_lower ho18 (below_size zaB)); replace BK930 := Aside0.mk (blk_below (zkf (zkf (zkf BK930.out NB930_936.out _) NB930_936.out _) NB930_936.out _) hb); replace BK931 := Aside0.mk (blk_below (zkf (zkf (zkf BK931.out NB931_936.out _) NB931_936.out _) NB931_936.out _) hb); replace BK932 := Aside0.mk (blk_below (zkf (zkf (zkf BK932.out NB932_936.out _) NB932_936.out _) NB932_936.out _) hb); replace BK936 := Aside0.mk (blk_below (o := .cells #[.bool t933, .int .u64 t934, .int .u64 t935] 43 (0, 0)) (blk_put (cs := #[.bool t933, .int .u64 t934, .int .u64 0]) (blk_put (cs := #[.bool t933, .int .u64 0, .int .u64 0]) (blk_put BK936.out 0 _ rfl) 1 _ rfl) 2 _ rfl) hb); replace HB := Aside0.mk (below_step (below_set (below_set (below_set HB.out GW936.out) GW936.out) GW936.out) hb); clear hb ho18; obtain ⟨Ao19, co19, eo19⟩ := Kd.R_slice HO939.out; subst eo19))
 (try simp only [Act.put, List.setIfInBounds_toArray, List.set_cons_zero, List.set_cons_succ])
 (try simp only [Act.put, List.setIfInBounds_toArray, List.set_cons_zero, List.set_cons_succ])
 go_loopg [19] k (fun kq v19 w' => ∃ (x19_1 : Int) (x937000_1 : Bool) (x937001_1 : Int) (x937002_1 : Int), v19 = .int .i64 x19_1 ∧ Aside0 (span_above_corners.l0 kq y937 (y937.length : Int) x19_1 a1_0 a1_1 a1_2 x937000_1 x937001_1 x937002_1 = some (r1, r2, r3)) ∧ Aside0 (kq ≤ k) ∧ Aside0 (Kd.R (Kd.int .u64) 23 w' w.heap.size (fun _ => True) (.slice Ao19 y937.length co19) y937) ∧ Aside0 (w'.heap[gb930]? = some (.cells #[.bool a0_0, .int .u64 a0_1, .int .u64 a0_2] 43 (0, 0))) ∧ Aside0 (w'.heap[gb931]? = some (.cells #[.bool a1_0, .int .u64 a1_1, .int .u64 a1_2] 43 (0, 0))) ∧ Aside0 (w'.heap[gb932]? = some (.cells #[.bool false, .int .u64 0, .int .u64 0] 43 (0, 0))) ∧ Aside0 (w'.heap[gb936]? = some (.cells #[.bool x937000_1, .int .u64 x937001_1, .int .u64 x937002_1] 43 (0, 0))) ∧ Aside0 (Below w.heap.size w w'))
 case atStart => exact ⟨(0), (t933), (t934), (t935), zrl, H', ⟨Nat.le_refl _⟩, ⟨by (with_reducible repeat (first | apply Kd.R_alloc | apply Kd.R_drewN | apply Kd.R_drew)); exact HO939.out⟩, ⟨zkq BK930⟩, ⟨zkq BK931⟩, ⟨zkq BK932⟩, ⟨zkq BK936⟩, ⟨zaB⟩⟩
 case round =>
  clear H'
  try clear z13_0 z13_1 z13_2 f13_0 f13_1 f13_2
  try clear z16_0 z16_1 z16_2 f16_0 f16_1 f16_2
  obtain ⟨x19_1, x937000_1, x937001_1, x937002_1, rfl, HA, HK1, HO_17, BK930, BK931, BK932, BK936, HB⟩ := hrel
  cases gk with
  | zero => exact absurd HA.out (by simp [span_above_corners.l0])
  | succ k1 =>
   have H := HA.out
   clear HA
   simp only [span_above_corners.l0] at H
   by_cases c20 : x19_1 < (y937.length : Int)
   ·rw [if_pos c20] at H
    have c20b0 : decide (x19_1 < (y937.length : Int)) = true := decide_eq_true c20
    clear c20
    by_cases c21 : 0 ≤ x19_1
    ·rw [if_pos c21] at H
     have c21b0 : decide (0 ≤ x19_1) = true := decide_eq_true c21
     clear c21
     by_cases c22 : x19_1 < (y937.length : Int)
     ·rw [if_pos c22] at H
      have c22b0 : decide (x19_1 < (y937.length : Int)) = true := decide_eq_true c22
      clear c22
      obtain ⟨y941, hy941⟩ : ∃ y_ : List Int, y_ = (([a1_1, a1_2] : List Int)) := ⟨_, rfl⟩
      replace H : (span_above_corners.l1 k1 (rd y937 x19_1) y937 (y937.length : Int) x19_1 y941 (y941.length : Int) 0 a1_0 a1_1 a1_2 x937000_1 x937001_1 x937002_1) = some (r1, r2, r3) := by first | (rw [hy941]; with_reducible exact H) | (have H2_ := (Option.bind_some _ _).symm.trans H; rw [hy941]; with_reducible exact H2_) | (have H2_ := (Option.bind_some _ _).symm.trans H; with_reducible exact H2_) | with_reducible exact H | (rw [hy941]; exact H) | exact H
      have Ny941 := Aside0.mk hy941
      clear hy941
      have H' := Aside0.mk H
      clear H
      have p940 : 0 ≤ (x19_1 : Int) := of_decide_eq_true (by first | (with_reducible assumption) | assumption)
      have q940 : x19_1 < (y937.length : Int) := of_decide_eq_true (by first | (with_reducible assumption) | assumption)
      obtain ⟨ad940, e940, hx940_0⟩ := Kd.at_int (Kd.R_reads' HO_17.out).2.2 x19_1 p940 q940
      cases e940
      replace p940 := eq_true p940
      replace q940 := eq_true q940
      refine zt3 NB930_931 NB931_932 NB931_936 fun _ _ _ _ _ _ => ?_
      refine zu3 BK931 fun z26_0 z26_1 z26_2 f26_0 f26_1 f26_2 => ?_
      go_wp2_with (first | ((with_reducible refine gtd 27 rfl ?_); refine Kd.R_lit (Kd.int .u64) _ 23 ?hg (N := 27) ?hd (xs := ([a1_1, a1_2] : List Int)) (inner := [.int .u64 a1_1, .int .u64 a1_2]) (ok := fun _ => True) (okp := fun _ => True) ?hr ?hp (fun _ hk => hk) trivial (Below.refl _ _) (Nat.le_refl _) (by simp) ?_; (case hd => rfl); (case hg => rfl); (case hr => first | (go_simp; done) | (go_simp; rfl)); (case hp => exact (Reps.one (show Kd.M (Kd.int .u64) _ _ _ a1_1 [.int .u64 a1_1] from rfl) (Reps.one (show Kd.M (Kd.int .u64) _ _ _ a1_2 [.int .u64 a1_2] from rfl) (Reps.none _ _)))); intro v942 w27 ho28 hb hg_ hnew_; clear hg_ hnew_; (first | rw [← Ny941.out] at ho28 | (simp only [Int.reduceToNat] at ho28; rw [← Ny941.out] at ho28)); have HO943 := Aside0.mk (Kd.R_lower (Kd.R_new' ho28 (Kd.R_lt (zRW HO_17.out))) (below_size zaB)); replace HO_17 := Aside0.mk (Kd.R_elder' (zRW HO_17.out) (Kd.R_base ho28) hb); replace BK930 := zkb BK930 hb; replace BK931 := zkb BK931 hb; replace BK932 := zkb BK932 hb; replace BK936 := zkb BK936 hb; replace HB := zkB HB hb; clear hb ho28; obtain ⟨Ao29, co29, eo29⟩ := Kd.R_slice HO943.out; subst eo29))
      (try simp only [Act.put, List.setIfInBounds_toArray, List.set_cons_zero, List.set_cons_succ])
      (try simp only [Act.put, List.setIfInBounds_toArray, List.set_cons_zero, List.set_cons_succ])
      go_loopg [29] k1 (fun kq v29 w' => ∃ (x29_2 : Int) (x937000_2 : Bool) (x937001_2 : Int) (x937002_2 : Int), v29 = .int .i64 x29_2 ∧ Aside0 (span_above_corners.l1 kq (rd y937 x19_1) y937 (y937.length : Int) x19_1 y941 (y941.length : Int) x29_2 a1_0 a1_1 a1_2 x937000_2 x937001_2 x937002_2 = some (r1, r2, r3)) ∧ Aside0 (kq ≤ k1) ∧ Aside0 (Kd.R (Kd.int .u64) 23 w' w.heap.size (fun k_ => some k_ ≠ ((.slice Ao29 y941.length co29) : Value).ownBlock) (.slice (some ad940) y937.length co19) y937) ∧ Aside0 (Kd.R (Kd.int .u64) 23 w' w.heap.size (fun k_ => some k_ ≠ ((.slice (some ad940) y937.length co19) : Value).ownBlock) (.slice Ao29 y941.length co29) y941) ∧ Aside0 (w'.heap[gb930]? = some (.cells #[.bool a0_0, .int .u64 a0_1, .int .u64 a0_2] 43 (0, 0))) ∧ Aside0 (w'.heap[gb931]? = some (.cells #[.bool a1_0, .int .u64 a1_1, .int .u64 a1_2] 43 (0, 0))) ∧ Aside0 (w'.heap[gb932]? = some (.cells #[.bool false, .int .u64 0, .int .u64 0] 43 (0, 0))) ∧ Aside0 (w'.heap[gb936]? = some (.cells #[.bool x937000_2, .int .u64 x937001_2, .int .u64 x937002_2] 43 (0, 0))) ∧ Aside0 (Below w.heap.size w w'))
      case atStart => exact ⟨(0), (x937000_1), (x937001_1), (x937002_1), zrl, H', ⟨Nat.le_refl _⟩, ⟨by (with_reducible repeat (first | apply Kd.R_alloc | apply Kd.R_drewN | apply Kd.R_drew)); exact Kd.R_mono HO_17.out (fun _ hk => hk.2)⟩, ⟨by (with_reducible repeat (first | apply Kd.R_alloc | apply Kd.R_drewN | apply Kd.R_drew)); exact Kd.R_mono HO943.out (fun _ hk => hk.2)⟩, ⟨zkq BK930⟩, ⟨zkq BK931⟩, ⟨zkq BK932⟩, ⟨zkq BK936⟩, ⟨zaB⟩⟩
      case round =>
       clear H'
       try clear q9
       try clear hx9
       try clear c20b0
       try clear c21b0
       try clear c22b0
       try clear z13_0 z13_1 z13_2 f13_0 f13_1 f13_2
       try clear z16_0 z16_1 z16_2 f16_0 f16_1 f16_2
       try clear z26_0 z26_1 z26_2 f26_0 f26_1 f26_2
       try clear hx940_0
       try clear q940
       obtain ⟨x29_2, x937000_2, x937001_2, x937002_2, rfl, HA, HK2, HO_17, HO_27, BK930, BK931, BK932, BK936, HB⟩ := hrel
       cases gk with
       | zero => exact absurd HA.out (by simp [span_above_corners.l1])
       | succ k2 =>
        have H := HA.out
        clear HA
        simp only [span_above_corners.l1] at H
        by_cases c30 : x29_2 < (y941.length : Int)
        ·rw [if_pos c30] at H
         have c30b0 : decide (x29_2 < (y941.length : Int)) = true := decide_eq_true c30
         clear c30
         by_cases c31 : 0 ≤ x29_2
         ·rw [if_pos c31] at H
          have c31b0 : decide (0 ≤ x29_2) = true := decide_eq_true c31
          clear c31
          by_cases c32 : x29_2 < (y941.length : Int)
          ·rw [if_pos c32] at H
           have c32b0 : decide (x29_2 < (y941.length : Int)) = true := decide_eq_true c32
           clear c32
           obtain ⟨t945, A33, H⟩ := zbs H
           try dsimp only at H
           obtain ⟨t946, A34, H⟩ := zbs H
           try dsimp only at H
           obtain ⟨⟨t947, t948, t949⟩, A35, H⟩ := zbs H
           try dsimp only at H
           obtain ⟨y950, hy950⟩ : ∃ y_ : List (S43), y_ = (([(⟨x937000_2, x937001_2, x937002_2⟩ : S43), (⟨t947, t948, t949⟩ : S43)] : List (S43))) := ⟨_, rfl⟩
           replace H : ((span_Join.f k2 y950).bind fun bt953 => (span_above_corners.l1 k2 (rd y937 x19_1) y937 (y937.length : Int) x19_1 y941 (y941.length : Int) (wrap64 (x29_2 + 1)) a1_0 a1_1 a1_2 bt953.1 bt953.2.1 bt953.2.2)) = some (r1, r2, r3) := by first | (rw [hy950]; with_reducible exact H) | (have H2_ := (Option.bind_some _ _).symm.trans H; rw [hy950]; with_reducible exact H2_) | (have H2_ := (Option.bind_some _ _).symm.trans H; with_reducible exact H2_) | with_reducible exact H | (rw [hy950]; exact H) | exact H
           have Ny950 := Aside0.mk hy950
           clear hy950
           obtain ⟨⟨t953, t954, t955⟩, A36, H⟩ := zbs H
           try dsimp only at H
           have H' := Aside0.mk H
           clear H
           have p944 : 0 ≤ (x29_2 : Int) := of_decide_eq_true (by first | (with_reducible assumption) | assumption)
           have q944 : x29_2 < (y941.length : Int) := of_decide_eq_true (by first | (with_reducible assumption) | assumption)
           obtain ⟨ad944, e944, hx944_0⟩ := Kd.at_int (Kd.R_reads' HO_27.out).2.2 x29_2 p944 q944
           cases e944
           replace p944 := eq_true p944
           replace q944 := eq_true q944
           try go_wp2
           replace HO_17 := Aside0.mk (Kd.R_drew HO_17.out)
           replace HO_27 := Aside0.mk (Kd.R_drew HO_27.out)
           replace BK930 := Aside0.mk (blk_drew BK930.out)
           replace BK931 := Aside0.mk (blk_drew BK931.out)
           replace BK932 := Aside0.mk (blk_drew BK932.out)
           replace BK936 := Aside0.mk (blk_drew BK936.out)
           replace HB := Aside0.mk (below_drew1 HB.out)
           refine start_ (n := 13) (S := fun w' => w'.cell? ⟨gb936, 0, none⟩ = some (.bool x937000_2) ∧ w'.cell? ⟨gb936, 1, none⟩ = some (.int .u64 x937001_2) ∧ w'.cell? ⟨gb936, 2, none⟩ = some (.int .u64 x937002_2)) (ds := [12]) #[false, false, false, false, false, false, false, false, false, false, false, false, false] (by kernel_rfl) rfl rfl (ze3 BK936) (fun hHeld => ?_); refine with_tabW span_above_corners.tab8 span_above_corners.bits8 (fun HT_ HW_ => ?_)
           generalize wr.drew = w37 at HO_17 HO_27 BK930 BK931 BK932 BK936 HB hHeld ⊢
           refine zpA 1 34 (h := ?_)
           refine zpA 2 35 (h := ?_)
           refine zpA 3 36 (h := ?_)
           refine zpA 5 38 (h := ?_)
           refine zpA 6 39 (h := ?_)
           refine zpA 7 40 (h := ?_)
           refine ztA 0 33 (h := ?_)
           refine zoA 4 37 (h := fun K hK => ?_)
           refine zgW Try.func173 (span_above_1.calls k2 (rd y937 x19_1) (rd y941 x29_2) 2 t945 _ A33.out) (h := ?_)
           rintro w38 hb
           replace HO_17 := Aside0.mk (Kd.R_below (zRW HO_17.out) hb)
           replace HO_27 := Aside0.mk (Kd.R_below (zRW HO_27.out) hb)
           refine zcn4 HB BK930 BK931 BK932 BK936 hb (c := ?_)
           clear HB BK930 BK931 BK932 BK936 hb
           intro BK930 BK931 BK932 BK936 HB
           refine hK.out _ _ (ze3 BK936) (fun hHeld => ?_)
           clear hK K
           refine znA 37 (h := ?_)
           refine zoA 8 41 (h := fun K hK => ?_)
           refine zgW Try.func173 (span_above_1.calls k2 (rd y937 x19_1) (rd y941 x29_2) 1 t946 _ A34.out) (h := ?_)
           rintro w39 hb
           replace HO_17 := Aside0.mk (Kd.R_below (zRW HO_17.out) hb)
           replace HO_27 := Aside0.mk (Kd.R_below (zRW HO_27.out) hb)
           refine zcn4 HB BK930 BK931 BK932 BK936 hb (c := ?_)
           clear HB BK930 BK931 BK932 BK936 hb
           intro BK930 BK931 BK932 BK936 HB
           refine hK.out _ _ (ze3 BK936) (fun hHeld => ?_)
           clear hK K
           refine znA 41 (h := ?_)
           refine zoA 9 42 (h := fun K hK => ?_)
           refine zgA Try.func172 (span_outer.calls k2 t945 t946 t947 t948 t949 _ A35.out) (h := ?_)
           rintro w40 hb
           replace HO_17 := Aside0.mk (Kd.R_below (zRW HO_17.out) hb)
           replace HO_27 := Aside0.mk (Kd.R_below (zRW HO_27.out) hb)
           refine zcn4 HB BK930 BK931 BK932 BK936 hb (c := ?_)
           clear HB BK930 BK931 BK932 BK936 hb
           intro BK930 BK931 BK932 BK936 HB
           refine hK.out _ _ (ze3 BK936) (fun hHeld => ?_)
           clear hK K
           refine znA 42 (h := ?_)
           refine zoA 10 43 (h := fun K hK => ?_)
           refine Kd.R_lit_step k43 _ 43 ?hg (N := 43) ?hd (xs := ([(⟨x937000_2, x937001_2, x937002_2⟩ : S43), (⟨t947, t948, t949⟩ : S43)] : List (S43))) (inner := [.bool x937000_2, .int .u64 x937001_2, .int .u64 x937002_2, .bool t947, .int .u64 t948, .int .u64 t949]) (ok := fun _ => True) (okp := fun _ => True) ?hr ?hp (fun _ hk => hk) trivial (Below.refl _ _) (Nat.le_refl _) (by simp) ?_; (case hd => rfl); (case hg => rfl); (case hr => first | (go_simp; done) | (go_simp; rfl)); (case hp => exact (Reps.c3 (show Kd.M k43 _ _ _ (⟨x937000_2, x937001_2, x937002_2⟩ : S43) [.bool x937000_2, .int .u64 x937001_2, .int .u64 x937002_2] from (k43_mkM _ _ _ (⟨x937000_2, x937001_2, x937002_2⟩ : S43) )) (Reps.c3 (show Kd.M k43 _ _ _ (⟨t947, t948, t949⟩ : S43) [.bool t947, .int .u64 t948, .int .u64 t949] from (k43_mkM _ _ _ (⟨t947, t948, t949⟩ : S43) )) (Reps.none _ _))))
           intro v951 w41 ho42 hb hg_ hnew_
           clear hg_ hnew_
           (first | rw [← Ny950.out] at ho42 | (simp only [Int.reduceToNat] at ho42; rw [← Ny950.out] at ho42))
           replace HO_17 := Aside0.mk (Kd.R_below (zRW HO_17.out) hb)
           replace HO_27 := Aside0.mk (Kd.R_below (zRW HO_27.out) hb)
           have HO952 := Aside0.mk (Kd.R_lower (Kd.R_newB (Kd.R_newB (Kd.R_newB (Kd.R_newB ho42 (g := gb930) (o := .cells #[.bool a0_0, .int .u64 a0_1, .int .u64 a0_2] 43 (0, 0)) (zkq BK930)) (g := gb931) (o := .cells #[.bool a1_0, .int .u64 a1_1, .int .u64 a1_2] 43 (0, 0)) (zkq BK931)) (g := gb932) (o := .cells #[.bool false, .int .u64 0, .int .u64 0] 43 (0, 0)) (zkq BK932)) (g := gb936) (o := .cells #[.bool x937000_2, .int .u64 x937001_2, .int .u64 x937002_2] 43 (0, 0)) (zkq BK936)) (below_size zaB))
           replace BK930 := zkb BK930 hb
           replace BK931 := zkb BK931 hb
           replace BK932 := zkb BK932 hb
           replace BK936 := zkb BK936 hb
           replace HB := zkB HB hb
           clear hb ho42
           obtain ⟨Ao43, co43, eo43⟩ := Kd.R_slice HO952.out
           (first | subst eo43 | (injection eo43 with f1_ f2_ f3_; have f4_ := f1_.symm; have f5_ := f3_.symm; clear f1_ f2_ f3_; subst f4_; subst f5_))
           refine hK.out _ _ (ze3 BK936) (fun hHeld => ?_)
           clear hK K
           refine znA 43 (h := ?_)
           refine zoA 11 44 (h := fun K hK => ?_)
           refine goes_ Try.func45 (by kernel_rfl) rfl #[.slice Ao43 y950.length co43] (by rfl) rfl rfl (by (try simp only [List.map_toArray, List.map_cons, List.map_nil]); first | done | rfl | (simp only [List.length_drop, List.length_take]; rfl)) ?_
           with_reducible refine (span_Join.calls k2 _ _ y950 t953 t954 t955 _ ?side1 ?side2 A36.out).mono ?_
           (case side1 => repeat (first | exact (Kd.R_reads' HO952.out).2.2 | (with_reducible refine Kd.C_alloc ?_ _) | (with_reducible refine Kd.C_drewN ?_ _) | (with_reducible refine Kd.C_drew ?_)))
           (case side2 => exact (Kd.R_reads' HO952.out).2.1)
           rintro e w44 ⟨rfl, hb⟩
           refine ⟨_, rfl, ?_⟩
           replace HO_17 := Aside0.mk (Kd.R_below (zRW HO_17.out) hb)
           replace HO_27 := Aside0.mk (Kd.R_below (zRW HO_27.out) hb)
           replace HO952 := Aside0.mk (Kd.R_below (zRW HO952.out) hb)
           refine zcn4 HB BK930 BK931 BK932 BK936 hb (c := ?_)
           clear HB BK930 BK931 BK932 BK936 hb
           intro BK930 BK931 BK932 BK936 HB
           refine hK.out _ _ (ze3 BK936) (fun hHeld => ?_)
           clear hK K
           refine znA 44 (h := ?_)
           refine last_ (i := 12) (N := none) #[true, true, true, true, true, true, true, true, true, true, true, true, true] rfl rfl (one_of HT_.out (by kernel_rfl)) (by decide) (fun K hK => ?_)
           have hs45 := zc0 BK936
           have hfs45 := blk_frozen BK936.out 0
           refine zt3 NB930_936 NB931_936 NB932_936 fun _ _ _ _ _ _ => ?_
           have hs46 := zc1 BK936
           have hfs46 := blk_frozen BK936.out 1
           refine zt3 NB930_936 NB931_936 NB932_936 fun _ _ _ _ _ _ => ?_
           have hs47 := zc2 BK936
           have hfs47 := blk_frozen BK936.out 2
           refine zt3 NB930_936 NB931_936 NB932_936 fun _ _ _ _ _ _ => ?_
           refine skip_ (w1 := ?_) (by rfl) rfl ?_ ?_
           rotate_left
           ·go_simp
            rfl
           refine hK.out _ _ ?_
           clear hK K
           refine done_ (done_of HT_.out (by kernel_rfl)) ?_
           try go_wp2
           go_roundg k2
           case measure => have := HK1.out; have := HK2.out; omega
           case rel => exact ⟨(wrap64 (x29_2 + 1)), (t953), (t954), (t955), zrl, H', ⟨by have := HK1.out; have := HK2.out; omega⟩, ⟨by (with_reducible repeat (first | apply Kd.R_alloc | apply Kd.R_drewN | apply Kd.R_drew)); exact Kd.R_mono (Kd.R_far (p := ⟨gb936, 2, none⟩) (Kd.R_far (p := ⟨gb936, 1, none⟩) (Kd.R_far (p := ⟨gb936, 0, none⟩) (Kd.R_types HO_17.out BK936.out (by decide)) (fun _ hk => hk.2) (.bool t953)) (fun _ hk => hk.2) (.int .u64 t954)) (fun _ hk => hk.2) (.int .u64 t955)) (fun _ hk => hk.1)⟩, ⟨by (with_reducible repeat (first | apply Kd.R_alloc | apply Kd.R_drewN | apply Kd.R_drew)); exact Kd.R_mono (Kd.R_far (p := ⟨gb936, 2, none⟩) (Kd.R_far (p := ⟨gb936, 1, none⟩) (Kd.R_far (p := ⟨gb936, 0, none⟩) (Kd.R_types HO_27.out BK936.out (by decide)) (fun _ hk => hk.2) (.bool t953)) (fun _ hk => hk.2) (.int .u64 t954)) (fun _ hk => hk.2) (.int .u64 t955)) (fun _ hk => hk.1)⟩, ⟨(zkf (zkf (zkf (zkq BK930) NB930_936.out _) NB930_936.out _) NB930_936.out _)⟩, ⟨(zkf (zkf (zkf (zkq BK931) NB931_936.out _) NB931_936.out _) NB931_936.out _)⟩, ⟨(zkf (zkf (zkf (zkq BK932) NB932_936.out _) NB932_936.out _) NB932_936.out _)⟩, ⟨(blk_put (cs := #[.bool t953, .int .u64 t954, .int .u64 x937002_2]) (blk_put (cs := #[.bool t953, .int .u64 x937001_2, .int .u64 x937002_2]) (blk_put (zkq BK936) 0 _ rfl) 1 _ rfl) 2 _ rfl)⟩, ⟨zaB⟩⟩
          rw [if_neg c32] at H
          exact absurd H (by simp)
         rw [if_neg c31] at H
         exact absurd H (by simp)
        rw [if_neg c30] at H
        have c30b0 : decide (x29_2 < (y941.length : Int)) = false := decide_eq_false c30
        clear c30
        have H' := Aside0.mk H
        clear H
        go_wp2
        go_roundg k2
        case measure => have := HK1.out; have := HK2.out; omega
        case rel => exact ⟨(wrap64 (x19_1 + 1)), (x937000_2), (x937001_2), (x937002_2), zrl, H', ⟨by have := HK1.out; have := HK2.out; omega⟩, ⟨by (with_reducible repeat (first | apply Kd.R_alloc | apply Kd.R_drewN | apply Kd.R_drew)); exact Kd.R_mono HO_17.out (fun _ hk => trivial)⟩, ⟨zkq BK930⟩, ⟨zkq BK931⟩, ⟨zkq BK932⟩, ⟨zkq BK936⟩, ⟨zaB⟩⟩
     rw [if_neg c22] at H
     exact absurd H (by simp)
    rw [if_neg c21] at H
    exact absurd H (by simp)
   rw [if_neg c20] at H
   have c20b0 : decide (x19_1 < (y937.length : Int)) = false := decide_eq_false c20
   clear c20
   simp only [Option.some.injEq, Prod.mk.injEq] at H
   obtain ⟨rfl, rfl, rfl⟩ := H
   refine zt3 NB930_936 NB931_936 NB932_936 fun _ _ _ _ _ _ => ?_
   refine zu3 BK936 fun _ _ _ _ _ _ => ?_
   refine zt2 NB930_932 NB931_932 fun _ _ _ _ => ?_
   refine zu3 BK932 fun _ _ _ _ _ _ => ?_
   go_wp2
   refine bodyPost_ret (results_cell_row rfl _ _ gb932 43 #[.bool x937000_1, .int .u64 x937001_1, .int .u64 x937002_1] (0, 0) _ rfl (blk_put (cs := #[.bool x937000_1, .int .u64 x937001_1, .int .u64 0]) (blk_put (cs := #[.bool x937000_1, .int .u64 0, .int .u64 0]) (blk_put (zkq BK932) 0 _ rfl) 1 _ rfl) 2 _ rfl) Try.underlying43 rfl (by kernel_rfl)) rfl ?_
   exact ⟨zaE, zaB⟩
theorem span_above.calls (k : Nat) (a0_0 : Bool) (a0_1 : Int) (a0_2 : Int) (a1_0 : Bool) (a1_1 : Int) (a1_2 : Int) (r1 : Bool) (r2 : Int) (r3 : Int) (w : World) (h : span_above.f k a0_0 a0_1 a0_2 a1_0 a1_1 a1_2 = some (r1, r2, r3)) :
  Calls Try.prog 139 #[.agg #[.bool a0_0, .int .u64 a0_1, .int .u64 a0_2], .agg #[.bool a1_0, .int .u64 a1_1, .int .u64 a1_2]] w fun e w' => e = .returned (.agg #[.bool r1, .int .u64 r2, .int .u64 r3]) ∧ Below w.heap.size w w' := by
 have hu_ := Try.underlying43
 have HB := Aside0.mk (Below.refl w.heap.size w)
 have H := h
 unfold span_above.f at H
 clear h
 obtain ⟨⟨t971, t972, t973⟩, A3, H⟩ := zbs H
 try dsimp only at H
 simp only [Option.some.injEq, Prod.mk.injEq] at H
 obtain ⟨rfl, rfl, rfl⟩ := H
 go_enter Try.func139, Try.ntmps139
 go_wp2_with (first | ((with_reducible refine gtd 2 rfl ?_); refine zbx 2 #[.bool a0_0, .int .u64 a0_1, .int .u64 a0_2] 43 (h := ?_); intro gb968 hg w4 hbox hb; have GW968 := zkZ hg (zaB (p := Below w.heap.size w _)); replace HB := Aside0.mk (below_step zaB hb); have BK968 := Aside0.mk (hbox); clear hb hbox hg) | ((with_reducible refine gtd 3 rfl ?_); refine zbx 3 #[.bool a1_0, .int .u64 a1_1, .int .u64 a1_2] 43 (h := ?_); intro gb969 hg w5 hbox hb; refine zbn1 HB BK968 hg hb hbox (c := ?_); clear HB BK968 hb hbox hg; intro GW969 NB968_969 BK968 HB BK969) | ((with_reducible refine gtd 4 rfl ?_); refine zbx 4 #[.bool false, .int .u64 0, .int .u64 0] 43 (h := ?_); intro gb970 hg w6 hbox hb; refine zbn2 HB BK968 BK969 hg hb hbox (c := ?_); clear HB BK968 BK969 hb hbox hg; intro GW970 NB968_970 NB969_970 BK968 BK969 HB BK970; refine zt2 NB968_969 NB968_970 fun _ _ _ _ => ?_; refine zu3 BK968 fun _ _ _ _ _ _ => ?_; refine zt1 NB969_970 fun _ _ => ?_; refine zu3 BK969 fun _ _ _ _ _ _ => ?_) | ((with_reducible refine gtc 136 rfl ?_); refine zgL 7 Try.func136 (span_above_corners.goes k a0_0 a0_1 a0_2 a1_0 a1_1 a1_2 0 t971 t972 t973 _ A3.out) (h := ?_); rintro w12 hb; refine zcn3 HB BK968 BK969 BK970 hb (c := ?_); clear HB BK968 BK969 BK970 hb; intro BK968 BK969 BK970 HB; refine zu3 BK970 fun z13_0 z13_1 z13_2 f13_0 f13_1 f13_2 => ?_))
 refine bodyPost_ret (results_cell_row rfl _ _ gb970 43 #[.bool t971, .int .u64 t972, .int .u64 t973] (0, 0) _ rfl (blk_put (cs := #[.bool t971, .int .u64 t972, .int .u64 0]) (blk_put (cs := #[.bool t971, .int .u64 0, .int .u64 0]) (blk_put (zkq BK970) 0 _ rfl) 1 _ rfl) 2 _ rfl) Try.underlying43 rfl (by kernel_rfl)) rfl ?_
 exact ⟨zaE, zaB⟩
def span_Div.T8 : Bool × List (List Nat × List Nat) := (true, [([], []), ([], []), ([], []), ([], []), ([3, 3], [3]), ([2, 4, 4], [2, 4]), ([5, 5], [5]), ([1, 6, 6], [1, 6]), ([7, 7], [7]), ([0, 8], [0, 8]), ([9, 8], [9]), ([10, 10, 0, 1, 2, 3, 4, 5, 6, 7, 8, 9, 10], [10])])
def span_Div.B8 : List Nat := [0, 0, 0, 0, 8, 28, 60, 126, 254, 511, 1023, 2047]
theorem span_Div.tab8 : rtab .any (opsOf Try.f68 8) = span_Div.T8 := by kernel_rfl
theorem span_Div.bits8 : waitsOk span_Div.T8.2 span_Div.B8 = true := by kernel_rfl
theorem span_Div.calls (k : Nat) (a0_0 : Bool) (a0_1 : Int) (a0_2 : Int) (a1_0 : Bool) (a1_1 : Int) (a1_2 : Int) (r1 : Bool) (r2 : Int) (r3 : Int) (w : World) (h : span_Div.f k a0_0 a0_1 a0_2 a1_0 a1_1 a1_2 = some (r1, r2, r3)) :
  Calls Try.prog 68 #[.agg #[.bool a0_0, .int .u64 a0_1, .int .u64 a0_2], .agg #[.bool a1_0, .int .u64 a1_1, .int .u64 a1_2]] w fun e w' => e = .returned (.agg #[.bool r1, .int .u64 r2, .int .u64 r3]) ∧ Below w.heap.size w w' := by
 have hu43 := Try.underlying43
 have HB := Aside0.mk (Below.refl w.heap.size w)
 have H := h
 unfold span_Div.f at H
 clear h
 obtain ⟨⟨t937, t938, t939⟩, A3, H⟩ := zbs H
 try dsimp only at H
 obtain ⟨⟨t940, t941, t942⟩, A4, H⟩ := zbs H
 try dsimp only at H
 have HC5 := Aside0.mk H
 clear H
 go_enter Try.func68, Try.ntmps68
 try go_wp2_with (first | ((with_reducible refine gtd 2 rfl ?_); refine zbx 2 #[.bool a0_0, .int .u64 a0_1, .int .u64 a0_2] 43 (h := ?_); intro gb934 hg w6 hbox hb; have GW934 := zkZ hg (zaB (p := Below w.heap.size w _)); replace HB := Aside0.mk (below_step zaB hb); have BK934 := Aside0.mk (hbox); clear hb hbox hg) | ((with_reducible refine gtd 3 rfl ?_); refine zbx 3 #[.bool a1_0, .int .u64 a1_1, .int .u64 a1_2] 43 (h := ?_); intro gb935 hg w7 hbox hb; refine zbn1 HB BK934 hg hb hbox (c := ?_); clear HB BK934 hb hbox hg; intro GW935 NB934_935 BK934 HB BK935) | ((with_reducible refine gtd 4 rfl ?_); refine zbx 4 #[.bool false, .int .u64 0, .int .u64 0] 43 (h := ?_); intro gb936 hg w8 hbox hb; refine zbn2 HB BK934 BK935 hg hb hbox (c := ?_); clear HB BK934 BK935 hb hbox hg; intro GW936 NB934_936 NB935_936 BK934 BK935 HB BK936))
 (try (rw [drewN_self w8]; generalize hq_ : World.drewN w8 _ = w8; replace BK934 := zkg hq_ (zkq BK934); replace BK935 := zkg hq_ (zkq BK935); replace BK936 := zkg hq_ (zkq BK936); replace HB := zkG hq_ (pw_below_drewN HB.out _); clear hq_))
 replace BK934 := Aside0.mk (blk_drew BK934.out)
 replace BK935 := Aside0.mk (blk_drew BK935.out)
 replace BK936 := Aside0.mk (blk_drew BK936.out)
 replace HB := Aside0.mk (below_drew1 HB.out)
 refine start_ (n := 6) (S := fun w' => w'.cell? ⟨gb934, 0, none⟩ = some (.bool a0_0) ∧ w'.cell? ⟨gb934, 1, none⟩ = some (.int .u64 a0_1) ∧ w'.cell? ⟨gb934, 2, none⟩ = some (.int .u64 a0_2) ∧ w'.cell? ⟨gb935, 0, none⟩ = some (.bool a1_0) ∧ w'.cell? ⟨gb935, 1, none⟩ = some (.int .u64 a1_1) ∧ w'.cell? ⟨gb935, 2, none⟩ = some (.int .u64 a1_2)) (ds := [4, 5]) #[false, false, false, false, false, false] (by kernel_rfl) rfl rfl (zk3 BK934 (ze3 BK935)) (fun hHeld => ?_)
 generalize w8.drew = w9 at BK934 BK935 BK936 HB hHeld ⊢
 refine ztA 0 6 (h := ?_)
 refine ztA 2 8 (h := ?_)
 refine zoA 1 7 (h := fun K hK => ?_)
 refine zgA Try.func112 (span_norm.calls k a0_0 a0_1 a0_2 t937 t938 t939 _ A3.out) (h := ?_)
 rintro w10 hb
 refine zcn3 HB BK934 BK935 BK936 hb (c := ?_)
 clear HB BK934 BK935 BK936 hb
 intro BK934 BK935 BK936 HB
 refine hK.out _ _ (zk3 BK934 (ze3 BK935)) (fun hHeld => ?_)
 clear hK K
 refine znA 7 (h := ?_)
 refine zoA 3 9 (h := fun K hK => ?_)
 refine zgA Try.func112 (span_norm.calls k a1_0 a1_1 a1_2 t940 t941 t942 _ A4.out) (h := ?_)
 rintro w11 hb
 refine zcn3 HB BK934 BK935 BK936 hb (c := ?_)
 clear HB BK934 BK935 BK936 hb
 intro BK934 BK935 BK936 HB
 refine hK.out _ _ (zk3 BK934 (ze3 BK935)) (fun hHeld => ?_)
 clear hK K
 refine znA 9 (h := ?_)
 refine last_ (i := 4) (N := none) #[true, true, true, true, true, false] rfl rfl (by kernel_rfl) (by decide) (fun K hK => ?_)
 have hs12 := zc0 BK934
 have hfs12 := blk_frozen BK934.out 0
 refine zt2 NB934_935 NB934_936 fun _ _ _ _ => ?_
 have hs13 := zc1 BK934
 have hfs13 := blk_frozen BK934.out 1
 refine zt2 NB934_935 NB934_936 fun _ _ _ _ => ?_
 have hs14 := zc2 BK934
 have hfs14 := blk_frozen BK934.out 2
 refine zt2 NB934_935 NB934_936 fun _ _ _ _ => ?_
 refine skip_ (w1 := ?_) (by rfl) rfl ?_ ?_
 rotate_left
 ·go_simp
  rfl
 refine hK.out _ _ ?_
 clear hK K
 refine last_ (i := 5) (N := none) #[true, true, true, true, true, true] rfl rfl (by kernel_rfl) (by decide) (fun K hK => ?_)
 have hs15 := zc0 BK935
 have hfs15 := blk_frozen BK935.out 0
 refine zt2 NB934_935 NB935_936 fun _ _ _ _ => ?_
 have hs16 := zc1 BK935
 have hfs16 := blk_frozen BK935.out 1
 refine zt2 NB934_935 NB935_936 fun _ _ _ _ => ?_
 have hs17 := zc2 BK935
 have hfs17 := blk_frozen BK935.out 2
 refine zt2 NB934_935 NB935_936 fun _ _ _ _ => ?_
 refine skip_ (w1 := ?_) (by rfl) rfl ?_ ?_
 rotate_left
 ·go_simp
  rfl
 refine hK.out _ _ ?_
 clear hK K
 refine done_ (by kernel_rfl) ?_
 go_upto_region 2 with (fail)
 go_cut [15] (fun v15 wc => ∃ (kq : Nat) (x15_4 : Bool), v15 = .bool x15_4 ∧ Aside0 (span_Div.j0 kq x15_4 t937 t938 t939 t940 t941 t942 = some (r1, r2, r3)) ∧ Aside0 (kq ≤ k) ∧ Aside0 (wc.heap[gb934]? = some (.cells #[.bool t937, .int .u64 t938, .int .u64 t939] 43 (0, 0))) ∧ Aside0 (wc.heap[gb935]? = some (.cells #[.bool t940, .int .u64 t941, .int .u64 t942] 43 (0, 0))) ∧ Aside0 (wc.heap[gb936]? = some (.cells #[.bool false, .int .u64 0, .int .u64 0] 43 (0, 0))) ∧ Aside0 (Below w.heap.size w wc))
 case first =>
  have H := HC5.out
  clear HC5
  by_cases c18 : t937 = true
  ·subst c18
   replace H := zit H
   have H' := Aside0.mk H
   clear H
   refine zt2 NB934_935 NB934_936 fun _ _ _ _ => ?_
   refine zu3 BK934 fun z21_0 z21_1 z21_2 f21_0 f21_1 f21_2 => ?_
   go_wp2
   go_meet
   case rel => exact ⟨_, (true), zrl, H', ⟨zle⟩, ⟨(zkf (zkf (zkf (blk_put (cs := #[.bool true, .int .u64 t938, .int .u64 a0_2]) (blk_put (cs := #[.bool true, .int .u64 a0_1, .int .u64 a0_2]) (blk_put (zkq BK934) 0 _ rfl) 1 _ rfl) 2 _ rfl) NB934_935.out _) NB934_935.out _) NB934_935.out _)⟩, ⟨(blk_put (cs := #[.bool t940, .int .u64 t941, .int .u64 a1_2]) (blk_put (cs := #[.bool t940, .int .u64 a1_1, .int .u64 a1_2]) (blk_put (zkf (zkf (zkf (zkq BK935) (zks NB934_935).out _) (zks NB934_935).out _) (zks NB934_935).out _) 0 _ rfl) 1 _ rfl) 2 _ rfl)⟩, ⟨(zkf (zkf (zkf (zkf (zkf (zkf (zkq BK936) (zks NB934_936).out _) (zks NB934_936).out _) (zks NB934_936).out _) (zks NB935_936).out _) (zks NB935_936).out _) (zks NB935_936).out _)⟩, ⟨zaB⟩⟩
  replace c18 := Bool.eq_false_iff.mpr c18
  subst c18
  replace H := zif H
  have H' := Aside0.mk H
  clear H
  refine zt2 NB934_935 NB934_936 fun _ _ _ _ => ?_
  refine zu3 BK934 fun z24_0 z24_1 z24_2 f24_0 f24_1 f24_2 => ?_
  refine zt1 NB935_936 fun _ _ => ?_
  refine zu3 BK935 fun z26_0 z26_1 z26_2 f26_0 f26_1 f26_2 => ?_
  go_wp2
  go_meet
  case rel => exact ⟨_, (t940), zrl, H', ⟨zle⟩, ⟨(zkf (zkf (zkf (blk_put (cs := #[.bool false, .int .u64 t938, .int .u64 a0_2]) (blk_put (cs := #[.bool false, .int .u64 a0_1, .int .u64 a0_2]) (blk_put (zkq BK934) 0 _ rfl) 1 _ rfl) 2 _ rfl) NB934_935.out _) NB934_935.out _) NB934_935.out _)⟩, ⟨(blk_put (cs := #[.bool t940, .int .u64 t941, .int .u64 a1_2]) (blk_put (cs := #[.bool t940, .int .u64 a1_1, .int .u64 a1_2]) (blk_put (zkf (zkf (zkf (zkq BK935) (zks NB934_935).out _) (zks NB934_935).out _) (zks NB934_935).out _) 0 _ rfl) 1 _ rfl) 2 _ rfl)⟩, ⟨(zkf (zkf (zkf (zkf (zkf (zkf (zkq BK936) (zks NB934_936).out _) (zks NB934_936).out _) (zks NB934_936).out _) (zks NB935_936).out _) (zks NB935_936).out _) (zks NB935_936).out _)⟩, ⟨zaB⟩⟩
 case rest =>
  clear HC5
  try clear z21_0 z21_1 z21_2 f21_0 f21_1 f21_2
  try clear z24_0 z24_1 z24_2 f24_0 f24_1 f24_2
  try clear z26_0 z26_1 z26_2 f26_0 f26_1 f26_2
  obtain ⟨kq, x15_4, rfl, HA, HJ4, BK934, BK935, BK936, HB⟩ := hcut
  cases kq with
  | zero => exact absurd HA.out (by simp [span_Div.j0])
  | succ kj4 =>
   have H := HA.out
   clear HA
   simp only [span_Div.j0] at H
   by_cases c27 : x15_4 = true
   ·subst c27
    replace H := zit H
    obtain ⟨⟨t943, t944, t945⟩, A28, H⟩ := zbs H
    try dsimp only at H
    simp only [Option.some.injEq, Prod.mk.injEq] at H
    obtain ⟨rfl, rfl, rfl⟩ := H
    go_wp2_with (first | ((with_reducible refine gtc 118 rfl ?_); refine zgL 16 Try.func118 (span_none.calls  t943 t944 t945 _ A28.out) (h := ?_); rintro w29 hb; refine zcn3 HB BK934 BK935 BK936 hb (c := ?_); clear HB BK934 BK935 BK936 hb; intro BK934 BK935 BK936 HB; refine zt2 NB934_936 NB935_936 fun _ _ _ _ => ?_; refine zu3 BK936 fun z32_0 z32_1 z32_2 f32_0 f32_1 f32_2 => ?_))
    refine bodyPost_ret (results_cell_row rfl _ _ gb936 43 #[.bool t943, .int .u64 t944, .int .u64 t945] (0, 0) _ rfl (blk_put (cs := #[.bool t943, .int .u64 t944, .int .u64 0]) (blk_put (cs := #[.bool t943, .int .u64 0, .int .u64 0]) (blk_put (zkq BK936) 0 _ rfl) 1 _ rfl) 2 _ rfl) Try.underlying43 rfl (by kernel_rfl)) rfl ?_
    exact ⟨zaE, zaB⟩
   replace c27 := Bool.eq_false_iff.mpr c27
   subst c27
   replace H := zif H
   obtain ⟨⟨t946, t947, t948⟩, A33, H⟩ := zbs H
   try dsimp only at H
   obtain ⟨t950, A34, H⟩ := zbs H
   try dsimp only at H
   have HC35 := Aside0.mk H
   clear H
   go_upto_if 21 with (first | ((with_reducible refine gtc 118 rfl ?_); refine zgL 17 Try.func118 (span_none.calls  t946 t947 t948 _ A33.out) (h := ?_); rintro w36 hb; refine zcn3 HB BK934 BK935 BK936 hb (c := ?_); clear HB BK934 BK935 BK936 hb; intro BK934 BK935 BK936 HB) | ((with_reducible refine gtd 5 rfl ?_); refine zbx 5 #[.bool false, .int .u64 0, .int .u64 0] 43 (h := ?_); intro gb949 hg w37 hbox hb; refine zbn3 HB BK934 BK935 BK936 hg hb hbox (c := ?_); clear HB BK934 BK935 BK936 hb hbox hg; intro GW949 NB934_949 NB935_949 NB936_949 BK934 BK935 BK936 HB BK949; refine zt3 NB934_949 NB935_949 NB936_949 fun _ _ _ _ _ _ => ?_; refine zu3 BK949 fun z41_0 z41_1 z41_2 f41_0 f41_1 f41_2 => ?_; refine zt2 NB934_935 NB935_936 fun _ _ _ _ => ?_; refine zu3 BK935 fun z44_0 z44_1 z44_2 f44_0 f44_1 f44_2 => ?_) | ((with_reducible refine gtc 117 rfl ?_); refine zgL 20 Try.func117 (span_atMost.calls kj4 t942 0 t950 _ A34.out) (h := ?_); rintro w' ⟨nd, rfl⟩))
   (try simp only [Act.put, List.setIfInBounds_toArray, List.set_cons_zero, List.set_cons_succ])
   go_cut [] (fun wc => ∃ (kq : Nat) (x950000_34 : Bool) (x950001_34 : Int) (x950002_34 : Int), Aside0 (span_Div.j1 kq t937 t938 t939 t940 t941 t942 x950000_34 x950001_34 x950002_34 = some (r1, r2, r3)) ∧ Aside0 (kq ≤ kj4) ∧ Aside0 (wc.heap[gb934]? = some (.cells #[.bool t937, .int .u64 t938, .int .u64 t939] 43 (0, 0))) ∧ Aside0 (wc.heap[gb935]? = some (.cells #[.bool t940, .int .u64 t941, .int .u64 t942] 43 (0, 0))) ∧ Aside0 (wc.heap[gb936]? = some (.cells #[.bool false, .int .u64 0, .int .u64 0] 43 (0, 0))) ∧ Aside0 (wc.heap[gb949]? = some (.cells #[.bool x950000_34, .int .u64 x950001_34, .int .u64 x950002_34] 43 (0, 0))) ∧ Aside0 (Below w.heap.size w wc))
   case first =>
    have H := HC35.out
    clear HC35
    by_cases c45 : t950 = true
    ·subst c45
     replace H := zit H
     have H' := Aside0.mk H
     clear H
     go_wp2
     go_meet
     case rel => exact ⟨_, (t946), (t947), (t948), H', ⟨by have := HJ4.out; first | omega | exact Nat.le_refl _⟩, ⟨(zkf (zkf (zkf (zkq BK934) NB934_949.out _) NB934_949.out _) NB934_949.out _)⟩, ⟨(zkf (zkf (zkf (zkq BK935) NB935_949.out _) NB935_949.out _) NB935_949.out _)⟩, ⟨(zkf (zkf (zkf (zkq BK936) NB936_949.out _) NB936_949.out _) NB936_949.out _)⟩, ⟨(blk_put (cs := #[.bool t946, .int .u64 t947, .int .u64 0]) (blk_put (cs := #[.bool t946, .int .u64 0, .int .u64 0]) (blk_put (zkq BK949) 0 _ rfl) 1 _ rfl) 2 _ rfl)⟩, ⟨zaB⟩⟩
    replace c45 := Bool.eq_false_iff.mpr c45
    subst c45
    replace H := zif H
    obtain ⟨t951, A46, H⟩ := zbs H
    try dsimp only at H
    obtain ⟨⟨t952, t953, t954⟩, A47, H⟩ := zbs H
    try dsimp only at H
    obtain ⟨⟨t955, t956, t957⟩, A48, H⟩ := zbs H
    try dsimp only at H
    obtain ⟨⟨t958, t959, t960⟩, A49, H⟩ := zbs H
    try dsimp only at H
    have H' := Aside0.mk H
    clear H
    try go_wp2
    generalize hW_ : (((w37.setCell ⟨gb949, 0, none⟩ (.bool t946)).setCell ⟨gb949, 1, none⟩ (.int .u64 t947)).setCell ⟨gb949, 2, none⟩ (.int .u64 t948)) = w50
    replace BK934 := zkg hW_ (zkf (zkf (zkf BK934.out NB934_949.out _) NB934_949.out _) NB934_949.out _)
    replace BK935 := zkg hW_ (zkf (zkf (zkf BK935.out NB935_949.out _) NB935_949.out _) NB935_949.out _)
    replace BK936 := zkg hW_ (zkf (zkf (zkf BK936.out NB936_949.out _) NB936_949.out _) NB936_949.out _)
    replace BK949 := zkg hW_ (ob := .cells #[.bool t946, .int .u64 t947, .int .u64 t948] 43 (0, 0)) (blk_put (cs := #[.bool t946, .int .u64 t947, .int .u64 0]) (blk_put (cs := #[.bool t946, .int .u64 0, .int .u64 0]) (blk_put BK949.out 0 _ rfl) 1 _ rfl) 2 _ rfl)
    replace HB := zkG hW_ (below_set (below_set (below_set HB.out GW949.out) GW949.out) GW949.out)
    clear hW_
    (try (rw [drewN_self w50]; generalize hq_ : World.drewN w50 _ = w50; replace BK934 := zkg hq_ (zkq BK934); replace BK935 := zkg hq_ (zkq BK935); replace BK936 := zkg hq_ (zkq BK936); replace BK949 := zkg hq_ (zkq BK949); replace HB := zkG hq_ (pw_below_drewN HB.out _); clear hq_))
    replace BK934 := Aside0.mk (blk_drew BK934.out)
    replace BK935 := Aside0.mk (blk_drew BK935.out)
    replace BK936 := Aside0.mk (blk_drew BK936.out)
    replace BK949 := Aside0.mk (blk_drew BK949.out)
    replace HB := Aside0.mk (below_drew1 HB.out)
    refine start_ (n := 7) (S := fun w' => w'.cell? ⟨gb934, 0, none⟩ = some (.bool t937) ∧ w'.cell? ⟨gb934, 1, none⟩ = some (.int .u64 t938) ∧ w'.cell? ⟨gb934, 2, none⟩ = some (.int .u64 t939) ∧ w'.cell? ⟨gb935, 0, none⟩ = some (.bool t940) ∧ w'.cell? ⟨gb935, 1, none⟩ = some (.int .u64 t941) ∧ w'.cell? ⟨gb935, 2, none⟩ = some (.int .u64 t942)) (ds := []) #[false, false, false, false, false, false, false] (by kernel_rfl) rfl rfl (zk3 BK934 (ze3 BK935)) (fun hHeld => ?_)
    generalize w50.drew = w51 at BK934 BK935 BK936 BK949 HB hHeld ⊢
    refine ztA 0 22 (h := ?_)
    refine ztA 1 23 (h := ?_)
    refine zoA 2 24 (h := fun K hK => ?_)
    refine zgA Try.func114 (span_inf.calls kj4  t951 _ A46.out) (h := ?_)
    rintro w' ⟨nd, rfl⟩
    refine hK.out _ _ (zk3 BK934 (ze3 BK935)) (fun hHeld => ?_)
    clear hK K
    refine znA 24 (h := ?_)
    refine zoA 3 25 (h := fun K hK => ?_)
    refine zgA Try.func37 (span_Make.calls kj4 0 t951 t952 t953 t954 _ A47.out) (h := ?_)
    rintro w52 hb
    refine zcn4 HB BK934 BK935 BK936 BK949 hb (c := ?_)
    clear HB BK934 BK935 BK936 BK949 hb
    intro BK934 BK935 BK936 BK949 HB
    refine hK.out _ _ (zk3 BK934 (ze3 BK935)) (fun hHeld => ?_)
    clear hK K
    refine znA 25 (h := ?_)
    refine zoA 4 26 (h := fun K hK => ?_)
    refine zgA Try.func47 (span_Meet.calls kj4 t940 t941 t942 t952 t953 t954 t955 t956 t957 _ A48.out) (h := ?_)
    rintro w53 hb
    refine zcn4 HB BK934 BK935 BK936 BK949 hb (c := ?_)
    clear HB BK934 BK935 BK936 BK949 hb
    intro BK934 BK935 BK936 BK949 HB
    refine hK.out _ _ (zk3 BK934 (ze3 BK935)) (fun hHeld => ?_)
    clear hK K
    refine znA 26 (h := ?_)
    refine zoA 5 27 (h := fun K hK => ?_)
    refine zgA Try.func139 (span_above.calls kj4 t937 t938 t939 t955 t956 t957 t958 t959 t960 _ A49.out) (h := ?_)
    rintro w54 hb
    refine zcn4 HB BK934 BK935 BK936 BK949 hb (c := ?_)
    clear HB BK934 BK935 BK936 BK949 hb
    intro BK934 BK935 BK936 BK949 HB
    refine hK.out _ _ (zk3 BK934 (ze3 BK935)) (fun hHeld => ?_)
    clear hK K
    refine znA 27 (h := ?_)
    refine one_ (i := 6) (N := none) #[true, true, true, true, true, true, true] rfl rfl (by kernel_rfl) (by decide) (fun K hK => ?_)
    have hs55 := zc0 BK949
    have hfs55 := blk_frozen BK949.out 0
    refine zt3 NB934_949 NB935_949 NB936_949 fun _ _ _ _ _ _ => ?_
    have hs56 := zc1 BK949
    have hfs56 := blk_frozen BK949.out 1
    refine zt3 NB934_949 NB935_949 NB936_949 fun _ _ _ _ _ _ => ?_
    have hs57 := zc2 BK949
    have hfs57 := blk_frozen BK949.out 2
    refine zt3 NB934_949 NB935_949 NB936_949 fun _ _ _ _ _ _ => ?_
    refine skip_ (w1 := ?_) (by rfl) rfl ?_ ?_
    rotate_left
    ·go_simp
     rfl
    refine hK.out _ _ ⟨(zff NB934_949 (zff NB934_949 (zff NB934_949 hHeld.1))), (zff NB934_949 (zff NB934_949 (zff NB934_949 hHeld.2.1))), (zff NB934_949 (zff NB934_949 (zff NB934_949 hHeld.2.2.1))), (zff NB935_949 (zff NB935_949 (zff NB935_949 hHeld.2.2.2.1))), (zff NB935_949 (zff NB935_949 (zff NB935_949 hHeld.2.2.2.2.1))), (zff NB935_949 (zff NB935_949 (zff NB935_949 hHeld.2.2.2.2.2)))⟩ (fun hHeld => ?_)
    clear hK K
    refine done_ (by kernel_rfl) ?_
    try go_wp2
    go_meet
    case rel => exact ⟨_, (t958), (t959), (t960), H', ⟨by have := HJ4.out; first | omega | exact Nat.le_refl _⟩, ⟨(zkf (zkf (zkf (zkq BK934) NB934_949.out _) NB934_949.out _) NB934_949.out _)⟩, ⟨(zkf (zkf (zkf (zkq BK935) NB935_949.out _) NB935_949.out _) NB935_949.out _)⟩, ⟨(zkf (zkf (zkf (zkq BK936) NB936_949.out _) NB936_949.out _) NB936_949.out _)⟩, ⟨(blk_put (cs := #[.bool t958, .int .u64 t959, .int .u64 t948]) (blk_put (cs := #[.bool t958, .int .u64 t947, .int .u64 t948]) (blk_put (zkq BK949) 0 _ rfl) 1 _ rfl) 2 _ rfl)⟩, ⟨zaB⟩⟩
   case rest =>
    clear HC35
    try clear z21_0 z21_1 z21_2 f21_0 f21_1 f21_2
    try clear z24_0 z24_1 z24_2 f24_0 f24_1 f24_2
    try clear z26_0 z26_1 z26_2 f26_0 f26_1 f26_2
    try clear z32_0 z32_1 z32_2 f32_0 f32_1 f32_2
    try clear z41_0 z41_1 z41_2 f41_0 f41_1 f41_2
    try clear z44_0 z44_1 z44_2 f44_0 f44_1 f44_2
    obtain ⟨kq, x950000_34, x950001_34, x950002_34, HA, HJ34, BK934, BK935, BK936, BK949, HB⟩ := hcut
    cases kq with
    | zero => exact absurd HA.out (by simp [span_Div.j1])
    | succ kj34 =>
     have H := HA.out
     clear HA
     simp only [span_Div.j1] at H
     obtain ⟨t961, A58, H⟩ := zbs H
     try dsimp only at H
     by_cases c59 : t961 = true
     ·subst c59
      replace H := zit H
      simp only [Option.some.injEq, Prod.mk.injEq] at H
      obtain ⟨rfl, rfl, rfl⟩ := H
      refine zt3 NB934_935 NB935_936 NB935_949 fun _ _ _ _ _ _ => ?_
      refine zu3 BK935 fun _ _ _ _ _ _ => ?_
      go_wp2_with (first | ((with_reducible refine gtc 117 rfl ?_); refine zgL 30 Try.func117 (span_atMost.calls kj34 0 t941 true _ A58.out) (h := ?_); rintro w' ⟨nd, rfl⟩; (try (rw [drewN_self wc]; generalize hq_ : World.drewN wc _ = wc; have n0_ : Aside0 (wc.heap[gb934]? = some (.cells #[.bool t937, .int .u64 t938, .int .u64 t939] 43 (0, 0))) := ⟨by rw [← hq_]; exact (zkq BK934)⟩; have n1_ : Aside0 (wc.heap[gb935]? = some (.cells #[.bool t940, .int .u64 t941, .int .u64 t942] 43 (0, 0))) := ⟨by rw [← hq_]; exact (zkq BK935)⟩; have n2_ : Aside0 (wc.heap[gb936]? = some (.cells #[.bool false, .int .u64 0, .int .u64 0] 43 (0, 0))) := ⟨by rw [← hq_]; exact (zkq BK936)⟩; have n3_ : Aside0 (wc.heap[gb949]? = some (.cells #[.bool x950000_34, .int .u64 x950001_34, .int .u64 x950002_34] 43 (0, 0))) := ⟨by rw [← hq_]; exact (zkq BK949)⟩; have n4_ : Aside0 (Below w.heap.size w wc) := ⟨by rw [← hq_]; exact zaB⟩; clear BK934 BK935 BK936 BK949 HB hq_; have BK934 := n0_; have BK935 := n1_; have BK936 := n2_; have BK949 := n3_; have HB := n4_; clear n0_ n1_ n2_ n3_ n4_; have hdq934_0 := zc0 BK934; have hdq934_1 := zc1 BK934; have hdq934_2 := zc2 BK934; have hdq934_f := zfz BK934; have hdq935_0 := zc0 BK935; have hdq935_1 := zc1 BK935; have hdq935_2 := zc2 BK935; have hdq935_f := zfz BK935; have hdq936_0 := zc0 BK936; have hdq936_1 := zc1 BK936; have hdq936_2 := zc2 BK936; have hdq936_f := zfz BK936; have hdq949_0 := zc0 BK949; have hdq949_1 := zc1 BK949; have hdq949_2 := zc2 BK949; have hdq949_f := zfz BK949)); refine zt2 NB934_949 NB936_949 fun _ _ _ _ => ?_; refine zu3 BK949 fun _ _ _ _ _ _ => ?_; refine zt1 NB934_936 fun _ _ => ?_; refine zu3 BK936 fun _ _ _ _ _ _ => ?_))
      refine bodyPost_ret (results_cell_row rfl _ _ gb936 43 #[.bool x950000_34, .int .u64 x950001_34, .int .u64 x950002_34] (0, 0) _ rfl (blk_put (cs := #[.bool x950000_34, .int .u64 x950001_34, .int .u64 0]) (blk_put (cs := #[.bool x950000_34, .int .u64 0, .int .u64 0]) (blk_put (zkq BK936) 0 _ rfl) 1 _ rfl) 2 _ rfl) Try.underlying43 rfl (by kernel_rfl)) rfl ?_
      exact ⟨zaE, zaB⟩
     replace c59 := Bool.eq_false_iff.mpr c59
     subst c59
     replace H := zif H
     obtain ⟨t962, A69, H⟩ := zbs H
     try dsimp only at H
     obtain ⟨⟨t963, t964, t965⟩, A70, H⟩ := zbs H
     try dsimp only at H
     obtain ⟨⟨t966, t967, t968⟩, A71, H⟩ := zbs H
     try dsimp only at H
     obtain ⟨⟨t969, t970, t971⟩, A72, H⟩ := zbs H
     try dsimp only at H
     obtain ⟨⟨t972, t973, t974⟩, A73, H⟩ := zbs H
     try dsimp only at H
     obtain ⟨⟨t975, t976, t977⟩, A74, H⟩ := zbs H
     try dsimp only at H
     obtain ⟨y978, hy978⟩ : ∃ y_ : List (S43), y_ = (([(⟨x950000_34, x950001_34, x950002_34⟩ : S43), (⟨t975, t976, t977⟩ : S43)] : List (S43))) := ⟨_, rfl⟩
     replace H : ((span_Join.f kj34 y978).bind fun bt981 => (some (bt981.1, bt981.2.1, bt981.2.2))) = some (r1, r2, r3) := by first | (rw [hy978]; with_reducible exact H) | (have H2_ := (Option.bind_some _ _).symm.trans H; rw [hy978]; with_reducible exact H2_) | (have H2_ := (Option.bind_some _ _).symm.trans H; with_reducible exact H2_) | with_reducible exact H | (rw [hy978]; exact H) | exact H
     have Ny978 := Aside0.mk hy978
     clear hy978
     obtain ⟨⟨t981, t982, t983⟩, A75, H⟩ := zbs H
     try dsimp only at H
     simp only [Option.some.injEq, Prod.mk.injEq] at H
     obtain ⟨rfl, rfl, rfl⟩ := H
     refine zt3 NB934_935 NB935_936 NB935_949 fun _ _ _ _ _ _ => ?_
     refine zu3 BK935 fun _ _ _ _ _ _ => ?_
     try go_wp2_with (first | ((with_reducible refine gtc 117 rfl ?_); refine zgL 30 Try.func117 (span_atMost.calls kj34 0 t941 false _ A58.out) (h := ?_); rintro w' ⟨nd, rfl⟩; (try (rw [drewN_self wc]; generalize hq_ : World.drewN wc _ = wc; have n0_ : Aside0 (wc.heap[gb934]? = some (.cells #[.bool t937, .int .u64 t938, .int .u64 t939] 43 (0, 0))) := ⟨by rw [← hq_]; exact (zkq BK934)⟩; have n1_ : Aside0 (wc.heap[gb935]? = some (.cells #[.bool t940, .int .u64 t941, .int .u64 t942] 43 (0, 0))) := ⟨by rw [← hq_]; exact (zkq BK935)⟩; have n2_ : Aside0 (wc.heap[gb936]? = some (.cells #[.bool false, .int .u64 0, .int .u64 0] 43 (0, 0))) := ⟨by rw [← hq_]; exact (zkq BK936)⟩; have n3_ : Aside0 (wc.heap[gb949]? = some (.cells #[.bool x950000_34, .int .u64 x950001_34, .int .u64 x950002_34] 43 (0, 0))) := ⟨by rw [← hq_]; exact (zkq BK949)⟩; have n4_ : Aside0 (Below w.heap.size w wc) := ⟨by rw [← hq_]; exact zaB⟩; clear BK934 BK935 BK936 BK949 HB hq_; have BK934 := n0_; have BK935 := n1_; have BK936 := n2_; have BK949 := n3_; have HB := n4_; clear n0_ n1_ n2_ n3_ n4_; have hdq934_0 := zc0 BK934; have hdq934_1 := zc1 BK934; have hdq934_2 := zc2 BK934; have hdq934_f := zfz BK934; have hdq935_0 := zc0 BK935; have hdq935_1 := zc1 BK935; have hdq935_2 := zc2 BK935; have hdq935_f := zfz BK935; have hdq936_0 := zc0 BK936; have hdq936_1 := zc1 BK936; have hdq936_2 := zc2 BK936; have hdq936_f := zfz BK936; have hdq949_0 := zc0 BK949; have hdq949_1 := zc1 BK949; have hdq949_2 := zc2 BK949; have hdq949_f := zfz BK949))))
     (try (rw [drewN_self wc]; generalize hq_ : World.drewN wc _ = wc; replace BK934 := zkg hq_ (zkq BK934); replace BK935 := zkg hq_ (zkq BK935); replace BK936 := zkg hq_ (zkq BK936); replace BK949 := zkg hq_ (zkq BK949); replace HB := zkG hq_ (pw_below_drewN HB.out _); clear hq_))
     replace BK934 := Aside0.mk (blk_drew BK934.out)
     replace BK935 := Aside0.mk (blk_drew BK935.out)
     replace BK936 := Aside0.mk (blk_drew BK936.out)
     replace BK949 := Aside0.mk (blk_drew BK949.out)
     replace HB := Aside0.mk (below_drew1 HB.out)
     refine start_ (n := 12) (S := fun w' => w'.cell? ⟨gb949, 0, none⟩ = some (.bool x950000_34) ∧ w'.cell? ⟨gb949, 1, none⟩ = some (.int .u64 x950001_34) ∧ w'.cell? ⟨gb949, 2, none⟩ = some (.int .u64 x950002_34) ∧ w'.cell? ⟨gb934, 0, none⟩ = some (.bool t937) ∧ w'.cell? ⟨gb934, 1, none⟩ = some (.int .u64 t938) ∧ w'.cell? ⟨gb934, 2, none⟩ = some (.int .u64 t939) ∧ w'.cell? ⟨gb935, 0, none⟩ = some (.bool t940) ∧ w'.cell? ⟨gb935, 1, none⟩ = some (.int .u64 t941) ∧ w'.cell? ⟨gb935, 2, none⟩ = some (.int .u64 t942)) (ds := [11]) #[false, false, false, false, false, false, false, false, false, false, false, false] (by kernel_rfl) rfl rfl (zk3 BK949 (zk3 BK934 (ze3 BK935))) (fun hHeld => ?_); refine with_tabW span_Div.tab8 span_Div.bits8 (fun HT_ HW_ => ?_)
     generalize wc.drew = w80 at BK934 BK935 BK936 BK949 HB hHeld ⊢
     refine ztA 0 32 (h := ?_)
     refine ztA 1 33 (h := ?_)
     refine ztA 2 34 (h := ?_)
     refine zoA 3 35 (h := fun K hK => ?_)
     refine zgA Try.func113 (span_ninf.calls kj34  t962 _ A69.out) (h := ?_)
     rintro w' ⟨nd, rfl⟩
     refine hK.out _ _ (zk3 BK949 (zk3 BK934 (ze3 BK935))) (fun hHeld => ?_)
     clear hK K
     refine znA 35 (h := ?_)
     refine zoA 4 36 (h := fun K hK => ?_)
     refine zgA Try.func37 (span_Make.calls kj34 t962 0 t963 t964 t965 _ A70.out) (h := ?_)
     rintro w81 hb
     refine zcn4 HB BK934 BK935 BK936 BK949 hb (c := ?_)
     clear HB BK934 BK935 BK936 BK949 hb
     intro BK934 BK935 BK936 BK949 HB
     refine hK.out _ _ (zk3 BK949 (zk3 BK934 (ze3 BK935))) (fun hHeld => ?_)
     clear hK K
     refine znA 36 (h := ?_)
     refine zoA 5 37 (h := fun K hK => ?_)
     refine zgA Try.func47 (span_Meet.calls kj34 t940 t941 t942 t963 t964 t965 t966 t967 t968 _ A71.out) (h := ?_)
     rintro w82 hb
     refine zcn4 HB BK934 BK935 BK936 BK949 hb (c := ?_)
     clear HB BK934 BK935 BK936 BK949 hb
     intro BK934 BK935 BK936 BK949 HB
     refine hK.out _ _ (zk3 BK949 (zk3 BK934 (ze3 BK935))) (fun hHeld => ?_)
     clear hK K
     refine znA 37 (h := ?_)
     refine zoA 6 38 (h := fun K hK => ?_)
     refine zgA Try.func111 (span_Neg.calls kj34 t966 t967 t968 t969 t970 t971 _ A72.out) (h := ?_)
     rintro w83 hb
     refine zcn4 HB BK934 BK935 BK936 BK949 hb (c := ?_)
     clear HB BK934 BK935 BK936 BK949 hb
     intro BK934 BK935 BK936 BK949 HB
     refine hK.out _ _ (zk3 BK949 (zk3 BK934 (ze3 BK935))) (fun hHeld => ?_)
     clear hK K
     refine znA 38 (h := ?_)
     refine zoA 7 39 (h := fun K hK => ?_)
     refine zgA Try.func139 (span_above.calls kj34 t937 t938 t939 t969 t970 t971 t972 t973 t974 _ A73.out) (h := ?_)
     rintro w84 hb
     refine zcn4 HB BK934 BK935 BK936 BK949 hb (c := ?_)
     clear HB BK934 BK935 BK936 BK949 hb
     intro BK934 BK935 BK936 BK949 HB
     refine hK.out _ _ (zk3 BK949 (zk3 BK934 (ze3 BK935))) (fun hHeld => ?_)
     clear hK K
     refine znA 39 (h := ?_)
     refine zoA 8 40 (h := fun K hK => ?_)
     refine zgA Try.func111 (span_Neg.calls kj34 t972 t973 t974 t975 t976 t977 _ A74.out) (h := ?_)
     rintro w85 hb
     refine zcn4 HB BK934 BK935 BK936 BK949 hb (c := ?_)
     clear HB BK934 BK935 BK936 BK949 hb
     intro BK934 BK935 BK936 BK949 HB
     refine hK.out _ _ (zk3 BK949 (zk3 BK934 (ze3 BK935))) (fun hHeld => ?_)
     clear hK K
     refine znA 40 (h := ?_)
     refine zoA 9 41 (h := fun K hK => ?_)
     refine Kd.R_lit_step k43 _ 43 ?hg (N := 41) ?hd (xs := ([(⟨x950000_34, x950001_34, x950002_34⟩ : S43), (⟨t975, t976, t977⟩ : S43)] : List (S43))) (inner := [.bool x950000_34, .int .u64 x950001_34, .int .u64 x950002_34, .bool t975, .int .u64 t976, .int .u64 t977]) (ok := fun _ => True) (okp := fun _ => True) ?hr ?hp (fun _ hk => hk) trivial (Below.refl _ _) (Nat.le_refl _) (by simp) ?_; (case hd => rfl); (case hg => rfl); (case hr => first | (go_simp; done) | (go_simp; rfl)); (case hp => exact (Reps.c3 (show Kd.M k43 _ _ _ (⟨x950000_34, x950001_34, x950002_34⟩ : S43) [.bool x950000_34, .int .u64 x950001_34, .int .u64 x950002_34] from (k43_mkM _ _ _ (⟨x950000_34, x950001_34, x950002_34⟩ : S43) )) (Reps.c3 (show Kd.M k43 _ _ _ (⟨t975, t976, t977⟩ : S43) [.bool t975, .int .u64 t976, .int .u64 t977] from (k43_mkM _ _ _ (⟨t975, t976, t977⟩ : S43) )) (Reps.none _ _))))
     intro v979 w86 ho87 hb hg_ hnew_
     clear hg_ hnew_
     (first | rw [← Ny978.out] at ho87 | (simp only [Int.reduceToNat] at ho87; rw [← Ny978.out] at ho87))
     have HO980 := Aside0.mk (Kd.R_lower (Kd.R_newB (Kd.R_newB (Kd.R_newB (Kd.R_newB ho87 (g := gb934) (o := .cells #[.bool t937, .int .u64 t938, .int .u64 t939] 43 (0, 0)) (zkq BK934)) (g := gb935) (o := .cells #[.bool t940, .int .u64 t941, .int .u64 t942] 43 (0, 0)) (zkq BK935)) (g := gb936) (o := .cells #[.bool false, .int .u64 0, .int .u64 0] 43 (0, 0)) (zkq BK936)) (g := gb949) (o := .cells #[.bool x950000_34, .int .u64 x950001_34, .int .u64 x950002_34] 43 (0, 0)) (zkq BK949)) (below_size zaB))
     replace BK934 := zkb BK934 hb
     replace BK935 := zkb BK935 hb
     replace BK936 := zkb BK936 hb
     replace BK949 := zkb BK949 hb
     replace HB := zkB HB hb
     clear hb ho87
     obtain ⟨Ao88, co88, eo88⟩ := Kd.R_slice HO980.out
     (first | subst eo88 | (injection eo88 with f1_ f2_ f3_; have f4_ := f1_.symm; have f5_ := f3_.symm; clear f1_ f2_ f3_; subst f4_; subst f5_))
     refine hK.out _ _ (zk3 BK949 (zk3 BK934 (ze3 BK935))) (fun hHeld => ?_)
     clear hK K
     refine znA 41 (h := ?_)
     refine zoA 10 42 (h := fun K hK => ?_)
     refine goes_ Try.func45 (by kernel_rfl) rfl #[.slice Ao88 y978.length co88] (by rfl) rfl rfl (by (try simp only [List.map_toArray, List.map_cons, List.map_nil]); first | done | rfl | (simp only [List.length_drop, List.length_take]; rfl)) ?_
     with_reducible refine (span_Join.calls kj34 _ _ y978 t981 t982 t983 _ ?side1 ?side2 A75.out).mono ?_
     (case side1 => repeat (first | exact (Kd.R_reads' HO980.out).2.2 | (with_reducible refine Kd.C_alloc ?_ _) | (with_reducible refine Kd.C_drewN ?_ _) | (with_reducible refine Kd.C_drew ?_)))
     (case side2 => exact (Kd.R_reads' HO980.out).2.1)
     rintro e w89 ⟨rfl, hb⟩
     refine ⟨_, rfl, ?_⟩
     replace HO980 := Aside0.mk (Kd.R_below (zRW HO980.out) hb)
     refine zcn4 HB BK934 BK935 BK936 BK949 hb (c := ?_)
     clear HB BK934 BK935 BK936 BK949 hb
     intro BK934 BK935 BK936 BK949 HB
     refine hK.out _ _ (zk3 BK949 (zk3 BK934 (ze3 BK935))) (fun hHeld => ?_)
     clear hK K
     refine znA 42 (h := ?_)
     refine last_ (i := 11) (N := none) #[true, true, true, true, true, true, true, true, true, true, true, true] rfl rfl (one_of HT_.out (by kernel_rfl)) (by decide) (fun K hK => ?_)
     have hs90 := zc0 BK949
     have hfs90 := blk_frozen BK949.out 0
     refine zt3 NB934_949 NB935_949 NB936_949 fun _ _ _ _ _ _ => ?_
     have hs91 := zc1 BK949
     have hfs91 := blk_frozen BK949.out 1
     refine zt3 NB934_949 NB935_949 NB936_949 fun _ _ _ _ _ _ => ?_
     have hs92 := zc2 BK949
     have hfs92 := blk_frozen BK949.out 2
     refine zt3 NB934_949 NB935_949 NB936_949 fun _ _ _ _ _ _ => ?_
     refine skip_ (w1 := ?_) (by rfl) rfl ?_ ?_
     rotate_left
     ·go_simp
      rfl
     refine hK.out _ _ ?_
     clear hK K
     refine done_ (done_of HT_.out (by kernel_rfl)) ?_
     refine zt2 NB934_949 NB936_949 fun _ _ _ _ => ?_
     refine zu3 BK949 fun _ _ _ _ _ _ => ?_
     refine zt1 NB934_936 fun _ _ => ?_
     refine zu3 BK936 fun _ _ _ _ _ _ => ?_
     try go_wp2
     refine bodyPost_ret (results_cell_row rfl _ _ gb936 43 #[.bool t981, .int .u64 t982, .int .u64 t983] (0, 0) _ rfl (blk_put (cs := #[.bool t981, .int .u64 t982, .int .u64 0]) (blk_put (cs := #[.bool t981, .int .u64 0, .int .u64 0]) (blk_put (zkf (zkf (zkf (zkq BK936) NB936_949.out _) NB936_949.out _) NB936_949.out _) 0 _ rfl) 1 _ rfl) 2 _ rfl) Try.underlying43 rfl (by kernel_rfl)) rfl ?_
     exact ⟨zaE, zaB⟩
end Go.Proofs.Ytmadjhmecfbcmaa.F
end
section
namespace Go.Proofs.Ytmadjhmecfbcmaa.F
open Go.RowKit Go.Proofs.YtmadjhmecfbcmaaW.PrintWords Go.Proofs.YtmadjhmecfbcmaaW.PrintLast Go.Proofs.YtmadjhmecfbcmaaW.PrintMore
attribute [local go_sem] max2_int min2_int max_two min_two max_three min_three max_four min_four
set_option linter.unusedVariables false
set_option linter.unusedSimpArgs false
set_option maxHeartbeats 8000000
set_option maxRecDepth 100000
attribute [local go_sem high] eqA43
def flyballlaw16_works.T6 : Bool × List (List Nat × List Nat) := (true, [([], []), ([], []), ([0, 1], [0, 1]), ([2, 1], [2]), ([3], [3]), ([3, 3], [3]), ([4, 5, 3], [3, 4, 5]), ([3, 6], [3, 6]), ([7, 5], [7]), ([8], [8]), ([8, 8], [8]), ([9, 10, 8], [8, 9, 10]), ([8, 11], [8, 11]), ([12, 10], [12]), ([13], [13]), ([13, 13], [13]), ([15, 15, 13], [13, 15]), ([14, 16, 13], [13, 14, 16]), ([13, 17], [13, 17]), ([18, 16], [18]), ([19], [19]), ([19, 19], [19]), ([20, 21, 19], [19, 20, 21]), ([19, 22], [19, 22]), ([23, 21], [23]), ([24], [24]), ([24, 24], [24]), ([25, 26, 24], [24, 25, 26]), ([24, 27], [24, 27]), ([28, 26], [28]), ([29, 29], [29]), ([30, 29], [29, 30]), ([29, 31], [29, 31]), ([32, 30], [32]), ([33], [33]), ([34, 33, 33], [33, 34]), ([33, 35], [33, 35]), ([36, 35], [36]), ([37], [37]), ([37, 37], [37]), ([38, 39, 39, 37], [37, 38, 39]), ([37, 40], [37, 40]), ([41, 40], [41]), ([42], [42]), ([42], [42]), ([43, 44, 42], [42, 43, 44]), ([45, 42, 42], [42, 45]), ([46, 42], [42]), ([46, 47, 42], [42, 46, 47]), ([42, 48], [42, 48]), ([49, 47], [49]), ([50], [50]), ([50], [50]), ([51, 52, 50, 50], [50, 51, 52]), ([53, 50], [50]), ([53, 54, 50], [50, 53, 54]), ([50, 55], [50, 55]), ([56, 54], [56]), ([57], [57]), ([58, 57, 57], [57, 58]), ([59, 59, 57], [57, 59]), ([60, 57], [57, 60]), ([57, 61], [57, 61]), ([62, 60], [62]), ([63, 63], [63]), ([64, 64, 63], [63, 64]), ([65, 63], [63]), ([65, 66, 63], [63, 65, 66]), ([63, 67], [63, 67]), ([68, 66, 0, 1, 2, 3, 4, 5, 6, 7, 8, 9, 10, 11, 12, 13, 14, 15, 16, 17, 18, 19, 20, 21, 22, 23, 24, 25, 26, 27, 28, 29, 30, 31, 32, 33, 34, 35, 36, 37, 38, 39, 40, 41, 42, 43, 44, 45, 46, 47, 48, 49, 50, 51, 52, 53, 54, 55, 56, 57, 58, 59, 60, 61, 62, 63, 64, 65, 66, 67, 68], [68])])
def flyballlaw16_works.B6 : List Nat := [0, 0, 3, 7, 15, 15, 63, 127, 255, 511, 511, 2047, 4095, 8191, 16383, 16383, 49151, 131071, 262143, 524287, 1048575, 1048575, 4194303, 8388607, 16777215, 33554431, 33554431, 134217727, 268435455, 536870911, 1073741823, 2147483647, 4294967295, 8589934591, 17179869183, 34359738367, 68719476735, 137438953471, 274877906943, 274877906943, 1099511627775, 2199023255551, 4398046511103, 8796093022207, 8796093022207, 35184372088831, 70368744177663, 140737488355327, 281474976710655, 562949953421311, 1125899906842623, 2251799813685247, 2251799813685247, 9007199254740991, 18014398509481983, 36028797018963967, 72057594037927935, 144115188075855871, 288230376151711743, 576460752303423487, 1152921504606846975, 2305843009213693951, 4611686018427387903, 9223372036854775807, 18446744073709551615, 36893488147419103231, 73786976294838206463, 147573952589676412927, 295147905179352825855, 590295810358705651711]
theorem flyballlaw16_works.tab6 : rtab .any (opsOf Try.f36 6) = flyballlaw16_works.T6 := by kernel_rfl
theorem flyballlaw16_works.bits6 : waitsOk flyballlaw16_works.T6.2 flyballlaw16_works.B6 = true := by kernel_rfl
theorem flyballlaw16_works.calls (k : Nat)  (r : Bool) (w : World) (h : flyballlaw16_works.f k  = some r) (hr_ : r = true) :
  Calls Try.prog 36 #[] w fun e w' => e = .returned (.bool r) ∧ Below w.heap.size w w' := by
 have hu43 := Try.underlying43
 have hfd0_ : ∀ (b : Bool) (x y : Int) (w : World), (Instr.field 43 (.agg #[.bool b, .int .u64 x, .int .u64 y]) 0).run Try.prog w = .ok (.bool b) w := fun _ _ _ _ => by kernel_rfl
 have hfd1_ : ∀ (b : Bool) (x y : Int) (w : World), (Instr.field 43 (.agg #[.bool b, .int .u64 x, .int .u64 y]) 1).run Try.prog w = .ok (.int .u64 x) w := fun _ _ _ _ => by kernel_rfl
 have hfd2_ : ∀ (b : Bool) (x y : Int) (w : World), (Instr.field 43 (.agg #[.bool b, .int .u64 x, .int .u64 y]) 2).run Try.prog w = .ok (.int .u64 y) w := fun _ _ _ _ => by kernel_rfl
 have HB := Aside0.mk (Below.refl w.heap.size w)
 have H := h
 unfold flyballlaw16_works.f at H
 clear h
 obtain ⟨⟨t984, t985, t986⟩, A1, H⟩ := zbs H
 try dsimp only at H
 obtain ⟨⟨t987, t988, t989⟩, A2, H⟩ := zbs H
 try dsimp only at H
 obtain ⟨⟨t990, t991, t992⟩, A3, H⟩ := zbs H
 try dsimp only at H
 obtain ⟨⟨t994, t995, t996⟩, A4, H⟩ := zbs H
 try dsimp only at H
 obtain ⟨⟨t997, t998, t999⟩, A5, H⟩ := zbs H
 try dsimp only at H
 obtain ⟨⟨t1000, t1001, t1002⟩, A6, H⟩ := zbs H
 try dsimp only at H
 obtain ⟨⟨t1004, t1005, t1006⟩, A7, H⟩ := zbs H
 try dsimp only at H
 obtain ⟨⟨t1007, t1008, t1009⟩, A8, H⟩ := zbs H
 try dsimp only at H
 obtain ⟨⟨t1010, t1011, t1012⟩, A9, H⟩ := zbs H
 try dsimp only at H
 obtain ⟨⟨t1014, t1015, t1016⟩, A10, H⟩ := zbs H
 try dsimp only at H
 obtain ⟨⟨t1017, t1018, t1019⟩, A11, H⟩ := zbs H
 try dsimp only at H
 obtain ⟨⟨t1020, t1021, t1022⟩, A12, H⟩ := zbs H
 try dsimp only at H
 obtain ⟨⟨t1024, t1025, t1026⟩, A13, H⟩ := zbs H
 try dsimp only at H
 obtain ⟨⟨t1027, t1028, t1029⟩, A14, H⟩ := zbs H
 try dsimp only at H
 obtain ⟨⟨t1030, t1031, t1032, t1033, t1034, t1035⟩, A15, H⟩ := zbs H
 try dsimp only at H
 obtain ⟨⟨t1038, t1039, t1040⟩, A16, H⟩ := zbs H
 try dsimp only at H
 by_cases c17 : (t990 == t1038 && (t991 == t1039 && (t992 == t1040))) = true
 ·rw [if_pos c17] at H
  have c17b0 : (t990 == t1038 && (t991 == t1039 && (t992 == t1040))) = true := c17
  (try (have c17b1 : decide (t990 = t1038 && (t991 == t1039 && (t992 == t1040))) = true := by simpa using c17))
  (try (have c17b2 : (t990 == t1038 && (t991 == t1039 && (t992 == t1040))) = true := by simpa using c17))
  clear c17
  obtain ⟨⟨t1041, t1042, t1043⟩, A18, H⟩ := zbs H
  try dsimp only at H
  by_cases c19 : (t1000 == t1041 && (t1001 == t1042 && (t1002 == t1043))) = true
  ·rw [if_pos c19] at H
   have c19b0 : (t1000 == t1041 && (t1001 == t1042 && (t1002 == t1043))) = true := c19
   (try (have c19b1 : decide (t1000 = t1041 && (t1001 == t1042 && (t1002 == t1043))) = true := by simpa using c19))
   (try (have c19b2 : (t1000 == t1041 && (t1001 == t1042 && (t1002 == t1043))) = true := by simpa using c19))
   clear c19
   obtain ⟨⟨t1044, t1045, t1046⟩, A20, H⟩ := zbs H
   try dsimp only at H
   by_cases c21 : (t1010 == t1044 && (t1011 == t1045 && (t1012 == t1046))) = true
   ·rw [if_pos c21] at H
    have c21b0 : (t1010 == t1044 && (t1011 == t1045 && (t1012 == t1046))) = true := c21
    (try (have c21b1 : decide (t1010 = t1044 && (t1011 == t1045 && (t1012 == t1046))) = true := by simpa using c21))
    (try (have c21b2 : (t1010 == t1044 && (t1011 == t1045 && (t1012 == t1046))) = true := by simpa using c21))
    clear c21
    obtain ⟨t1047, A22, H⟩ := zbs H
    try dsimp only at H
    obtain ⟨⟨t1048, t1049, t1050⟩, A23, H⟩ := zbs H
    try dsimp only at H
    by_cases c24 : (t1020 == t1048 && (t1021 == t1049 && (t1022 == t1050))) = true
    ·rw [if_pos c24] at H
     have c24b0 : (t1020 == t1048 && (t1021 == t1049 && (t1022 == t1050))) = true := c24
     (try (have c24b1 : decide (t1020 = t1048 && (t1021 == t1049 && (t1022 == t1050))) = true := by simpa using c24))
     (try (have c24b2 : (t1020 == t1048 && (t1021 == t1049 && (t1022 == t1050))) = true := by simpa using c24))
     clear c24
     obtain ⟨⟨t1051, t1052, t1053⟩, A25, H⟩ := zbs H
     try dsimp only at H
     by_cases c26 : (t1030 == t1051 && (t1031 == t1052 && (t1032 == t1053))) = true
     ·rw [if_pos c26] at H
      have c26b0 : (t1030 == t1051 && (t1031 == t1052 && (t1032 == t1053))) = true := c26
      (try (have c26b1 : decide (t1030 = t1051 && (t1031 == t1052 && (t1032 == t1053))) = true := by simpa using c26))
      (try (have c26b2 : (t1030 == t1051 && (t1031 == t1052 && (t1032 == t1053))) = true := by simpa using c26))
      clear c26
      obtain ⟨⟨t1054, t1055, t1056⟩, A27, H⟩ := zbs H
      try dsimp only at H
      by_cases c28 : (t1033 == t1054 && (t1034 == t1055 && (t1035 == t1056))) = true
      ·rw [if_pos c28] at H
       have c28b0 : (t1033 == t1054 && (t1034 == t1055 && (t1035 == t1056))) = true := c28
       (try (have c28b1 : decide (t1033 = t1054 && (t1034 == t1055 && (t1035 == t1056))) = true := by simpa using c28))
       (try (have c28b2 : (t1033 == t1054 && (t1034 == t1055 && (t1035 == t1056))) = true := by simpa using c28))
       clear c28
       obtain ⟨⟨t1057, t1058, t1059⟩, A29, H⟩ := zbs H
       try dsimp only at H
       by_cases c30 : t1057 = true
       ·subst c30
        replace H := zit H
        obtain ⟨t1060, A31, H⟩ := zbs H
        try dsimp only at H
        by_cases c32 : t1060 = true
        ·subst c32
         replace H := zit H
         obtain ⟨⟨t1061, t1062, t1063⟩, A33, H⟩ := zbs H
         try dsimp only at H
         obtain ⟨t1064, A34, H⟩ := zbs H
         try dsimp only at H
         by_cases c35 : t1064 = true
         ·subst c35
          replace H := zit H
          obtain ⟨y1065, hy1065⟩ : ∃ y_ : List (S43), y_ = (([(⟨t1030, t1031, t1032⟩ : S43), (⟨t1033, t1034, t1035⟩ : S43)] : List (S43))) := ⟨_, rfl⟩
          replace H : ((span_Join.f k y1065).bind fun bt1068 => ((span_Make.f k 0 4611686018427387904).bind fun bt1071 => (if (bt1068.1 == bt1071.1 && (bt1068.2.1 == bt1071.2.1 && (bt1068.2.2 == bt1071.2.2))) = true then ((span_Meet.f k t1030 t1031 t1032 t1033 t1034 t1035).bind fun bt1074 => ((span_Make.f k 4607182418800017408 4611686018427387903).bind fun bt1077 => (if (bt1074.1 == bt1077.1 && (bt1074.2.1 == bt1077.2.1 && (bt1074.2.2 == bt1077.2.2))) = true then ((span_Neg.f k t1033 t1034 t1035).bind fun bt1080 => ((span_Most.f k bt1080.1 bt1080.2.1 bt1080.2.2).bind fun t1083 => (if t1083 = 4611686018427387904 then ((span_Make.f k 13830554455654793216 0).bind fun bt1084 => ((span_Abs.f k bt1084.1 bt1084.2.1 bt1084.2.2).bind fun bt1087 => ((span_Make.f k 0 4607182418800017408).bind fun bt1090 => (some (bt1087.1 == bt1090.1 && (bt1087.2.1 == bt1090.2.1 && (bt1087.2.2 == bt1090.2.2))))))) else (some false)))) else (some false)))) else (some false)))) = some r := by first | (rw [hy1065]; with_reducible exact H) | (have H2_ := (Option.bind_some _ _).symm.trans H; rw [hy1065]; with_reducible exact H2_) | (have H2_ := (Option.bind_some _ _).symm.trans H; with_reducible exact H2_) | with_reducible exact H | (rw [hy1065]; exact H) | exact H
          have Ny1065 := Aside0.mk hy1065
          clear hy1065
          obtain ⟨⟨t1068, t1069, t1070⟩, A36, H⟩ := zbs H
          try dsimp only at H
          obtain ⟨⟨t1071, t1072, t1073⟩, A37, H⟩ := zbs H
          try dsimp only at H
          by_cases c38 : (t1068 == t1071 && (t1069 == t1072 && (t1070 == t1073))) = true
          ·rw [if_pos c38] at H
           have c38b0 : (t1068 == t1071 && (t1069 == t1072 && (t1070 == t1073))) = true := c38
           (try (have c38b1 : decide (t1068 = t1071 && (t1069 == t1072 && (t1070 == t1073))) = true := by simpa using c38))
           (try (have c38b2 : (t1068 == t1071 && (t1069 == t1072 && (t1070 == t1073))) = true := by simpa using c38))
           clear c38
           obtain ⟨⟨t1074, t1075, t1076⟩, A39, H⟩ := zbs H
           try dsimp only at H
           obtain ⟨⟨t1077, t1078, t1079⟩, A40, H⟩ := zbs H
           try dsimp only at H
           by_cases c41 : (t1074 == t1077 && (t1075 == t1078 && (t1076 == t1079))) = true
           ·rw [if_pos c41] at H
            have c41b0 : (t1074 == t1077 && (t1075 == t1078 && (t1076 == t1079))) = true := c41
            (try (have c41b1 : decide (t1074 = t1077 && (t1075 == t1078 && (t1076 == t1079))) = true := by simpa using c41))
            (try (have c41b2 : (t1074 == t1077 && (t1075 == t1078 && (t1076 == t1079))) = true := by simpa using c41))
            clear c41
            obtain ⟨⟨t1080, t1081, t1082⟩, A42, H⟩ := zbs H
            try dsimp only at H
            obtain ⟨t1083, A43, H⟩ := zbs H
            try dsimp only at H
            by_cases c44 : t1083 = 4611686018427387904
            ·rw [if_pos c44] at H
             have c44b0 : (t1083 == 4611686018427387904) = true := beq_iff_eq.mpr c44
             have c44b1 : (t1083 != 4611686018427387904) = false := bne_eq_false_iff_eq.mpr c44
             clear c44
             obtain ⟨⟨t1084, t1085, t1086⟩, A45, H⟩ := zbs H
             try dsimp only at H
             obtain ⟨⟨t1087, t1088, t1089⟩, A46, H⟩ := zbs H
             try dsimp only at H
             obtain ⟨⟨t1090, t1091, t1092⟩, A47, H⟩ := zbs H
             try dsimp only at H
             obtain rfl := Option.some.inj H
             go_enter Try.func36, Try.ntmps36
             try go_wp2_with (first | ((with_reducible refine gtc 37 rfl ?_); refine zgL 7 Try.func37 (span_Make.calls k 4607182418800017408 4611686018427387904 t984 t985 t986 _ A1.out) (h := ?_); rintro w48 hb; replace HB := Aside0.mk (below_step zaB hb); (try clear hb)) | ((with_reducible refine gtc 37 rfl ?_); refine zgL 8 Try.func37 (span_Make.calls k 13837309855095848960 4616189618054758400 t987 t988 t989 _ A2.out) (h := ?_); rintro w49 hb; replace HB := Aside0.mk (below_step zaB hb); (try clear hb)) | ((with_reducible refine gtc 67 rfl ?_); refine zgL 9 Try.func67 (span_Mul.calls k t984 t985 t986 t987 t988 t989 t990 t991 t992 _ A3.out) (h := ?_); rintro w50 hb; replace HB := Aside0.mk (below_step zaB hb); (try clear hb)) | ((with_reducible refine gtd 1 rfl ?_); (try (refine gate_guard (by rfl) ?_; dsimp only)); refine zbx 1 #[.bool false, .int .u64 0, .int .u64 0] 43 (h := ?_); intro gb993 hg w51 hbox hb; have GW993 := zkZ hg (zaB (p := Below w.heap.size w _)); replace HB := Aside0.mk (below_step zaB hb); have BK993 := Aside0.mk (hbox); clear hb hbox hg; refine zu3 BK993 fun _ _ _ _ _ _ => ?_) | ((with_reducible refine gtc 39 rfl ?_); refine zgL 10 Try.func39 (span_Point.calls k 4607182418800017408 t994 t995 t996 _ A4.out) (h := ?_); rintro w53 hb; replace BK993 := Aside0.mk (blk_below (o := .cells #[.bool t990, .int .u64 t991, .int .u64 t992] 43 (0, 0)) (blk_put (cs := #[.bool t990, .int .u64 t991, .int .u64 0]) (blk_put (cs := #[.bool t990, .int .u64 0, .int .u64 0]) (blk_put BK993.out 0 _ rfl) 1 _ rfl) 2 _ rfl) hb); replace HB := Aside0.mk (below_step (below_set (below_set (below_set HB.out GW993.out) GW993.out) GW993.out) hb); (try clear hb)) | ((with_reducible refine gtc 37 rfl ?_); refine zgL 11 Try.func37 (span_Make.calls k 13830554455654793216 4611686018427387904 t997 t998 t999 _ A5.out) (h := ?_); rintro w54 hb; replace BK993 := zkb BK993 hb; replace HB := zkB HB hb; (try clear hb)) | ((with_reducible refine gtc 68 rfl ?_); refine zgL 12 Try.func68 (span_Div.calls k t994 t995 t996 t997 t998 t999 t1000 t1001 t1002 _ A6.out) (h := ?_); rintro w55 hb; replace BK993 := zkb BK993 hb; replace HB := zkB HB hb; (try clear hb)) | ((with_reducible refine gtd 2 rfl ?_); (try (refine gate_guard (by rfl) ?_; dsimp only)); refine zbx 2 #[.bool false, .int .u64 0, .int .u64 0] 43 (h := ?_); intro gb1003 hg w56 hbox hb; refine zbn1 HB BK993 hg hb hbox (c := ?_); clear HB BK993 hb hbox hg; intro GW1003 NB993_1003 BK993 HB BK1003; refine zt1 NB993_1003 fun _ _ => ?_; refine zu3 BK1003 fun _ _ _ _ _ _ => ?_) | ((with_reducible refine gtc 39 rfl ?_); refine zgL 13 Try.func39 (span_Point.calls k 0 t1004 t1005 t1006 _ A7.out) (h := ?_); rintro w59 hb; replace BK993 := Aside0.mk (blk_below (zkf (zkf (zkf BK993.out NB993_1003.out _) NB993_1003.out _) NB993_1003.out _) hb); replace BK1003 := Aside0.mk (blk_below (o := .cells #[.bool t1000, .int .u64 t1001, .int .u64 t1002] 43 (0, 0)) (blk_put (cs := #[.bool t1000, .int .u64 t1001, .int .u64 0]) (blk_put (cs := #[.bool t1000, .int .u64 0, .int .u64 0]) (blk_put BK1003.out 0 _ rfl) 1 _ rfl) 2 _ rfl) hb); replace HB := Aside0.mk (below_step (below_set (below_set (below_set HB.out GW1003.out) GW1003.out) GW1003.out) hb); (try clear hb)) | ((with_reducible refine gtc 37 rfl ?_); refine zgL 14 Try.func37 (span_Make.calls k 13830554455654793216 4611686018427387904 t1007 t1008 t1009 _ A8.out) (h := ?_); rintro w60 hb; refine zcn2 HB BK993 BK1003 hb (c := ?_); clear HB BK993 BK1003 hb; intro BK993 BK1003 HB) | ((with_reducible refine gtc 68 rfl ?_); refine zgL 15 Try.func68 (span_Div.calls k t1004 t1005 t1006 t1007 t1008 t1009 t1010 t1011 t1012 _ A9.out) (h := ?_); rintro w61 hb; refine zcn2 HB BK993 BK1003 hb (c := ?_); clear HB BK993 BK1003 hb; intro BK993 BK1003 HB) | ((with_reducible refine gtd 3 rfl ?_); (try (refine gate_guard (by rfl) ?_; dsimp only)); refine zbx 3 #[.bool false, .int .u64 0, .int .u64 0] 43 (h := ?_); intro gb1013 hg w62 hbox hb; refine zbn2 HB BK993 BK1003 hg hb hbox (c := ?_); clear HB BK993 BK1003 hb hbox hg; intro GW1013 NB993_1013 NB1003_1013 BK993 BK1003 HB BK1013; refine zt2 NB993_1013 NB1003_1013 fun _ _ _ _ => ?_; refine zu3 BK1013 fun _ _ _ _ _ _ => ?_) | ((with_reducible refine gtc 39 rfl ?_); refine zgL 16 Try.func39 (span_Point.calls k 4607182418800017408 t1014 t1015 t1016 _ A10.out) (h := ?_); rintro w66 hb; replace BK993 := Aside0.mk (blk_below (zkf (zkf (zkf BK993.out NB993_1013.out _) NB993_1013.out _) NB993_1013.out _) hb); replace BK1003 := Aside0.mk (blk_below (zkf (zkf (zkf BK1003.out NB1003_1013.out _) NB1003_1013.out _) NB1003_1013.out _) hb); replace BK1013 := Aside0.mk (blk_below (o := .cells #[.bool t1010, .int .u64 t1011, .int .u64 t1012] 43 (0, 0)) (blk_put (cs := #[.bool t1010, .int .u64 t1011, .int .u64 0]) (blk_put (cs := #[.bool t1010, .int .u64 0, .int .u64 0]) (blk_put BK1013.out 0 _ rfl) 1 _ rfl) 2 _ rfl) hb); replace HB := Aside0.mk (below_step (below_set (below_set (below_set HB.out GW1013.out) GW1013.out) GW1013.out) hb); (try clear hb)) | ((with_reducible refine gtc 37 rfl ?_); refine zgL 17 Try.func37 (span_Make.calls k 0 4616189618054758400 t1017 t1018 t1019 _ A11.out) (h := ?_); rintro w67 hb; refine zcn3 HB BK993 BK1003 BK1013 hb (c := ?_); clear HB BK993 BK1003 BK1013 hb; intro BK993 BK1003 BK1013 HB) | ((with_reducible refine gtc 68 rfl ?_); refine zgL 18 Try.func68 (span_Div.calls k t1014 t1015 t1016 t1017 t1018 t1019 t1020 t1021 t1022 _ A12.out) (h := ?_); rintro w68 hb; refine zcn3 HB BK993 BK1003 BK1013 hb (c := ?_); clear HB BK993 BK1003 BK1013 hb; intro BK993 BK1003 BK1013 HB) | ((with_reducible refine gtd 4 rfl ?_); (try (refine gate_guard (by rfl) ?_; dsimp only)); refine zbx 4 #[.bool false, .int .u64 0, .int .u64 0] 43 (h := ?_); intro gb1023 hg w69 hbox hb; refine zbn3 HB BK993 BK1003 BK1013 hg hb hbox (c := ?_); clear HB BK993 BK1003 BK1013 hb hbox hg; intro GW1023 NB993_1023 NB1003_1023 NB1013_1023 BK993 BK1003 BK1013 HB BK1023; refine zt3 NB993_1023 NB1003_1023 NB1013_1023 fun _ _ _ _ _ _ => ?_; refine zu3 BK1023 fun _ _ _ _ _ _ => ?_) | ((with_reducible refine gtc 37 rfl ?_); refine zgL 20 Try.func37 (span_Make.calls k 0 4616189618054758400 t1024 t1025 t1026 _ A13.out) (h := ?_); rintro w74 hb; replace BK993 := Aside0.mk (blk_below (zkf (zkf (zkf BK993.out NB993_1023.out _) NB993_1023.out _) NB993_1023.out _) hb); replace BK1003 := Aside0.mk (blk_below (zkf (zkf (zkf BK1003.out NB1003_1023.out _) NB1003_1023.out _) NB1003_1023.out _) hb); replace BK1013 := Aside0.mk (blk_below (zkf (zkf (zkf BK1013.out NB1013_1023.out _) NB1013_1023.out _) NB1013_1023.out _) hb); replace BK1023 := Aside0.mk (blk_below (o := .cells #[.bool t1020, .int .u64 t1021, .int .u64 t1022] 43 (0, 0)) (blk_put (cs := #[.bool t1020, .int .u64 t1021, .int .u64 0]) (blk_put (cs := #[.bool t1020, .int .u64 0, .int .u64 0]) (blk_put BK1023.out 0 _ rfl) 1 _ rfl) 2 _ rfl) hb); replace HB := Aside0.mk (below_step (below_set (below_set (below_set HB.out GW1023.out) GW1023.out) GW1023.out) hb); (try clear hb)) | ((with_reducible refine gtc 37 rfl ?_); refine zgL 21 Try.func37 (span_Make.calls k 4607182418800017408 4611686018427387904 t1027 t1028 t1029 _ A14.out) (h := ?_); rintro w75 hb; refine zcn4 HB BK993 BK1003 BK1013 BK1023 hb (c := ?_); clear HB BK993 BK1003 BK1013 BK1023 hb; intro BK993 BK1003 BK1013 BK1023 HB) | ((with_reducible refine gtc 52 rfl ?_); refine zgL 22 Try.func52 (span_Test.calls k 9 t1024 t1025 t1026 t1027 t1028 t1029 t1030 t1031 t1032 t1033 t1034 t1035 _ A15.out) (h := ?_); rintro w76 hb; refine zcn4 HB BK993 BK1003 BK1013 BK1023 hb (c := ?_); clear HB BK993 BK1003 BK1013 BK1023 hb; intro BK993 BK1003 BK1013 BK1023 HB) | ((with_reducible refine gtd 5 rfl ?_); (try (refine gate_guard (by rfl) ?_; dsimp only)); refine zbx 5 #[.bool false, .int .u64 0, .int .u64 0] 43 (h := ?_); intro gb1036 hg w77 hbox hb; refine zbn4 HB BK993 BK1003 BK1013 BK1023 hg hb hbox (c := ?_); clear HB BK993 BK1003 BK1013 BK1023 hb hbox hg; intro GW1036 NB993_1036 NB1003_1036 NB1013_1036 NB1023_1036 BK993 BK1003 BK1013 BK1023 HB BK1036) | ((with_reducible refine gtd 6 rfl ?_); (try (refine gate_guard (by rfl) ?_; dsimp only)); refine zbx 6 #[.bool false, .int .u64 0, .int .u64 0] 43 (h := ?_); intro gb1037 hg w78 hbox hb; refine zbn5 HB BK993 BK1003 BK1013 BK1023 BK1036 hg hb hbox (c := ?_); clear HB BK993 BK1003 BK1013 BK1023 BK1036 hb hbox hg; intro GW1037 NB993_1037 NB1003_1037 NB1013_1037 NB1023_1037 NB1036_1037 BK993 BK1003 BK1013 BK1023 BK1036 HB BK1037; refine zt5 NB993_1036 NB1003_1036 NB1013_1036 NB1023_1036 NB1036_1037 fun _ _ _ _ _ _ _ _ _ _ => ?_; refine zu3 BK1036 fun _ _ _ _ _ _ => ?_; refine zt4 NB993_1037 NB1003_1037 NB1013_1037 NB1023_1037 fun _ _ _ _ _ _ _ _ => ?_; refine zu3 BK1037 fun _ _ _ _ _ _ => ?_))
             generalize hW_ : ((((((w78.setCell ⟨gb1036, 0, none⟩ (.bool t1030)).setCell ⟨gb1036, 1, none⟩ (.int .u64 t1031)).setCell ⟨gb1036, 2, none⟩ (.int .u64 t1032)).setCell ⟨gb1037, 0, none⟩ (.bool t1033)).setCell ⟨gb1037, 1, none⟩ (.int .u64 t1034)).setCell ⟨gb1037, 2, none⟩ (.int .u64 t1035)) = w90
             replace BK993 := zkg hW_ (zkf (zkf (zkf (zkf (zkf (zkf BK993.out NB993_1036.out _) NB993_1036.out _) NB993_1036.out _) NB993_1037.out _) NB993_1037.out _) NB993_1037.out _)
             replace BK1003 := zkg hW_ (zkf (zkf (zkf (zkf (zkf (zkf BK1003.out NB1003_1036.out _) NB1003_1036.out _) NB1003_1036.out _) NB1003_1037.out _) NB1003_1037.out _) NB1003_1037.out _)
             replace BK1013 := zkg hW_ (zkf (zkf (zkf (zkf (zkf (zkf BK1013.out NB1013_1036.out _) NB1013_1036.out _) NB1013_1036.out _) NB1013_1037.out _) NB1013_1037.out _) NB1013_1037.out _)
             replace BK1023 := zkg hW_ (zkf (zkf (zkf (zkf (zkf (zkf BK1023.out NB1023_1036.out _) NB1023_1036.out _) NB1023_1036.out _) NB1023_1037.out _) NB1023_1037.out _) NB1023_1037.out _)
             replace BK1036 := zkg hW_ (ob := .cells #[.bool t1030, .int .u64 t1031, .int .u64 t1032] 43 (0, 0)) (zkf (zkf (zkf (blk_put (cs := #[.bool t1030, .int .u64 t1031, .int .u64 0]) (blk_put (cs := #[.bool t1030, .int .u64 0, .int .u64 0]) (blk_put BK1036.out 0 _ rfl) 1 _ rfl) 2 _ rfl) NB1036_1037.out _) NB1036_1037.out _) NB1036_1037.out _)
             replace BK1037 := zkg hW_ (ob := .cells #[.bool t1033, .int .u64 t1034, .int .u64 t1035] 43 (0, 0)) (blk_put (cs := #[.bool t1033, .int .u64 t1034, .int .u64 0]) (blk_put (cs := #[.bool t1033, .int .u64 0, .int .u64 0]) (blk_put (zkf (zkf (zkf BK1037.out (zks NB1036_1037).out _) (zks NB1036_1037).out _) (zks NB1036_1037).out _) 0 _ rfl) 1 _ rfl) 2 _ rfl)
             replace HB := zkG hW_ (below_set (below_set (below_set (below_set (below_set (below_set HB.out GW1036.out) GW1036.out) GW1036.out) GW1037.out) GW1037.out) GW1037.out)
             clear hW_
             replace BK993 := Aside0.mk (blk_drew BK993.out)
             replace BK1003 := Aside0.mk (blk_drew BK1003.out)
             replace BK1013 := Aside0.mk (blk_drew BK1013.out)
             replace BK1023 := Aside0.mk (blk_drew BK1023.out)
             replace BK1036 := Aside0.mk (blk_drew BK1036.out)
             replace BK1037 := Aside0.mk (blk_drew BK1037.out)
             replace HB := Aside0.mk (below_drew1 HB.out)
             refine start_ (n := 70) (S := fun w' => w'.cell? ⟨gb993, 0, none⟩ = some (.bool t990) ∧ w'.cell? ⟨gb993, 1, none⟩ = some (.int .u64 t991) ∧ w'.cell? ⟨gb993, 2, none⟩ = some (.int .u64 t992) ∧ w'.cell? ⟨gb1003, 0, none⟩ = some (.bool t1000) ∧ w'.cell? ⟨gb1003, 1, none⟩ = some (.int .u64 t1001) ∧ w'.cell? ⟨gb1003, 2, none⟩ = some (.int .u64 t1002) ∧ w'.cell? ⟨gb1013, 0, none⟩ = some (.bool t1010) ∧ w'.cell? ⟨gb1013, 1, none⟩ = some (.int .u64 t1011) ∧ w'.cell? ⟨gb1013, 2, none⟩ = some (.int .u64 t1012) ∧ w'.cell? ⟨gb1023, 0, none⟩ = some (.bool t1020) ∧ w'.cell? ⟨gb1023, 1, none⟩ = some (.int .u64 t1021) ∧ w'.cell? ⟨gb1023, 2, none⟩ = some (.int .u64 t1022) ∧ w'.cell? ⟨gb1036, 0, none⟩ = some (.bool t1030) ∧ w'.cell? ⟨gb1036, 1, none⟩ = some (.int .u64 t1031) ∧ w'.cell? ⟨gb1036, 2, none⟩ = some (.int .u64 t1032) ∧ w'.cell? ⟨gb1037, 0, none⟩ = some (.bool t1033) ∧ w'.cell? ⟨gb1037, 1, none⟩ = some (.int .u64 t1034) ∧ w'.cell? ⟨gb1037, 2, none⟩ = some (.int .u64 t1035)) (ds := []) #[false, false, false, false, false, false, false, false, false, false, false, false, false, false, false, false, false, false, false, false, false, false, false, false, false, false, false, false, false, false, false, false, false, false, false, false, false, false, false, false, false, false, false, false, false, false, false, false, false, false, false, false, false, false, false, false, false, false, false, false, false, false, false, false, false, false, false, false, false, false] (by kernel_rfl) rfl rfl (zk3 BK993 (zk3 BK1003 (zk3 BK1013 (zk3 BK1023 (zk3 BK1036 (ze3 BK1037)))))) (fun hHeld => ?_); refine with_tabW flyballlaw16_works.tab6 flyballlaw16_works.bits6 (fun HT_ HW_ => ?_)
             generalize w90.drew = w91 at BK993 BK1003 BK1013 BK1023 BK1036 BK1037 HB hHeld ⊢
             refine ztA 0 25 (h := ?_)
             refine zoA 1 26 (h := fun K hK => ?_)
             refine zgA Try.func37 (span_Make.calls k 13841813454723219456 4620693217682128896 t1038 t1039 t1040 _ A16.out) (h := ?_)
             rintro w92 hb
             refine zcn6 HB BK993 BK1003 BK1013 BK1023 BK1036 BK1037 hb (c := ?_)
             clear HB BK993 BK1003 BK1013 BK1023 BK1036 BK1037 hb
             intro BK993 BK1003 BK1013 BK1023 BK1036 BK1037 HB
             refine hK.out _ _ (zk3 BK993 (zk3 BK1003 (zk3 BK1013 (zk3 BK1023 (zk3 BK1036 (ze3 BK1037)))))) (fun hHeld => ?_)
             clear hK K
             refine znA 26 (h := ?_)
             refine zpA 2 27 (h := ?_)
             refine zpA 3 28 (h := ?_)
             refine ztA 4 29 (h := ?_)
             refine zoA 5 30 (h := fun K hK => ?_)
             refine zgA Try.func40 (span_All.calls k  t1041 t1042 t1043 _ A18.out) (h := ?_)
             rintro w93 hb
             refine zcn6 HB BK993 BK1003 BK1013 BK1023 BK1036 BK1037 hb (c := ?_)
             clear HB BK993 BK1003 BK1013 BK1023 BK1036 BK1037 hb
             intro BK993 BK1003 BK1013 BK1023 BK1036 BK1037 HB
             refine hK.out _ _ (zk3 BK993 (zk3 BK1003 (zk3 BK1013 (zk3 BK1023 (zk3 BK1036 (ze3 BK1037)))))) (fun hHeld => ?_)
             clear hK K
             refine znA 30 (h := ?_)
             refine zpA 6 31 (h := ?_)
             refine zpA 7 32 (h := ?_)
             refine zpA 8 33 (h := ?_)
             refine ztA 9 34 (h := ?_)
             refine zoA 10 35 (h := fun K hK => ?_)
             refine zgA Try.func39 (span_Point.calls k 0 t1044 t1045 t1046 _ A20.out) (h := ?_)
             rintro w94 hb
             refine zcn6 HB BK993 BK1003 BK1013 BK1023 BK1036 BK1037 hb (c := ?_)
             clear HB BK993 BK1003 BK1013 BK1023 BK1036 BK1037 hb
             intro BK993 BK1003 BK1013 BK1023 BK1036 BK1037 HB
             refine hK.out _ _ (zk3 BK993 (zk3 BK1003 (zk3 BK1013 (zk3 BK1023 (zk3 BK1036 (ze3 BK1037)))))) (fun hHeld => ?_)
             clear hK K
             refine znA 35 (h := ?_)
             refine zpA 11 36 (h := ?_)
             refine zpA 12 37 (h := ?_)
             refine zpA 13 38 (h := ?_)
             refine ztA 14 39 (h := ?_)
             refine zoA 15 40 (h := fun K hK => ?_)
             refine zgA Try.func79 (pattern_Inf.calls k false t1047 _ A22.out) (h := ?_)
             rintro w' ⟨nd, rfl⟩
             refine hK.out _ _ (zk3 BK993 (zk3 BK1003 (zk3 BK1013 (zk3 BK1023 (zk3 BK1036 (ze3 BK1037)))))) (fun hHeld => ?_)
             clear hK K
             refine znA 40 (h := ?_)
             refine zoA 16 41 (h := fun K hK => ?_)
             refine zgA Try.func37 (span_Make.calls k 4598175219545276416 t1047 t1048 t1049 t1050 _ A23.out) (h := ?_)
             rintro w95 hb
             refine zcn6 HB BK993 BK1003 BK1013 BK1023 BK1036 BK1037 hb (c := ?_)
             clear HB BK993 BK1003 BK1013 BK1023 BK1036 BK1037 hb
             intro BK993 BK1003 BK1013 BK1023 BK1036 BK1037 HB
             refine hK.out _ _ (zk3 BK993 (zk3 BK1003 (zk3 BK1013 (zk3 BK1023 (zk3 BK1036 (ze3 BK1037)))))) (fun hHeld => ?_)
             clear hK K
             refine znA 41 (h := ?_)
             refine zpA 17 42 (h := ?_)
             refine zpA 18 43 (h := ?_)
             refine zpA 19 44 (h := ?_)
             refine ztA 20 45 (h := ?_)
             refine zoA 21 46 (h := fun K hK => ?_)
             refine zgA Try.func37 (span_Make.calls k 0 4611686018427387903 t1051 t1052 t1053 _ A25.out) (h := ?_)
             rintro w96 hb
             refine zcn6 HB BK993 BK1003 BK1013 BK1023 BK1036 BK1037 hb (c := ?_)
             clear HB BK993 BK1003 BK1013 BK1023 BK1036 BK1037 hb
             intro BK993 BK1003 BK1013 BK1023 BK1036 BK1037 HB
             refine hK.out _ _ (zk3 BK993 (zk3 BK1003 (zk3 BK1013 (zk3 BK1023 (zk3 BK1036 (ze3 BK1037)))))) (fun hHeld => ?_)
             clear hK K
             refine znA 46 (h := ?_)
             refine zpA 22 47 (h := ?_)
             refine zpA 23 48 (h := ?_)
             refine zpA 24 49 (h := ?_)
             refine ztA 25 50 (h := ?_)
             refine zoA 26 51 (h := fun K hK => ?_)
             refine zgA Try.func37 (span_Make.calls k 4607182418800017408 4611686018427387904 t1054 t1055 t1056 _ A27.out) (h := ?_)
             rintro w97 hb
             refine zcn6 HB BK993 BK1003 BK1013 BK1023 BK1036 BK1037 hb (c := ?_)
             clear HB BK993 BK1003 BK1013 BK1023 BK1036 BK1037 hb
             intro BK993 BK1003 BK1013 BK1023 BK1036 BK1037 HB
             refine hK.out _ _ (zk3 BK993 (zk3 BK1003 (zk3 BK1013 (zk3 BK1023 (zk3 BK1036 (ze3 BK1037)))))) (fun hHeld => ?_)
             clear hK K
             refine znA 51 (h := ?_)
             refine zpA 27 52 (h := ?_)
             refine zpA 28 53 (h := ?_)
             refine zpA 29 54 (h := ?_)
             refine zoA 30 55 (h := fun K hK => ?_)
             refine zgA Try.func37 (span_Make.calls k 4611686018427387904 4607182418800017408 true t1058 t1059 _ A29.out) (h := ?_)
             rintro w98 hb
             refine zcn6 HB BK993 BK1003 BK1013 BK1023 BK1036 BK1037 hb (c := ?_)
             clear HB BK993 BK1003 BK1013 BK1023 BK1036 BK1037 hb
             intro BK993 BK1003 BK1013 BK1023 BK1036 BK1037 HB
             refine hK.out _ _ (zk3 BK993 (zk3 BK1003 (zk3 BK1013 (zk3 BK1023 (zk3 BK1036 (ze3 BK1037)))))) (fun hHeld => ?_)
             clear hK K
             refine znA 55 (h := ?_)
             refine zpA 31 56 (h := ?_)
             refine zpA 32 57 (h := ?_)
             refine zpA 33 58 (h := ?_)
             refine ztA 34 59 (h := ?_)
             refine zoA 35 60 (h := fun K hK => ?_)
             refine zgA Try.func41 (span_Has.calls k t1030 t1031 t1032 4607182418800017408 true _ A31.out) (h := ?_)
             rintro w99 hb
             refine zcn6 HB BK993 BK1003 BK1013 BK1023 BK1036 BK1037 hb (c := ?_)
             clear HB BK993 BK1003 BK1013 BK1023 BK1036 BK1037 hb
             intro BK993 BK1003 BK1013 BK1023 BK1036 BK1037 HB
             refine hK.out _ _ (zk3 BK993 (zk3 BK1003 (zk3 BK1013 (zk3 BK1023 (zk3 BK1036 (ze3 BK1037)))))) (fun hHeld => ?_)
             clear hK K
             refine znA 60 (h := ?_)
             refine zpA 36 61 (h := ?_)
             refine zpA 37 62 (h := ?_)
             refine ztA 38 63 (h := ?_)
             refine zoA 39 64 (h := fun K hK => ?_)
             refine zgA Try.func37 (span_Make.calls k 0 4616189618054758400 t1061 t1062 t1063 _ A33.out) (h := ?_)
             rintro w100 hb
             refine zcn6 HB BK993 BK1003 BK1013 BK1023 BK1036 BK1037 hb (c := ?_)
             clear HB BK993 BK1003 BK1013 BK1023 BK1036 BK1037 hb
             intro BK993 BK1003 BK1013 BK1023 BK1036 BK1037 HB
             refine hK.out _ _ (zk3 BK993 (zk3 BK1003 (zk3 BK1013 (zk3 BK1023 (zk3 BK1036 (ze3 BK1037)))))) (fun hHeld => ?_)
             clear hK K
             refine znA 64 (h := ?_)
             refine zoA 40 65 (h := fun K hK => ?_)
             refine zgA Try.func43 (span_Inside.calls k t1033 t1034 t1035 t1061 t1062 t1063 true _ A34.out) (h := ?_)
             rintro w101 hb
             refine zcn6 HB BK993 BK1003 BK1013 BK1023 BK1036 BK1037 hb (c := ?_)
             clear HB BK993 BK1003 BK1013 BK1023 BK1036 BK1037 hb
             intro BK993 BK1003 BK1013 BK1023 BK1036 BK1037 HB
             refine hK.out _ _ (zk3 BK993 (zk3 BK1003 (zk3 BK1013 (zk3 BK1023 (zk3 BK1036 (ze3 BK1037)))))) (fun hHeld => ?_)
             clear hK K
             refine znA 65 (h := ?_)
             refine zpA 41 66 (h := ?_)
             refine zpA 42 67 (h := ?_)
             refine ztA 43 68 (h := ?_)
             refine ztA 44 69 (h := ?_)
             refine zoA 45 70 (h := fun K hK => ?_)
             refine Kd.R_lit_step k43 _ 43 ?hg (N := 70) ?hd (xs := ([(⟨t1030, t1031, t1032⟩ : S43), (⟨t1033, t1034, t1035⟩ : S43)] : List (S43))) (inner := [.bool t1030, .int .u64 t1031, .int .u64 t1032, .bool t1033, .int .u64 t1034, .int .u64 t1035]) (ok := fun _ => True) (okp := fun _ => True) ?hr ?hp (fun _ hk => hk) trivial (Below.refl _ _) (Nat.le_refl _) (by simp) ?_; (case hd => rfl); (case hg => rfl); (case hr => first | (go_simp; done) | (go_simp; rfl)); (case hp => exact (Reps.c3 (show Kd.M k43 _ _ _ (⟨t1030, t1031, t1032⟩ : S43) [.bool t1030, .int .u64 t1031, .int .u64 t1032] from (k43_mkM _ _ _ (⟨t1030, t1031, t1032⟩ : S43) )) (Reps.c3 (show Kd.M k43 _ _ _ (⟨t1033, t1034, t1035⟩ : S43) [.bool t1033, .int .u64 t1034, .int .u64 t1035] from (k43_mkM _ _ _ (⟨t1033, t1034, t1035⟩ : S43) )) (Reps.none _ _))))
             intro v1066 w102 ho103 hb hg_ hnew_
             clear hg_ hnew_
             (first | rw [← Ny1065.out] at ho103 | (simp only [Int.reduceToNat] at ho103; rw [← Ny1065.out] at ho103))
             have HO1067 := Aside0.mk (Kd.R_lower (Kd.R_newB (Kd.R_newB (Kd.R_newB (Kd.R_newB (Kd.R_newB (Kd.R_newB ho103 (g := gb993) (o := .cells #[.bool t990, .int .u64 t991, .int .u64 t992] 43 (0, 0)) (zkq BK993)) (g := gb1003) (o := .cells #[.bool t1000, .int .u64 t1001, .int .u64 t1002] 43 (0, 0)) (zkq BK1003)) (g := gb1013) (o := .cells #[.bool t1010, .int .u64 t1011, .int .u64 t1012] 43 (0, 0)) (zkq BK1013)) (g := gb1023) (o := .cells #[.bool t1020, .int .u64 t1021, .int .u64 t1022] 43 (0, 0)) (zkq BK1023)) (g := gb1036) (o := .cells #[.bool t1030, .int .u64 t1031, .int .u64 t1032] 43 (0, 0)) (zkq BK1036)) (g := gb1037) (o := .cells #[.bool t1033, .int .u64 t1034, .int .u64 t1035] 43 (0, 0)) (zkq BK1037)) (below_size zaB))
             replace BK993 := zkb BK993 hb
             replace BK1003 := zkb BK1003 hb
             replace BK1013 := zkb BK1013 hb
             replace BK1023 := zkb BK1023 hb
             replace BK1036 := zkb BK1036 hb
             replace BK1037 := zkb BK1037 hb
             replace HB := zkB HB hb
             clear hb ho103
             obtain ⟨Ao104, co104, eo104⟩ := Kd.R_slice HO1067.out
             (first | subst eo104 | (injection eo104 with f1_ f2_ f3_; have f4_ := f1_.symm; have f5_ := f3_.symm; clear f1_ f2_ f3_; subst f4_; subst f5_))
             refine hK.out _ _ (zk3 BK993 (zk3 BK1003 (zk3 BK1013 (zk3 BK1023 (zk3 BK1036 (ze3 BK1037)))))) (fun hHeld => ?_)
             clear hK K
             refine znA 70 (h := ?_)
             refine zoA 46 71 (h := fun K hK => ?_)
             refine goes_ Try.func45 (by kernel_rfl) rfl #[.slice Ao104 y1065.length co104] (by rfl) rfl rfl (by (try simp only [List.map_toArray, List.map_cons, List.map_nil]); first | done | rfl | (simp only [List.length_drop, List.length_take]; rfl)) ?_
             with_reducible refine (span_Join.calls k _ _ y1065 t1068 t1069 t1070 _ ?side1 ?side2 A36.out).mono ?_
             (case side1 => repeat (first | exact (Kd.R_reads' HO1067.out).2.2 | (with_reducible refine Kd.C_alloc ?_ _) | (with_reducible refine Kd.C_drewN ?_ _) | (with_reducible refine Kd.C_drew ?_)))
             (case side2 => exact (Kd.R_reads' HO1067.out).2.1)
             rintro e w105 ⟨rfl, hb⟩
             refine ⟨_, rfl, ?_⟩
             replace HO1067 := Aside0.mk (Kd.R_below (zRW HO1067.out) hb)
             refine zcn6 HB BK993 BK1003 BK1013 BK1023 BK1036 BK1037 hb (c := ?_)
             clear HB BK993 BK1003 BK1013 BK1023 BK1036 BK1037 hb
             intro BK993 BK1003 BK1013 BK1023 BK1036 BK1037 HB
             refine hK.out _ _ (zk3 BK993 (zk3 BK1003 (zk3 BK1013 (zk3 BK1023 (zk3 BK1036 (ze3 BK1037)))))) (fun hHeld => ?_)
             clear hK K
             refine znA 71 (h := ?_)
             refine zoA 47 72 (h := fun K hK => ?_)
             refine zgA Try.func37 (span_Make.calls k 0 4611686018427387904 t1071 t1072 t1073 _ A37.out) (h := ?_)
             rintro w106 hb
             replace HO1067 := Aside0.mk (Kd.R_below (zRW HO1067.out) hb)
             refine zcn6 HB BK993 BK1003 BK1013 BK1023 BK1036 BK1037 hb (c := ?_)
             clear HB BK993 BK1003 BK1013 BK1023 BK1036 BK1037 hb
             intro BK993 BK1003 BK1013 BK1023 BK1036 BK1037 HB
             refine hK.out _ _ (zk3 BK993 (zk3 BK1003 (zk3 BK1013 (zk3 BK1023 (zk3 BK1036 (ze3 BK1037)))))) (fun hHeld => ?_)
             clear hK K
             refine znA 72 (h := ?_)
             refine zpA 48 73 (h := ?_)
             refine zpA 49 74 (h := ?_)
             refine zpA 50 75 (h := ?_)
             refine ztA 51 76 (h := ?_)
             refine ztA 52 77 (h := ?_)
             refine zoA 53 78 (h := fun K hK => ?_)
             refine zgA Try.func47 (span_Meet.calls k t1030 t1031 t1032 t1033 t1034 t1035 t1074 t1075 t1076 _ A39.out) (h := ?_)
             rintro w107 hb
             replace HO1067 := Aside0.mk (Kd.R_below (zRW HO1067.out) hb)
             refine zcn6 HB BK993 BK1003 BK1013 BK1023 BK1036 BK1037 hb (c := ?_)
             clear HB BK993 BK1003 BK1013 BK1023 BK1036 BK1037 hb
             intro BK993 BK1003 BK1013 BK1023 BK1036 BK1037 HB
             refine hK.out _ _ (zk3 BK993 (zk3 BK1003 (zk3 BK1013 (zk3 BK1023 (zk3 BK1036 (ze3 BK1037)))))) (fun hHeld => ?_)
             clear hK K
             refine znA 78 (h := ?_)
             refine zoA 54 79 (h := fun K hK => ?_)
             refine zgA Try.func37 (span_Make.calls k 4607182418800017408 4611686018427387903 t1077 t1078 t1079 _ A40.out) (h := ?_)
             rintro w108 hb
             replace HO1067 := Aside0.mk (Kd.R_below (zRW HO1067.out) hb)
             refine zcn6 HB BK993 BK1003 BK1013 BK1023 BK1036 BK1037 hb (c := ?_)
             clear HB BK993 BK1003 BK1013 BK1023 BK1036 BK1037 hb
             intro BK993 BK1003 BK1013 BK1023 BK1036 BK1037 HB
             refine hK.out _ _ (zk3 BK993 (zk3 BK1003 (zk3 BK1013 (zk3 BK1023 (zk3 BK1036 (ze3 BK1037)))))) (fun hHeld => ?_)
             clear hK K
             refine znA 79 (h := ?_)
             refine zpA 55 80 (h := ?_)
             refine zpA 56 81 (h := ?_)
             refine zpA 57 82 (h := ?_)
             refine ztA 58 83 (h := ?_)
             refine zoA 59 84 (h := fun K hK => ?_)
             refine zgA Try.func111 (span_Neg.calls k t1033 t1034 t1035 t1080 t1081 t1082 _ A42.out) (h := ?_)
             rintro w109 hb
             replace HO1067 := Aside0.mk (Kd.R_below (zRW HO1067.out) hb)
             refine zcn6 HB BK993 BK1003 BK1013 BK1023 BK1036 BK1037 hb (c := ?_)
             clear HB BK993 BK1003 BK1013 BK1023 BK1036 BK1037 hb
             intro BK993 BK1003 BK1013 BK1023 BK1036 BK1037 HB
             refine hK.out _ _ (zk3 BK993 (zk3 BK1003 (zk3 BK1013 (zk3 BK1023 (zk3 BK1036 (ze3 BK1037)))))) (fun hHeld => ?_)
             clear hK K
             refine znA 84 (h := ?_)
             refine zoA 60 85 (h := fun K hK => ?_)
             refine zgA Try.func50 (span_Most.calls k t1080 t1081 t1082 t1083 _ A43.out) (h := ?_)
             rintro w110 hb
             replace HO1067 := Aside0.mk (Kd.R_below (zRW HO1067.out) hb)
             refine zcn6 HB BK993 BK1003 BK1013 BK1023 BK1036 BK1037 hb (c := ?_)
             clear HB BK993 BK1003 BK1013 BK1023 BK1036 BK1037 hb
             intro BK993 BK1003 BK1013 BK1023 BK1036 BK1037 HB
             refine hK.out _ _ (zk3 BK993 (zk3 BK1003 (zk3 BK1013 (zk3 BK1023 (zk3 BK1036 (ze3 BK1037)))))) (fun hHeld => ?_)
             clear hK K
             refine znA 85 (h := ?_)
             refine zpA 61 86 (h := ?_)
             refine zpA 62 87 (h := ?_)
             refine zpA 63 88 (h := ?_)
             refine zoA 64 89 (h := fun K hK => ?_)
             refine zgA Try.func37 (span_Make.calls k 13830554455654793216 0 t1084 t1085 t1086 _ A45.out) (h := ?_)
             rintro w111 hb
             replace HO1067 := Aside0.mk (Kd.R_below (zRW HO1067.out) hb)
             refine zcn6 HB BK993 BK1003 BK1013 BK1023 BK1036 BK1037 hb (c := ?_)
             clear HB BK993 BK1003 BK1013 BK1023 BK1036 BK1037 hb
             intro BK993 BK1003 BK1013 BK1023 BK1036 BK1037 HB
             refine hK.out _ _ (zk3 BK993 (zk3 BK1003 (zk3 BK1013 (zk3 BK1023 (zk3 BK1036 (ze3 BK1037)))))) (fun hHeld => ?_)
             clear hK K
             refine znA 89 (h := ?_)
             refine zoA 65 90 (h := fun K hK => ?_)
             refine zgA Try.func69 (span_Abs.calls k t1084 t1085 t1086 t1087 t1088 t1089 _ A46.out) (h := ?_)
             rintro w112 hb
             replace HO1067 := Aside0.mk (Kd.R_below (zRW HO1067.out) hb)
             refine zcn6 HB BK993 BK1003 BK1013 BK1023 BK1036 BK1037 hb (c := ?_)
             clear HB BK993 BK1003 BK1013 BK1023 BK1036 BK1037 hb
             intro BK993 BK1003 BK1013 BK1023 BK1036 BK1037 HB
             refine hK.out _ _ (zk3 BK993 (zk3 BK1003 (zk3 BK1013 (zk3 BK1023 (zk3 BK1036 (ze3 BK1037)))))) (fun hHeld => ?_)
             clear hK K
             refine znA 90 (h := ?_)
             refine zoA 66 91 (h := fun K hK => ?_)
             refine zgA Try.func37 (span_Make.calls k 0 4607182418800017408 t1090 t1091 t1092 _ A47.out) (h := ?_)
             rintro w113 hb
             replace HO1067 := Aside0.mk (Kd.R_below (zRW HO1067.out) hb)
             refine zcn6 HB BK993 BK1003 BK1013 BK1023 BK1036 BK1037 hb (c := ?_)
             clear HB BK993 BK1003 BK1013 BK1023 BK1036 BK1037 hb
             intro BK993 BK1003 BK1013 BK1023 BK1036 BK1037 HB
             refine hK.out _ _ (zk3 BK993 (zk3 BK1003 (zk3 BK1013 (zk3 BK1023 (zk3 BK1036 (ze3 BK1037)))))) (fun hHeld => ?_)
             clear hK K
             refine znA 91 (h := ?_)
             refine zpA 67 92 (h := ?_)
             refine zpA 68 93 (h := ?_)
             refine zpA 69 0 (h := ?_)
             refine done_ (done_of HT_.out (by kernel_rfl)) ?_
             try go_wp2
             go_ret
             exact ⟨zaE, zaB⟩
            rw [if_neg c44] at H
            have c44b0 : (t1083 == 4611686018427387904) = false := beq_eq_false_iff_ne.mpr c44
            have c44b1 : (t1083 != 4611686018427387904) = true := bne_iff_ne.mpr c44
            subst hr_
            cases H
           rw [if_neg c41] at H
           have c41b0 : (t1074 == t1077 && (t1075 == t1078 && (t1076 == t1079))) = false := by simpa using c41
           (try (have c41b1 : decide (t1074 = t1077 && (t1075 == t1078 && (t1076 == t1079))) = false := by simpa using c41))
           (try (have c41b2 : (t1074 == t1077 && (t1075 == t1078 && (t1076 == t1079))) = false := by simpa using c41))
           (try (have c41b3 : ¬ (t1074 = t1077 && (t1075 == t1078 && (t1076 == t1079))) := by simpa using c41))
           clear c41
           subst hr_
           cases H
          rw [if_neg c38] at H
          have c38b0 : (t1068 == t1071 && (t1069 == t1072 && (t1070 == t1073))) = false := by simpa using c38
          (try (have c38b1 : decide (t1068 = t1071 && (t1069 == t1072 && (t1070 == t1073))) = false := by simpa using c38))
          (try (have c38b2 : (t1068 == t1071 && (t1069 == t1072 && (t1070 == t1073))) = false := by simpa using c38))
          (try (have c38b3 : ¬ (t1068 = t1071 && (t1069 == t1072 && (t1070 == t1073))) := by simpa using c38))
          clear c38
          subst hr_
          cases H
         replace c35 := Bool.eq_false_iff.mpr c35
         subst c35
         replace H := zif H
         subst hr_
         cases H
        replace c32 := Bool.eq_false_iff.mpr c32
        subst c32
        replace H := zif H
        subst hr_
        cases H
       replace c30 := Bool.eq_false_iff.mpr c30
       subst c30
       replace H := zif H
       subst hr_
       cases H
      rw [if_neg c28] at H
      have c28b0 : (t1033 == t1054 && (t1034 == t1055 && (t1035 == t1056))) = false := by simpa using c28
      (try (have c28b1 : decide (t1033 = t1054 && (t1034 == t1055 && (t1035 == t1056))) = false := by simpa using c28))
      (try (have c28b2 : (t1033 == t1054 && (t1034 == t1055 && (t1035 == t1056))) = false := by simpa using c28))
      (try (have c28b3 : ¬ (t1033 = t1054 && (t1034 == t1055 && (t1035 == t1056))) := by simpa using c28))
      clear c28
      subst hr_
      cases H
     rw [if_neg c26] at H
     have c26b0 : (t1030 == t1051 && (t1031 == t1052 && (t1032 == t1053))) = false := by simpa using c26
     (try (have c26b1 : decide (t1030 = t1051 && (t1031 == t1052 && (t1032 == t1053))) = false := by simpa using c26))
     (try (have c26b2 : (t1030 == t1051 && (t1031 == t1052 && (t1032 == t1053))) = false := by simpa using c26))
     (try (have c26b3 : ¬ (t1030 = t1051 && (t1031 == t1052 && (t1032 == t1053))) := by simpa using c26))
     clear c26
     subst hr_
     cases H
    rw [if_neg c24] at H
    have c24b0 : (t1020 == t1048 && (t1021 == t1049 && (t1022 == t1050))) = false := by simpa using c24
    (try (have c24b1 : decide (t1020 = t1048 && (t1021 == t1049 && (t1022 == t1050))) = false := by simpa using c24))
    (try (have c24b2 : (t1020 == t1048 && (t1021 == t1049 && (t1022 == t1050))) = false := by simpa using c24))
    (try (have c24b3 : ¬ (t1020 = t1048 && (t1021 == t1049 && (t1022 == t1050))) := by simpa using c24))
    clear c24
    subst hr_
    cases H
   rw [if_neg c21] at H
   have c21b0 : (t1010 == t1044 && (t1011 == t1045 && (t1012 == t1046))) = false := by simpa using c21
   (try (have c21b1 : decide (t1010 = t1044 && (t1011 == t1045 && (t1012 == t1046))) = false := by simpa using c21))
   (try (have c21b2 : (t1010 == t1044 && (t1011 == t1045 && (t1012 == t1046))) = false := by simpa using c21))
   (try (have c21b3 : ¬ (t1010 = t1044 && (t1011 == t1045 && (t1012 == t1046))) := by simpa using c21))
   clear c21
   subst hr_
   cases H
  rw [if_neg c19] at H
  have c19b0 : (t1000 == t1041 && (t1001 == t1042 && (t1002 == t1043))) = false := by simpa using c19
  (try (have c19b1 : decide (t1000 = t1041 && (t1001 == t1042 && (t1002 == t1043))) = false := by simpa using c19))
  (try (have c19b2 : (t1000 == t1041 && (t1001 == t1042 && (t1002 == t1043))) = false := by simpa using c19))
  (try (have c19b3 : ¬ (t1000 = t1041 && (t1001 == t1042 && (t1002 == t1043))) := by simpa using c19))
  clear c19
  subst hr_
  cases H
 rw [if_neg c17] at H
 have c17b0 : (t990 == t1038 && (t991 == t1039 && (t992 == t1040))) = false := by simpa using c17
 (try (have c17b1 : decide (t990 = t1038 && (t991 == t1039 && (t992 == t1040))) = false := by simpa using c17))
 (try (have c17b2 : (t990 == t1038 && (t991 == t1039 && (t992 == t1040))) = false := by simpa using c17))
 (try (have c17b3 : ¬ (t990 = t1038 && (t991 == t1039 && (t992 == t1040))) := by simpa using c17))
 clear c17
 subst hr_
 cases H
end Go.Proofs.Ytmadjhmecfbcmaa.F
end
section
namespace Go.Proofs.Ytmadjhmecfbcmaa.F
open Go.RowKit Go.Proofs.YtmadjhmecfbcmaaW.PrintWords Go.Proofs.YtmadjhmecfbcmaaW.PrintLast Go.Proofs.YtmadjhmecfbcmaaW.PrintMore
attribute [local go_sem] max2_int min2_int max_two min_two max_three min_three max_four min_four
set_option linter.unusedVariables false
set_option linter.unusedSimpArgs false
set_option maxHeartbeats 8000000
set_option maxRecDepth 100000
theorem flyballref04_Parts.calls (a0 : Int) (r1 : Bool) (r2 : Int) (r3 : Int) (w : World) (h : flyballref04_Parts.f a0 = some (r1, r2, r3)) :
  Calls Try.prog 154 #[.int .u64 a0] w fun e w' => e = .returned (.tuple #[.bool r1, .int .i64 r2, .int .u64 r3]) ∧ Drawn0 w w' := by
 have H := h
 unfold flyballref04_Parts.f at H
 clear h
 simp only [Option.some.injEq, Prod.mk.injEq] at H
 obtain ⟨rfl, rfl, rfl⟩ := H
 go_enter Try.func154, Try.ntmps154
 go_wp2
 go_ret3
 exact ⟨by first | rfl | (simp; done) | (simp [*]; done), by repeat (first | exact Drawn0.refl _ | apply Drawn0.step)⟩
theorem flyballref04_Class.calls (k : Nat) (a0 : Int) (r : Int) (w : World) (h : flyballref04_Class.f k a0 = some r) :
  Calls Try.prog 128 #[.int .u64 a0] w fun e w' => e = .returned (.int .u8 r) ∧ Drawn0 w w' := by
 have H := h
 unfold flyballref04_Class.f at H
 clear h
 obtain ⟨⟨t350, t351, t352⟩, A2, H⟩ := zbs H
 try dsimp only at H
 have HC3 := Aside0.mk H
 clear H
 go_enter Try.func128, Try.ntmps128
 go_upto_region 2 with (first | ((with_reducible refine gtc 154 rfl ?_); refine zgL 8 Try.func154 (flyballref04_Parts.calls a0 t350 t351 t352 _ A2.out) (h := ?_); rintro w' ⟨nd, rfl⟩))
 (try simp only [Act.put, List.setIfInBounds_toArray, List.set_cons_zero, List.set_cons_succ])
 go_cut [17] (fun v17 wc => ∃ (kq : Nat) (x17_2 : Bool), v17 = .bool x17_2 ∧ Aside0 (flyballref04_Class.j0 kq t351 t352 x17_2 = some r) ∧ Aside0 (kq ≤ k) ∧ Drawn0 w wc)
 case first =>
  have H := HC3.out
  clear HC3
  by_cases c4 : t351 = 2047
  ·rw [if_pos c4] at H
   have c4b0 : (t351 == 2047) = true := beq_iff_eq.mpr c4
   have c4b1 : (t351 != 2047) = false := bne_eq_false_iff_eq.mpr c4
   clear c4
   (first | rw [c4b0] | (simp only [i64_w, i32_w]; rw [c4b0]) | skip)
   have H' := Aside0.mk H
   clear H
   go_wp2
   go_meet
   case rel => exact ⟨_, ((t352 == 0)), zrl, H', ⟨zle⟩, by repeat (first | exact Drawn0.refl _ | apply Drawn0.step)⟩
  rw [if_neg c4] at H
  have c4b0 : (t351 == 2047) = false := beq_eq_false_iff_ne.mpr c4
  have c4b1 : (t351 != 2047) = true := bne_iff_ne.mpr c4
  (first | rw [c4b0] | (simp only [i64_w, i32_w]; rw [c4b0]) | skip)
  have H' := Aside0.mk H
  clear H
  go_wp2
  go_meet
  case rel => exact ⟨_, (false), zrl, H', ⟨zle⟩, by repeat (first | exact Drawn0.refl _ | apply Drawn0.step)⟩
 case rest =>
  clear HC3
  try clear c4b0
  try clear c4b1
  obtain ⟨kq, x17_2, rfl, HA, HJ2, ⟨mc2, rfl⟩⟩ := hcut
  cases kq with
  | zero => exact absurd HA.out (by simp [flyballref04_Class.j0])
  | succ kj2 =>
   have H := HA.out
   clear HA
   simp only [flyballref04_Class.j0] at H
   by_cases c5 : x17_2 = true
   ·subst c5
    replace H := zit H
    obtain rfl := Option.some.inj H
    go_wp2
    go_ret
    exact ⟨by first | rfl | (simp; done) | (simp [*]; done), by repeat (first | exact Drawn0.refl _ | apply Drawn0.step)⟩
   replace c5 := Bool.eq_false_iff.mpr c5
   subst c5
   replace H := zif H
   by_cases c6 : t351 = 2047
   ·rw [if_pos c6] at H
    have c6b0 : (t351 == 2047) = true := beq_iff_eq.mpr c6
    have c6b1 : (t351 != 2047) = false := bne_eq_false_iff_eq.mpr c6
    clear c6
    obtain rfl := Option.some.inj H
    go_wp2
    go_ret
    exact ⟨by first | rfl | (simp; done) | (simp [*]; done), by repeat (first | exact Drawn0.refl _ | apply Drawn0.step)⟩
   rw [if_neg c6] at H
   have c6b0 : (t351 == 2047) = false := beq_eq_false_iff_ne.mpr c6
   have c6b1 : (t351 != 2047) = true := bne_iff_ne.mpr c6
   have HC7 := Aside0.mk H
   clear H
   go_upto_region 6 with (fail)
   go_cut [25] (fun v25 wc => ∃ (kq : Nat) (x25_6 : Bool), v25 = .bool x25_6 ∧ Aside0 (flyballref04_Class.j1 kq t351 x25_6 = some r) ∧ Aside0 (kq ≤ kj2) ∧ Drawn0 w wc)
   case first =>
    have H := HC7.out
    clear HC7
    by_cases c8 : t351 = 0
    ·rw [if_pos c8] at H
     have c8b0 : (t351 == 0) = true := beq_iff_eq.mpr c8
     have c8b1 : (t351 != 0) = false := bne_eq_false_iff_eq.mpr c8
     clear c8
     (first | rw [c8b0] | (simp only [i64_w, i32_w]; rw [c8b0]) | skip)
     have H' := Aside0.mk H
     clear H
     go_wp2
     go_meet
     case rel => exact ⟨_, ((t352 == 0)), zrl, H', ⟨by have := HJ2.out; first | omega | exact Nat.le_refl _⟩, by repeat (first | exact Drawn0.refl _ | apply Drawn0.step)⟩
    rw [if_neg c8] at H
    have c8b0 : (t351 == 0) = false := beq_eq_false_iff_ne.mpr c8
    have c8b1 : (t351 != 0) = true := bne_iff_ne.mpr c8
    (first | rw [c8b0] | (simp only [i64_w, i32_w]; rw [c8b0]) | skip)
    have H' := Aside0.mk H
    clear H
    go_wp2
    go_meet
    case rel => exact ⟨_, (false), zrl, H', ⟨by have := HJ2.out; first | omega | exact Nat.le_refl _⟩, by repeat (first | exact Drawn0.refl _ | apply Drawn0.step)⟩
   case rest =>
    clear HC7
    try clear c4b0
    try clear c4b1
    try clear c6b0
    try clear c6b1
    try clear c8b0
    try clear c8b1
    obtain ⟨kq, x25_6, rfl, HA, HJ6, ⟨mc6, rfl⟩⟩ := hcut
    cases kq with
    | zero => exact absurd HA.out (by simp [flyballref04_Class.j1])
    | succ kj6 =>
     have H := HA.out
     clear HA
     simp only [flyballref04_Class.j1] at H
     by_cases c9 : x25_6 = true
     ·subst c9
      replace H := zit H
      obtain rfl := Option.some.inj H
      go_wp2
      go_ret
      exact ⟨by first | rfl | (simp; done) | (simp [*]; done), by repeat (first | exact Drawn0.refl _ | apply Drawn0.step)⟩
     replace c9 := Bool.eq_false_iff.mpr c9
     subst c9
     replace H := zif H
     by_cases c10 : t351 = 0
     ·rw [if_pos c10] at H
      have c10b0 : (t351 == 0) = true := beq_iff_eq.mpr c10
      have c10b1 : (t351 != 0) = false := bne_eq_false_iff_eq.mpr c10
      clear c10
      obtain rfl := Option.some.inj H
      go_wp2
      go_ret
      exact ⟨by first | rfl | (simp; done) | (simp [*]; done), by repeat (first | exact Drawn0.refl _ | apply Drawn0.step)⟩
     rw [if_neg c10] at H
     have c10b0 : (t351 == 0) = false := beq_eq_false_iff_ne.mpr c10
     have c10b1 : (t351 != 0) = true := bne_iff_ne.mpr c10
     obtain rfl := Option.some.inj H
     go_wp2
     go_ret
     exact ⟨by first | rfl | (simp; done) | (simp [*]; done), by repeat (first | exact Drawn0.refl _ | apply Drawn0.step)⟩
theorem flyballref04_Key.calls (a0 : Int) (r : Int) (w : World) (h : flyballref04_Key.f a0 = some r) :
  Calls Try.prog 129 #[.int .u64 a0] w fun e w' => e = .returned (.int .i64 r) ∧ Drawn0 w w' := by
 have H := h
 unfold flyballref04_Key.f at H
 clear h
 obtain ⟨⟨t1093, t1094, t1095⟩, A2, H⟩ := zbs H
 try dsimp only at H
 by_cases c3 : t1093 = true
 ·subst c3
  replace H := zit H
  obtain rfl := Option.some.inj H
  go_enter Try.func129, Try.ntmps129
  go_wp2_with (first | ((with_reducible refine gtc 154 rfl ?_); refine zgL 9 Try.func154 (flyballref04_Parts.calls a0 true t1094 t1095 _ A2.out) (h := ?_); rintro w' ⟨nd, rfl⟩))
  go_ret
  exact ⟨by first | rfl | (simp; done) | (simp [*]; done), by repeat (first | exact Drawn0.refl _ | apply Drawn0.step)⟩
 replace c3 := Bool.eq_false_iff.mpr c3
 subst c3
 replace H := zif H
 obtain rfl := Option.some.inj H
 go_enter Try.func129, Try.ntmps129
 go_wp2_with (first | ((with_reducible refine gtc 154 rfl ?_); refine zgL 9 Try.func154 (flyballref04_Parts.calls a0 false t1094 t1095 _ A2.out) (h := ?_); rintro w' ⟨nd, rfl⟩))
 go_ret
 exact ⟨by first | rfl | (simp; done) | (simp [*]; done), by repeat (first | exact Drawn0.refl _ | apply Drawn0.step)⟩
theorem flyballref04_Cmp.calls (k : Nat) (a0 : Int) (a1 : Int) (r1 : Int) (r2 : Bool) (w : World) (h : flyballref04_Cmp.f k a0 a1 = some (r1, r2)) :
  Calls Try.prog 59 #[.int .u64 a0, .int .u64 a1] w fun e w' => e = .returned (.tuple #[.int .i64 r1, .bool r2]) ∧ Drawn0 w w' := by
 have H := h
 unfold flyballref04_Cmp.f at H
 clear h
 have HC3 := Aside0.mk H
 clear H
 go_enter Try.func59, Try.ntmps59
 go_upto_region 1 with (fail)
 go_cut [15] (fun v15 wc => ∃ (kq : Nat) (x15_2 : Bool), v15 = .bool x15_2 ∧ Aside0 (flyballref04_Cmp.j0 kq a0 a1 x15_2 = some (r1, r2)) ∧ Aside0 (kq ≤ k) ∧ Drawn0 w wc)
 case first =>
  have H := HC3.out
  clear HC3
  obtain ⟨t1096, A4, H⟩ := zbs H
  try dsimp only at H
  by_cases c5 : t1096 = 4
  ·rw [if_pos c5] at H
   have c5b0 : (t1096 == 4) = true := beq_iff_eq.mpr c5
   have c5b1 : (t1096 != 4) = false := bne_eq_false_iff_eq.mpr c5
   clear c5
   (first | rw [c5b0] | (simp only [i64_w, i32_w]; rw [c5b0]) | skip)
   have H' := Aside0.mk H
   clear H
   go_wp2_with (first | ((with_reducible refine gtc 128 rfl ?_); refine zgL 9 Try.func128 (flyballref04_Class.calls k a0 t1096 _ A4.out) (h := ?_); rintro w' ⟨nd, rfl⟩))
   go_meet
   case rel => exact ⟨_, (true), zrl, H', ⟨zle⟩, by repeat (first | exact Drawn0.refl _ | apply Drawn0.step)⟩
  rw [if_neg c5] at H
  have c5b0 : (t1096 == 4) = false := beq_eq_false_iff_ne.mpr c5
  have c5b1 : (t1096 != 4) = true := bne_iff_ne.mpr c5
  (first | rw [c5b0] | (simp only [i64_w, i32_w]; rw [c5b0]) | skip)
  obtain ⟨t1097, A6, H⟩ := zbs H
  try dsimp only at H
  have H' := Aside0.mk H
  clear H
  go_wp2_with (first | ((with_reducible refine gtc 128 rfl ?_); refine zgL 9 Try.func128 (flyballref04_Class.calls k a0 t1096 _ A4.out) (h := ?_); rintro w' ⟨nd, rfl⟩) | (go_at_call 128; (with_reducible refine (flyballref04_Class.calls k a1 t1097 _ A6.out).mono ?_); rintro e w' ⟨rfl, ⟨nd, rfl⟩⟩))
  go_meet
  case rel => exact ⟨_, ((t1097 == 4)), zrl, H', ⟨zle⟩, by repeat (first | exact Drawn0.refl _ | apply Drawn0.step)⟩
 case rest =>
  clear HC3
  try clear c5b0
  try clear c5b1
  obtain ⟨kq, x15_2, rfl, HA, HJ2, ⟨mc2, rfl⟩⟩ := hcut
  cases kq with
  | zero => exact absurd HA.out (by simp [flyballref04_Cmp.j0])
  | succ kj2 =>
   have H := HA.out
   clear HA
   simp only [flyballref04_Cmp.j0] at H
   by_cases c7 : x15_2 = true
   ·subst c7
    replace H := zit H
    simp only [Option.some.injEq, Prod.mk.injEq] at H
    obtain ⟨rfl, rfl⟩ := H
    go_wp2
    go_ret2
    exact ⟨by first | rfl | (simp; done) | (simp [*]; done), by repeat (first | exact Drawn0.refl _ | apply Drawn0.step)⟩
   replace c7 := Bool.eq_false_iff.mpr c7
   subst c7
   replace H := zif H
   obtain ⟨t1098, A8, H⟩ := zbs H
   try dsimp only at H
   obtain ⟨t1099, A9, H⟩ := zbs H
   try dsimp only at H
   by_cases c10 : t1098 < t1099
   ·rw [if_pos c10] at H
    have c10b0 : decide (t1098 < t1099) = true := decide_eq_true c10
    clear c10
    simp only [Option.some.injEq, Prod.mk.injEq] at H
    obtain ⟨rfl, rfl⟩ := H
    go_wp2_with (first | ((with_reducible refine gtc 129 rfl ?_); refine zgL 17 Try.func129 (flyballref04_Key.calls a0 t1098 _ A8.out) (h := ?_); rintro w' ⟨nd, rfl⟩) | ((with_reducible refine gtc 129 rfl ?_); refine zgL 19 Try.func129 (flyballref04_Key.calls a1 t1099 _ A9.out) (h := ?_); rintro w' ⟨nd, rfl⟩))
    go_ret2
    exact ⟨by first | rfl | (simp; done) | (simp [*]; done), by repeat (first | exact Drawn0.refl _ | apply Drawn0.step)⟩
   rw [if_neg c10] at H
   have c10b0 : decide (t1098 < t1099) = false := decide_eq_false c10
   clear c10
   by_cases c11 : t1098 > t1099
   ·rw [if_pos c11] at H
    have c11b0 : decide (t1099 < t1098) = true := decide_eq_true c11
    clear c11
    simp only [Option.some.injEq, Prod.mk.injEq] at H
    obtain ⟨rfl, rfl⟩ := H
    go_wp2_with (first | ((with_reducible refine gtc 129 rfl ?_); refine zgL 17 Try.func129 (flyballref04_Key.calls a0 t1098 _ A8.out) (h := ?_); rintro w' ⟨nd, rfl⟩) | ((with_reducible refine gtc 129 rfl ?_); refine zgL 19 Try.func129 (flyballref04_Key.calls a1 t1099 _ A9.out) (h := ?_); rintro w' ⟨nd, rfl⟩))
    go_ret2
    exact ⟨by first | rfl | (simp; done) | (simp [*]; done), by repeat (first | exact Drawn0.refl _ | apply Drawn0.step)⟩
   rw [if_neg c11] at H
   have c11b0 : decide (t1099 < t1098) = false := decide_eq_false c11
   clear c11
   simp only [Option.some.injEq, Prod.mk.injEq] at H
   obtain ⟨rfl, rfl⟩ := H
   go_wp2_with (first | ((with_reducible refine gtc 129 rfl ?_); refine zgL 17 Try.func129 (flyballref04_Key.calls a0 t1098 _ A8.out) (h := ?_); rintro w' ⟨nd, rfl⟩) | ((with_reducible refine gtc 129 rfl ?_); refine zgL 19 Try.func129 (flyballref04_Key.calls a1 t1099 _ A9.out) (h := ?_); rintro w' ⟨nd, rfl⟩))
   go_ret2
   exact ⟨by first | rfl | (simp; done) | (simp [*]; done), by repeat (first | exact Drawn0.refl _ | apply Drawn0.step)⟩
theorem flyballref16_le.calls (k : Nat) (a0 : Int) (a1 : Int) (r : Bool) (w : World) (h : flyballref16_le.f k a0 a1 = some r) :
  Calls Try.prog 116 #[.int .u64 a0, .int .u64 a1] w fun e w' => e = .returned (.bool r) ∧ Drawn0 w w' := by
 have H := h
 unfold flyballref16_le.f at H
 clear h
 obtain ⟨⟨t1100, t1101⟩, A3, H⟩ := zbs H
 try dsimp only at H
 by_cases c4 : t1101 = true
 ·subst c4
  replace H := zit H
  obtain rfl := Option.some.inj H
  go_enter Try.func116, Try.ntmps116
  go_wp2_with (first | ((with_reducible refine gtc 59 rfl ?_); refine zgL 10 Try.func59 (flyballref04_Cmp.calls k a0 a1 t1100 true _ A3.out) (h := ?_); rintro w' ⟨nd, rfl⟩))
  go_ret
  exact ⟨by first | rfl | (simp; done) | (simp [*]; done), by repeat (first | exact Drawn0.refl _ | apply Drawn0.step)⟩
 replace c4 := Bool.eq_false_iff.mpr c4
 subst c4
 replace H := zif H
 obtain rfl := Option.some.inj H
 go_enter Try.func116, Try.ntmps116
 go_wp2_with (first | ((with_reducible refine gtc 59 rfl ?_); refine zgL 10 Try.func59 (flyballref04_Cmp.calls k a0 a1 t1100 false _ A3.out) (h := ?_); rintro w' ⟨nd, rfl⟩))
 go_ret
 exact ⟨by first | rfl | (simp; done) | (simp [*]; done), by repeat (first | exact Drawn0.refl _ | apply Drawn0.step)⟩
theorem flyballref16_Norm.calls (k : Nat) (a0_0 : Bool) (a0_1 : Int) (a0_2 : Int) (r1 : Bool) (r2 : Int) (r3 : Int) (w : World) (h : flyballref16_Norm.f k a0_0 a0_1 a0_2 = some (r1, r2, r3)) :
  Calls Try.prog 49 #[.agg #[.bool a0_0, .int .u64 a0_1, .int .u64 a0_2]] w fun e w' => e = .returned (.agg #[.bool r1, .int .u64 r2, .int .u64 r3]) ∧ Below w.heap.size w w' := by
 have hu43 := Try.underlying43
 have HB := Aside0.mk (Below.refl w.heap.size w)
 have H := h
 unfold flyballref16_Norm.f at H
 clear h
 obtain ⟨t1104, A2, H⟩ := zbs H
 try dsimp only at H
 have HC3 := Aside0.mk H
 clear H
 go_enter Try.func49, Try.ntmps49
 go_upto_region 2 with (first | ((with_reducible refine gtd 1 rfl ?_); refine zbx 1 #[.bool a0_0, .int .u64 a0_1, .int .u64 a0_2] 43 (h := ?_); intro gb1102 hg w4 hbox hb; have GW1102 := zkZ hg (zaB (p := Below w.heap.size w _)); replace HB := Aside0.mk (below_step zaB hb); have BK1102 := Aside0.mk (hbox); clear hb hbox hg) | ((with_reducible refine gtd 2 rfl ?_); refine zbx 2 #[.bool false, .int .u64 0, .int .u64 0] 43 (h := ?_); intro gb1103 hg w5 hbox hb; refine zbn1 HB BK1102 hg hb hbox (c := ?_); clear HB BK1102 hb hbox hg; intro GW1103 NB1102_1103 BK1102 HB BK1103; refine zt1 NB1102_1103 fun _ _ => ?_; refine zu3 BK1102 fun z7_0 z7_1 z7_2 f7_0 f7_1 f7_2 => ?_) | ((with_reducible refine gtc 116 rfl ?_); refine zgL 8 Try.func116 (flyballref16_le.calls k a0_1 a0_2 t1104 _ A2.out) (h := ?_); rintro w' ⟨nd, rfl⟩))
 (try simp only [Act.put, List.setIfInBounds_toArray, List.set_cons_zero, List.set_cons_succ])
 go_cut [24] (fun v24 wc => ∃ (kq : Nat) (x24_2 : Bool), v24 = .bool x24_2 ∧ Aside0 (flyballref16_Norm.j0 kq x24_2 a0_0 a0_1 a0_2 = some (r1, r2, r3)) ∧ Aside0 (kq ≤ k) ∧ Aside0 (wc.heap[gb1102]? = some (.cells #[.bool a0_0, .int .u64 a0_1, .int .u64 a0_2] 43 (0, 0))) ∧ Aside0 (wc.heap[gb1103]? = some (.cells #[.bool false, .int .u64 0, .int .u64 0] 43 (0, 0))) ∧ Aside0 (Below w.heap.size w wc))
 case first =>
  have H := HC3.out
  clear HC3
  by_cases c8 : a0_0 = true
  ·subst c8
   replace H := zit H
   have H' := Aside0.mk H
   clear H
   refine zt1 NB1102_1103 fun _ _ => ?_
   refine zu3 BK1102 fun z10_0 z10_1 z10_2 f10_0 f10_1 f10_2 => ?_
   go_wp2
   go_meet
   case rel => exact ⟨_, (true), zrl, H', ⟨zle⟩, ⟨zkq BK1102⟩, ⟨zkq BK1103⟩, ⟨zaB⟩⟩
  replace c8 := Bool.eq_false_iff.mpr c8
  subst c8
  replace H := zif H
  by_cases c11 : t1104 = true
  ·subst c11
   replace H := zit H
   by_cases c12 : a0_1 = 9218868437227405312
   ·rw [if_pos c12] at H
    have c12b0 : (a0_1 == 9218868437227405312) = true := beq_iff_eq.mpr c12
    have c12b1 : (a0_1 != 9218868437227405312) = false := bne_eq_false_iff_eq.mpr c12
    clear c12
    (first | rw [c12b0] | (simp only [i64_w, i32_w]; rw [c12b0]) | skip)
    have H' := Aside0.mk H
    clear H
    refine zt1 NB1102_1103 fun _ _ => ?_
    refine zu3 BK1102 fun z14_0 z14_1 z14_2 f14_0 f14_1 f14_2 => ?_
    go_wp2
    go_meet
    case rel => exact ⟨_, (true), zrl, H', ⟨zle⟩, ⟨zkq BK1102⟩, ⟨zkq BK1103⟩, ⟨zaB⟩⟩
   rw [if_neg c12] at H
   have c12b0 : (a0_1 == 9218868437227405312) = false := beq_eq_false_iff_ne.mpr c12
   have c12b1 : (a0_1 != 9218868437227405312) = true := bne_iff_ne.mpr c12
   (first | rw [c12b0] | (simp only [i64_w, i32_w]; rw [c12b0]) | skip)
   have H' := Aside0.mk H
   clear H
   refine zt1 NB1102_1103 fun _ _ => ?_
   refine zu3 BK1102 fun z16_0 z16_1 z16_2 f16_0 f16_1 f16_2 => ?_
   go_wp2
   go_meet
   case rel => exact ⟨_, ((a0_2 == 18442240474082181120)), zrl, H', ⟨zle⟩, ⟨zkq BK1102⟩, ⟨zkq BK1103⟩, ⟨zaB⟩⟩
  replace c11 := Bool.eq_false_iff.mpr c11
  subst c11
  replace H := zif H
  have H' := Aside0.mk H
  clear H
  refine zt1 NB1102_1103 fun _ _ => ?_
  refine zu3 BK1102 fun z18_0 z18_1 z18_2 f18_0 f18_1 f18_2 => ?_
  go_wp2
  go_meet
  case rel => exact ⟨_, (true), zrl, H', ⟨zle⟩, ⟨zkq BK1102⟩, ⟨zkq BK1103⟩, ⟨zaB⟩⟩
 case rest =>
  clear HC3
  try clear c12b0
  try clear c12b1
  try clear z10_0 z10_1 z10_2 f10_0 f10_1 f10_2
  try clear z14_0 z14_1 z14_2 f14_0 f14_1 f14_2
  try clear z16_0 z16_1 z16_2 f16_0 f16_1 f16_2
  try clear z18_0 z18_1 z18_2 f18_0 f18_1 f18_2
  try clear z7_0 z7_1 z7_2 f7_0 f7_1 f7_2
  obtain ⟨kq, x24_2, rfl, HA, HJ2, BK1102, BK1103, HB⟩ := hcut
  cases kq with
  | zero => exact absurd HA.out (by simp [flyballref16_Norm.j0])
  | succ kj2 =>
   have H := HA.out
   clear HA
   simp only [flyballref16_Norm.j0] at H
   by_cases c19 : x24_2 = true
   ·subst c19
    replace H := zit H
    simp only [Option.some.injEq, Prod.mk.injEq] at H
    obtain ⟨rfl, rfl, rfl⟩ := H
    refine zt1 NB1102_1103 fun _ _ => ?_
    refine zu3 BK1103 fun _ _ _ _ _ _ => ?_
    go_wp2
    refine bodyPost_ret (results_cell_row rfl _ _ gb1103 43 #[.bool true, .int .u64 0, .int .u64 0] (0, 0) _ rfl (blk_put (cs := #[.bool true, .int .u64 0, .int .u64 0]) (blk_put (cs := #[.bool true, .int .u64 0, .int .u64 0]) (blk_put (zkq BK1103) 0 _ rfl) 1 _ rfl) 2 _ rfl) Try.underlying43 rfl (by kernel_rfl)) rfl ?_
    exact ⟨zaE, zaB⟩
   replace c19 := Bool.eq_false_iff.mpr c19
   subst c19
   replace H := zif H
   by_cases c22 : a0_1 = 9223372036854775808
   ·rw [if_pos c22] at H
    have c22b0 : (a0_1 == 9223372036854775808) = true := beq_iff_eq.mpr c22
    have c22b1 : (a0_1 != 9223372036854775808) = false := bne_eq_false_iff_eq.mpr c22
    clear c22
    by_cases c23 : a0_2 = 9223372036854775808
    ·rw [if_pos c23] at H
     have c23b0 : (a0_2 == 9223372036854775808) = true := beq_iff_eq.mpr c23
     have c23b1 : (a0_2 != 9223372036854775808) = false := bne_eq_false_iff_eq.mpr c23
     clear c23
     simp only [Option.some.injEq, Prod.mk.injEq] at H
     obtain ⟨rfl, rfl, rfl⟩ := H
     refine zt1 NB1102_1103 fun _ _ => ?_
     refine zu3 BK1102 fun _ _ _ _ _ _ => ?_
     refine zu3 BK1103 fun _ _ _ _ _ _ => ?_
     go_wp2
     refine bodyPost_ret (results_cell_row rfl _ _ gb1103 43 #[.bool a0_0, .int .u64 0, .int .u64 0] (0, 0) _ rfl (blk_put (cs := #[.bool a0_0, .int .u64 0, .int .u64 0]) (blk_put (cs := #[.bool a0_0, .int .u64 0, .int .u64 0]) (blk_put (zkf (zkf (zkq BK1103) (zks NB1102_1103).out _) (zks NB1102_1103).out _) 0 _ rfl) 1 _ rfl) 2 _ rfl) Try.underlying43 rfl (by kernel_rfl)) rfl ?_
     exact ⟨zaE, zaB⟩
    rw [if_neg c23] at H
    have c23b0 : (a0_2 == 9223372036854775808) = false := beq_eq_false_iff_ne.mpr c23
    have c23b1 : (a0_2 != 9223372036854775808) = true := bne_iff_ne.mpr c23
    simp only [Option.some.injEq, Prod.mk.injEq] at H
    obtain ⟨rfl, rfl, rfl⟩ := H
    refine zt1 NB1102_1103 fun _ _ => ?_
    refine zu3 BK1102 fun _ _ _ _ _ _ => ?_
    refine zu3 BK1103 fun _ _ _ _ _ _ => ?_
    go_wp2
    refine bodyPost_ret (results_cell_row rfl _ _ gb1103 43 #[.bool a0_0, .int .u64 0, .int .u64 a0_2] (0, 0) _ rfl (blk_put (cs := #[.bool a0_0, .int .u64 0, .int .u64 0]) (blk_put (cs := #[.bool a0_0, .int .u64 0, .int .u64 0]) (blk_put (zkf (zkq BK1103) (zks NB1102_1103).out _) 0 _ rfl) 1 _ rfl) 2 _ rfl) Try.underlying43 rfl (by kernel_rfl)) rfl ?_
    exact ⟨zaE, zaB⟩
   rw [if_neg c22] at H
   have c22b0 : (a0_1 == 9223372036854775808) = false := beq_eq_false_iff_ne.mpr c22
   have c22b1 : (a0_1 != 9223372036854775808) = true := bne_iff_ne.mpr c22
   by_cases c30 : a0_2 = 9223372036854775808
   ·rw [if_pos c30] at H
    have c30b0 : (a0_2 == 9223372036854775808) = true := beq_iff_eq.mpr c30
    have c30b1 : (a0_2 != 9223372036854775808) = false := bne_eq_false_iff_eq.mpr c30
    clear c30
    simp only [Option.some.injEq, Prod.mk.injEq] at H
    obtain ⟨rfl, rfl, rfl⟩ := H
    refine zt1 NB1102_1103 fun _ _ => ?_
    refine zu3 BK1102 fun _ _ _ _ _ _ => ?_
    refine zu3 BK1103 fun _ _ _ _ _ _ => ?_
    go_wp2
    refine bodyPost_ret (results_cell_row rfl _ _ gb1103 43 #[.bool a0_0, .int .u64 a0_1, .int .u64 0] (0, 0) _ rfl (blk_put (cs := #[.bool a0_0, .int .u64 a0_1, .int .u64 0]) (blk_put (cs := #[.bool a0_0, .int .u64 0, .int .u64 0]) (blk_put (zkf (zkq BK1103) (zks NB1102_1103).out _) 0 _ rfl) 1 _ rfl) 2 _ rfl) Try.underlying43 rfl (by kernel_rfl)) rfl ?_
    exact ⟨zaE, zaB⟩
   rw [if_neg c30] at H
   have c30b0 : (a0_2 == 9223372036854775808) = false := beq_eq_false_iff_ne.mpr c30
   have c30b1 : (a0_2 != 9223372036854775808) = true := bne_iff_ne.mpr c30
   simp only [Option.some.injEq, Prod.mk.injEq] at H
   obtain ⟨rfl, rfl, rfl⟩ := H
   refine zt1 NB1102_1103 fun _ _ => ?_
   refine zu3 BK1102 fun _ _ _ _ _ _ => ?_
   refine zu3 BK1103 fun _ _ _ _ _ _ => ?_
   go_wp2
   refine bodyPost_ret (results_cell_row rfl _ _ gb1103 43 #[.bool a0_0, .int .u64 a0_1, .int .u64 a0_2] (0, 0) _ rfl (blk_put (cs := #[.bool a0_0, .int .u64 a0_1, .int .u64 0]) (blk_put (cs := #[.bool a0_0, .int .u64 0, .int .u64 0]) (blk_put (zkq BK1103) 0 _ rfl) 1 _ rfl) 2 _ rfl) Try.underlying43 rfl (by kernel_rfl)) rfl ?_
   exact ⟨zaE, zaB⟩
end Go.Proofs.Ytmadjhmecfbcmaa.F
end
