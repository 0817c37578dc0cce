/- The walk of the law SoftRoots and what it computes, part 5 of 6: no conditions. -/
import Derived.Test.YtmadjhmecfbcmaaASoftRoots4
set_option linter.unusedVariables false
set_option linter.unusedSimpArgs false
section
namespace Go.Proofs.Ytmadjhmecfbcmaa.F
open Go.RowKit Go.Proofs.YtmadjhmecfbcmaaW.PrintWords Go.Proofs.YtmadjhmecfbcmaaW.PrintLast Go.Proofs.YtmadjhmecfbcmaaW.PrintMore
attribute [local go_sem] max2_int min2_int max_two min_two max_three min_three max_four min_four
set_option linter.unusedVariables false
set_option linter.unusedSimpArgs false
set_option maxHeartbeats 8000000 in
set_option maxRecDepth 100000 in
theorem flyballref05_Magnitude.calls (k : Nat) (A0_0 : Option Addr) (c0_0 : Nat) (l0_0 : List Bool) (A0_1 : Option Addr) (c0_1 : Nat) (l0_1 : List Bool) (a0_2 : Int) (a0_3 : Bool) (a1 : Int) (r1 : Int) (r2 : Int) (w : World) (hr0_0 : Kd.C Kd.bool w A0_0 l0_0.length l0_0) (hc0_0 : l0_0.length ≤ c0_0) (hr0_1 : Kd.C Kd.bool w A0_1 l0_1.length l0_1) (hc0_1 : l0_1.length ≤ c0_1) (h : flyballref05_Magnitude.f k l0_0 l0_1 a0_2 a0_3 a1 = some (r1, r2)) :
  Calls Try.prog 163 #[.agg #[.slice A0_0 l0_0.length c0_0, .slice A0_1 l0_1.length c0_1, .int .i64 a0_2, .bool a0_3], .int .u8 a1] w fun e w' => e = .returned (.tuple #[.int .i64 r1, .int .u8 r2]) ∧ Below w.heap.size w w' := by
 have hu115 := Try.underlying115
 have HR0_0 := Aside0.mk hr0_0
 have HC0_0 := Aside0.mk hc0_0
 clear hr0_0 hc0_0
 have HR0_1 := Aside0.mk hr0_1
 have HC0_1 := Aside0.mk hc0_1
 clear hr0_1 hc0_1
 have HB := Aside0.mk (Below.refl w.heap.size w)
 have H : ((flyballref05_floor.f k l0_0 l0_1 a0_2 a0_3).bind fun t432 => ((flyballref05_split.f k t432).bind fun bt433 => ((flyballref05_cmp.f k l0_0 l0_1 a0_2 a0_3 bt433.1 bt433.2).bind fun t437 => ((flyballref01_Of.f k (([1] : List Int))).bind fun t441 => (if t437 = 0 then (flyballref05_Magnitude.j0 k a1 0 t432 (t437 == 0) t441 l0_0 l0_1 a0_2 a0_3) else ((flyballref05_cmp.f k l0_0 l0_1 a0_2 a0_3 t441 (-1022)).bind fun t444 => (if t444 < 0 then (flyballref05_Magnitude.j0 k a1 (Go.bits .or .u8 (Go.bits .or .u8 0 1) 2) t432 (t437 == 0) t441 l0_0 l0_1 a0_2 a0_3) else (flyballref05_Magnitude.j0 k a1 (Go.bits .or .u8 0 1) t432 (t437 == 0) t441 l0_0 l0_1 a0_2 a0_3)))))))) = some (r1, r2) := h
 clear h
 obtain ⟨t432, A3, H⟩ := zbs H
 try dsimp only at H
 obtain ⟨⟨t433, t434⟩, A4, H⟩ := zbs H
 try dsimp only at H
 obtain ⟨t437, A5, H⟩ := zbs H
 try dsimp only at H
 obtain ⟨y438, hy438⟩ : ∃ y_ : List Int, y_ = (([1] : List Int)) := ⟨_, rfl⟩
 replace H : ((flyballref01_Of.f k y438).bind fun t441 => (if t437 = 0 then (flyballref05_Magnitude.j0 k a1 0 t432 (t437 == 0) t441 l0_0 l0_1 a0_2 a0_3) else ((flyballref05_cmp.f k l0_0 l0_1 a0_2 a0_3 t441 (-1022)).bind fun t444 => (if t444 < 0 then (flyballref05_Magnitude.j0 k a1 (Go.bits .or .u8 (Go.bits .or .u8 0 1) 2) t432 (t437 == 0) t441 l0_0 l0_1 a0_2 a0_3) else (flyballref05_Magnitude.j0 k a1 (Go.bits .or .u8 0 1) t432 (t437 == 0) t441 l0_0 l0_1 a0_2 a0_3))))) = some (r1, r2) := by first | (rw [hy438]; with_reducible exact H) | (have H2_ := (Option.bind_some _ _).symm.trans H; rw [hy438]; with_reducible exact H2_) | (have H2_ := (Option.bind_some _ _).symm.trans H; with_reducible exact H2_) | with_reducible exact H | (rw [hy438]; exact H) | exact H
 have Ny438 := Aside0.mk hy438
 clear hy438
 obtain ⟨t441, A6, H⟩ := zbs H
 try dsimp only at H
 have HC7 := Aside0.mk H
 clear H
 go_enter Try.func163, Try.ntmps163
 go_upto_if 32 with (first | ((with_reducible refine gate_dst (N := 2) rfl ?_); refine zbx 2 #[.slice A0_0 l0_0.length c0_0, .slice A0_1 l0_1.length c0_1, .int .i64 a0_2, .bool a0_3] 115 (h := ?_); intro gb431 hg w8 hbox hb; have GW431 := zkZ hg (zaB (p := Below w.heap.size w _)); have GE431 := GW431; replace HB := Aside0.mk (below_step zaB hb); have BK431 := Aside0.mk (hbox); clear hb hbox hg; have hcz9_0 := zc0 BK431; have hcz9_1 := zc1 BK431; have hcz9_2 := zc2 BK431; have hcz9_3 := zc3 BK431; have hfz9_0 := blk_frozen BK431.out 0; have hfz9_1 := blk_frozen BK431.out 1; have hfz9_2 := blk_frozen BK431.out 2; have hfz9_3 := blk_frozen BK431.out 3) | ((with_reducible refine gate_callee (f := 187) rfl ?_); refine goesL_ (some 18) rfl rfl Try.func187 (by kernel_rfl) rfl #[.agg #[.slice A0_0 l0_0.length c0_0, .slice A0_1 l0_1.length c0_1, .int .i64 a0_2, .bool a0_3]] rfl (by (try simp only [List.map_toArray, List.map_cons, List.map_nil]); first | done | rfl | (simp only [List.length_drop, List.length_take]; rfl)) ?_; (with_reducible refine (flyballref05_floor.calls k _ _ l0_0 _ _ l0_1 a0_2 a0_3 t432 _ ?side1 ?side2 ?side3 ?side4 A3.out).mono ?_); (case side1 => repeat (first | exact (Kd.C_below HR0_0.out HB.out) | (with_reducible refine Kd.C_alloc ?_ _) | (with_reducible refine Kd.C_drewN ?_ _) | (with_reducible refine Kd.C_drew ?_))); (case side2 => exact HC0_0.out); (case side3 => repeat (first | exact (Kd.C_below HR0_1.out HB.out) | (with_reducible refine Kd.C_alloc ?_ _) | (with_reducible refine Kd.C_drewN ?_ _) | (with_reducible refine Kd.C_drew ?_))); (case side4 => exact HC0_1.out); rintro e w10 ⟨rfl, hb⟩; refine ⟨_, rfl, ?_⟩; replace BK431 := zkb BK431 hb; replace HB := zkB HB hb; (try clear hb)) | ((with_reducible refine gate_callee (f := 188) rfl ?_); refine goesL_ (some 21) rfl rfl Try.func188 (by kernel_rfl) rfl #[.int .i64 t432] rfl (by (try simp only [List.map_toArray, List.map_cons, List.map_nil]); first | done | rfl | (simp only [List.length_drop, List.length_take]; rfl)) ?_; (with_reducible refine (flyballref05_split.calls k t432 t433 t434 _ A4.out).mono ?_); rintro e w11 ⟨v435, rfl, ho0, hb⟩; refine ⟨_, rfl, ?_⟩; have HO436 := Aside0.mk (Kd.R_lower ho0 (below_size zaB)); replace BK431 := zkb BK431 hb; replace HB := zkB HB hb; (try clear hb); (try clear ho0); have hcz12_0 := zc0 BK431; have hcz12_1 := zc1 BK431; have hcz12_2 := zc2 BK431; have hcz12_3 := zc3 BK431; have hfz12_0 := blk_frozen BK431.out 0; have hfz12_1 := blk_frozen BK431.out 1; have hfz12_2 := blk_frozen BK431.out 2; have hfz12_3 := blk_frozen BK431.out 3; obtain ⟨Ao13, co13, eo13⟩ := Kd.R_slice HO436.out; subst eo13) | ((with_reducible refine gate_callee (f := 189) rfl ?_); refine goesL_ (some 27) rfl rfl Try.func189 (by kernel_rfl) rfl #[.agg #[.slice A0_0 l0_0.length c0_0, .slice A0_1 l0_1.length c0_1, .int .i64 a0_2, .bool a0_3], .slice Ao13 t433.length co13, .int .i64 t434] rfl (by (try simp only [List.map_toArray, List.map_cons, List.map_nil]); first | done | rfl | (simp only [List.length_drop, List.length_take]; rfl)) ?_; (with_reducible refine (flyballref05_cmp.calls k _ _ l0_0 _ _ l0_1 a0_2 a0_3 _ _ t433 t434 t437 _ ?side1 ?side2 ?side3 ?side4 ?side5 ?side6 A5.out).mono ?_); (case side1 => repeat (first | exact (Kd.C_below HR0_0.out HB.out) | (with_reducible refine Kd.C_alloc ?_ _) | (with_reducible refine Kd.C_drewN ?_ _) | (with_reducible refine Kd.C_drew ?_))); (case side2 => exact HC0_0.out); (case side3 => repeat (first | exact (Kd.C_below HR0_1.out HB.out) | (with_reducible refine Kd.C_alloc ?_ _) | (with_reducible refine Kd.C_drewN ?_ _) | (with_reducible refine Kd.C_drew ?_))); (case side4 => exact HC0_1.out); (case side5 => repeat (first | exact (Kd.R_reads' HO436.out).2.2 | (with_reducible refine Kd.C_alloc ?_ _) | (with_reducible refine Kd.C_drewN ?_ _) | (with_reducible refine Kd.C_drew ?_))); (case side6 => exact (Kd.R_reads' HO436.out).2.1); rintro e w14 ⟨rfl, hb⟩; refine ⟨_, rfl, ?_⟩; replace HO436 := Aside0.mk (Kd.R_below (by (with_reducible repeat (first | apply Kd.R_alloc | apply Kd.R_drewN | apply Kd.R_drew)); exact HO436.out) hb); replace BK431 := zkb BK431 hb; replace HB := zkB HB hb; (try clear hb)) | ((with_reducible refine gate_dst (N := 29) rfl ?_); refine Kd.R_lit (Kd.int .u64) _ 22 ?hg (N := 29) ?hd (xs := ([1] : List Int)) (inner := [.int .u64 1]) (ok := fun _ => True) (okp := fun _ => True) ?hr ?hp (fun _ hk => hk) trivial (Below.refl _ _) (Nat.le_refl _) (by simp) ?_; (case hd => rfl); (case hg => rfl); (case hr => first | (go_simp; done) | (go_simp; rfl)); (case hp => exact (Reps.one (show Kd.M (Kd.int .u64) _ _ _ 1 [.int .u64 1] from rfl) (Reps.none _ _))); intro v439 w15 ho16 hb hg_ hnew_; clear hg_ hnew_; (first | rw [← Ny438.out] at ho16 | (simp only [Int.reduceToNat] at ho16; rw [← Ny438.out] at ho16)); replace HO436 := Aside0.mk (Kd.R_below (by (with_reducible repeat (first | apply Kd.R_alloc | apply Kd.R_drewN | apply Kd.R_drew)); exact HO436.out) hb); have HO440 := Aside0.mk (Kd.R_lower ho16 (below_size zaB)); replace BK431 := zkb BK431 hb; replace HB := zkB HB hb; clear hb ho16; obtain ⟨Ao17, co17, eo17⟩ := Kd.R_slice HO440.out; subst eo17) | ((with_reducible refine gate_callee (f := 155) rfl ?_); refine goesL_ (some 30) rfl rfl Try.func155 (by kernel_rfl) rfl #[.slice Ao17 y438.length co17] rfl (by (try simp only [List.map_toArray, List.map_cons, List.map_nil]); first | done | rfl | (simp only [List.length_drop, List.length_take]; rfl)) ?_; (with_reducible refine (flyballref01_Of.calls k _ _ y438 t441 _ ?side1 ?side2 A6.out).mono ?_); (case side1 => repeat (first | exact (Kd.R_reads' HO440.out).2.2 | (with_reducible refine Kd.C_alloc ?_ _) | (with_reducible refine Kd.C_drewN ?_ _) | (with_reducible refine Kd.C_drew ?_))); (case side2 => exact (Kd.R_reads' HO440.out).2.1); rintro e w18 ⟨v442, rfl, ho0, hb⟩; refine ⟨_, rfl, ?_⟩; replace HO440 := Aside0.mk (Kd.R_below (by (with_reducible repeat (first | apply Kd.R_alloc | apply Kd.R_drewN | apply Kd.R_drew)); exact HO440.out) hb); have HO443 := Aside0.mk (Kd.R_lower (Kd.R_new' ho0 (Kd.R_lt (by (with_reducible repeat (first | apply Kd.R_alloc | apply Kd.R_drewN | apply Kd.R_drew)); exact HO436.out))) (below_size zaB)); replace HO436 := Aside0.mk (Kd.R_elder' (by (with_reducible repeat (first | apply Kd.R_alloc | apply Kd.R_drewN | apply Kd.R_drew)); exact HO436.out) (Kd.R_base ho0) hb); replace BK431 := zkb BK431 hb; replace HB := zkB HB hb; (try clear hb); (try clear ho0)))
 (try simp only [Act.put, List.setIfInBounds_toArray, List.set_cons_zero, List.set_cons_succ])
 go_cut [6, 10] (fun v6 v10 wc => ∃ (kq : Nat) (x6_6 : Int), v6 = .int .u8 x6_6 ∧ v10 = .bool (t437 == 0) ∧ Aside0 (flyballref05_Magnitude.j0 kq a1 x6_6 t432 (t437 == 0) t441 l0_0 l0_1 a0_2 a0_3 = some (r1, r2)) ∧ Aside0 (kq ≤ k) ∧ Aside0 (Kd.R Kd.bool 4 wc w.heap.size (fun _ => True) v442 t441) ∧ Aside0 (wc.heap[gb431]? = some (.cells #[(.slice A0_0 l0_0.length c0_0), (.slice A0_1 l0_1.length c0_1), .int .i64 a0_2, .bool a0_3] 115 (0, 0))) ∧ Aside0 (Below w.heap.size w wc))
 case first =>
  have H := HC7.out
  clear HC7
  by_cases c19 : t437 = 0
  ·rw [if_pos c19] at H
   have c19b0 : (t437 == 0) = true := beq_iff_eq.mpr c19
   have c19b1 : (t437 != 0) = false := bne_eq_false_iff_eq.mpr c19
   clear c19
   (first | rw [c19b0] | (simp only [i64_w, i32_w]; rw [c19b0]) | skip)
   have H' := Aside0.mk H
   clear H
   go_wp2
   go_meet
   case rel => exact ⟨_, (0), (by first | rfl | (simp; done) | (simp [*]; done)), (by first | rfl | (rw [c19b0])), H', ⟨by first | omega | exact Nat.le_refl _⟩, ⟨by (with_reducible repeat (first | apply Kd.R_alloc | apply Kd.R_drewN | apply Kd.R_drew)); exact Kd.R_mono HO443.out (fun _ hk => trivial)⟩, ⟨(zkq BK431)⟩, ⟨zaB⟩⟩
  ·rw [if_neg c19] at H
   have c19b0 : (t437 == 0) = false := beq_eq_false_iff_ne.mpr c19
   have c19b1 : (t437 != 0) = true := bne_iff_ne.mpr c19
   (first | rw [c19b0] | (simp only [i64_w, i32_w]; rw [c19b0]) | skip)
   obtain ⟨t444, A20, H⟩ := zbs H
   try dsimp only at H
   by_cases c21 : t444 < 0
   ·rw [if_pos c21] at H
    have c21b0 : decide (t444 < 0) = true := decide_eq_true c21
    clear c21
    have H' := Aside0.mk H
    clear H
    have hcz22_0 := zc0 BK431
    have hcz22_1 := zc1 BK431
    have hcz22_2 := zc2 BK431
    have hcz22_3 := zc3 BK431
    have hfz22_0 := blk_frozen BK431.out 0
    have hfz22_1 := blk_frozen BK431.out 1
    have hfz22_2 := blk_frozen BK431.out 2
    have hfz22_3 := blk_frozen BK431.out 3
    obtain ⟨Ao23, co23, eo23⟩ := Kd.R_slice HO443.out
    subst eo23
    go_wp2_with (first | ((with_reducible refine gate_callee (f := 189) rfl ?_); refine goesL_ (some 37) rfl rfl Try.func189 (by kernel_rfl) rfl #[.agg #[.slice A0_0 l0_0.length c0_0, .slice A0_1 l0_1.length c0_1, .int .i64 a0_2, .bool a0_3], .slice Ao23 t441.length co23, .int .i64 (-1022)] rfl (by (try simp only [List.map_toArray, List.map_cons, List.map_nil]); first | done | rfl | (simp only [List.length_drop, List.length_take]; rfl)) ?_; (with_reducible refine (flyballref05_cmp.calls k _ _ l0_0 _ _ l0_1 a0_2 a0_3 _ _ t441 (-1022) t444 _ ?side1 ?side2 ?side3 ?side4 ?side5 ?side6 A20.out).mono ?_); (case side1 => repeat (first | exact (Kd.C_below HR0_0.out HB.out) | (with_reducible refine Kd.C_alloc ?_ _) | (with_reducible refine Kd.C_drewN ?_ _) | (with_reducible refine Kd.C_drew ?_))); (case side2 => exact HC0_0.out); (case side3 => repeat (first | exact (Kd.C_below HR0_1.out HB.out) | (with_reducible refine Kd.C_alloc ?_ _) | (with_reducible refine Kd.C_drewN ?_ _) | (with_reducible refine Kd.C_drew ?_))); (case side4 => exact HC0_1.out); (case side5 => repeat (first | exact (Kd.R_reads' HO443.out).2.2 | (with_reducible refine Kd.C_alloc ?_ _) | (with_reducible refine Kd.C_drewN ?_ _) | (with_reducible refine Kd.C_drew ?_))); (case side6 => exact (Kd.R_reads' HO443.out).2.1); rintro e w24 ⟨rfl, hb⟩; refine ⟨_, rfl, ?_⟩; replace HO436 := Aside0.mk (Kd.R_below (by (with_reducible repeat (first | apply Kd.R_alloc | apply Kd.R_drewN | apply Kd.R_drew)); exact HO436.out) hb); replace HO440 := Aside0.mk (Kd.R_below (by (with_reducible repeat (first | apply Kd.R_alloc | apply Kd.R_drewN | apply Kd.R_drew)); exact HO440.out) hb); replace HO443 := Aside0.mk (Kd.R_below (by (with_reducible repeat (first | apply Kd.R_alloc | apply Kd.R_drewN | apply Kd.R_drew)); exact HO443.out) hb); replace BK431 := zkb BK431 hb; replace HB := zkB HB hb; (try clear hb)))
    go_meet
    case rel => exact ⟨_, (Go.bits .or .u8 (Go.bits .or .u8 0 1) 2), (by first | rfl | (simp; done) | (simp [*]; done)), (by first | rfl | (rw [c19b0])), H', ⟨by first | omega | exact Nat.le_refl _⟩, ⟨by (with_reducible repeat (first | apply Kd.R_alloc | apply Kd.R_drewN | apply Kd.R_drew)); exact Kd.R_mono HO443.out (fun _ hk => trivial)⟩, ⟨(zkq BK431)⟩, ⟨zaB⟩⟩
   ·rw [if_neg c21] at H
    have c21b0 : decide (t444 < 0) = false := decide_eq_false c21
    clear c21
    have H' := Aside0.mk H
    clear H
    have hcz25_0 := zc0 BK431
    have hcz25_1 := zc1 BK431
    have hcz25_2 := zc2 BK431
    have hcz25_3 := zc3 BK431
    have hfz25_0 := blk_frozen BK431.out 0
    have hfz25_1 := blk_frozen BK431.out 1
    have hfz25_2 := blk_frozen BK431.out 2
    have hfz25_3 := blk_frozen BK431.out 3
    obtain ⟨Ao26, co26, eo26⟩ := Kd.R_slice HO443.out
    subst eo26
    go_wp2_with (first | ((with_reducible refine gate_callee (f := 189) rfl ?_); refine goesL_ (some 37) rfl rfl Try.func189 (by kernel_rfl) rfl #[.agg #[.slice A0_0 l0_0.length c0_0, .slice A0_1 l0_1.length c0_1, .int .i64 a0_2, .bool a0_3], .slice Ao26 t441.length co26, .int .i64 (-1022)] rfl (by (try simp only [List.map_toArray, List.map_cons, List.map_nil]); first | done | rfl | (simp only [List.length_drop, List.length_take]; rfl)) ?_; (with_reducible refine (flyballref05_cmp.calls k _ _ l0_0 _ _ l0_1 a0_2 a0_3 _ _ t441 (-1022) t444 _ ?side1 ?side2 ?side3 ?side4 ?side5 ?side6 A20.out).mono ?_); (case side1 => repeat (first | exact (Kd.C_below HR0_0.out HB.out) | (with_reducible refine Kd.C_alloc ?_ _) | (with_reducible refine Kd.C_drewN ?_ _) | (with_reducible refine Kd.C_drew ?_))); (case side2 => exact HC0_0.out); (case side3 => repeat (first | exact (Kd.C_below HR0_1.out HB.out) | (with_reducible refine Kd.C_alloc ?_ _) | (with_reducible refine Kd.C_drewN ?_ _) | (with_reducible refine Kd.C_drew ?_))); (case side4 => exact HC0_1.out); (case side5 => repeat (first | exact (Kd.R_reads' HO443.out).2.2 | (with_reducible refine Kd.C_alloc ?_ _) | (with_reducible refine Kd.C_drewN ?_ _) | (with_reducible refine Kd.C_drew ?_))); (case side6 => exact (Kd.R_reads' HO443.out).2.1); rintro e w27 ⟨rfl, hb⟩; refine ⟨_, rfl, ?_⟩; replace HO436 := Aside0.mk (Kd.R_below (by (with_reducible repeat (first | apply Kd.R_alloc | apply Kd.R_drewN | apply Kd.R_drew)); exact HO436.out) hb); replace HO440 := Aside0.mk (Kd.R_below (by (with_reducible repeat (first | apply Kd.R_alloc | apply Kd.R_drewN | apply Kd.R_drew)); exact HO440.out) hb); replace HO443 := Aside0.mk (Kd.R_below (by (with_reducible repeat (first | apply Kd.R_alloc | apply Kd.R_drewN | apply Kd.R_drew)); exact HO443.out) hb); replace BK431 := zkb BK431 hb; replace HB := zkB HB hb; (try clear hb)))
    go_meet
    case rel => exact ⟨_, (Go.bits .or .u8 0 1), (by first | rfl | (simp; done) | (simp [*]; done)), (by first | rfl | (rw [c19b0])), H', ⟨by first | omega | exact Nat.le_refl _⟩, ⟨by (with_reducible repeat (first | apply Kd.R_alloc | apply Kd.R_drewN | apply Kd.R_drew)); exact Kd.R_mono HO443.out (fun _ hk => trivial)⟩, ⟨(zkq BK431)⟩, ⟨zaB⟩⟩
 case rest =>
  clear HC7
  try clear c1
  try clear c2
  try clear p2
  try clear c15
  try clear c16
  try clear c18
  try clear c19
  try clear c19b0
  try clear c19b1
  try clear c21
  try clear c21b0
  try clear hcz12_0
  try clear hcz12_1
  try clear hcz12_2
  try clear hcz12_3
  try clear hcz22_0
  try clear hcz22_1
  try clear hcz22_2
  try clear hcz22_3
  try clear hcz25_0
  try clear hcz25_1
  try clear hcz25_2
  try clear hcz25_3
  try clear hcz9_0
  try clear hcz9_1
  try clear hcz9_2
  try clear hcz9_3
  try clear hfz12_0
  try clear hfz12_1
  try clear hfz12_2
  try clear hfz12_3
  try clear hfz22_0
  try clear hfz22_1
  try clear hfz22_2
  try clear hfz22_3
  try clear hfz25_0
  try clear hfz25_1
  try clear hfz25_2
  try clear hfz25_3
  try clear hfz9_0
  try clear hfz9_1
  try clear hfz9_2
  try clear hfz9_3
  obtain ⟨kq, x6_6, rfl, rfl, HA, HJ6, HO_11, BK431, HB⟩ := hcut
  cases kq with
  | zero => exact absurd HA.out (by simp [flyballref05_Magnitude.j0])
  | succ kj6 =>
   have H := HA.out
   clear HA
   simp only [flyballref05_Magnitude.j0] at H
   have HC28 := Aside0.mk H
   clear H
   go_upto_if 42 with (fail)
   go_cut [12] (fun v12 wc => ∃ (kq : Nat) (x12_27 : Bool), v12 = .bool x12_27 ∧ Aside0 (flyballref05_Magnitude.j1 kq a1 x6_6 t432 x12_27 = some (r1, r2)) ∧ Aside0 (kq ≤ kj6) ∧ Aside0 (wc.heap[gb431]? = some (.cells #[(.slice A0_0 l0_0.length c0_0), (.slice A0_1 l0_1.length c0_1), .int .i64 a0_2, .bool a0_3] 115 (0, 0))) ∧ Aside0 (Below w.heap.size w wc))
   case first =>
    have H := HC28.out
    clear HC28
    by_cases c29 : a1 = 1
    ·rw [if_pos c29] at H
     have c29b0 : (a1 == 1) = true := beq_iff_eq.mpr c29
     have c29b1 : (a1 != 1) = false := bne_eq_false_iff_eq.mpr c29
     clear c29
     (first | rw [c29b0] | (simp only [i64_w, i32_w]; rw [c29b0]) | skip)
     have H' := Aside0.mk H
     clear H
     go_wp2
     go_meet
     case rel => exact ⟨_, (!(t437 == 0)), (by first | rfl | (simp; done) | (simp [*]; done)), H', ⟨by have := HJ6.out; first | omega | exact Nat.le_refl _⟩, ⟨(zkq BK431)⟩, ⟨zaB⟩⟩
    ·rw [if_neg c29] at H
     have c29b0 : (a1 == 1) = false := beq_eq_false_iff_ne.mpr c29
     have c29b1 : (a1 != 1) = true := bne_iff_ne.mpr c29
     (first | rw [c29b0] | (simp only [i64_w, i32_w]; rw [c29b0]) | skip)
     by_cases c30 : a1 = 2
     ·rw [if_pos c30] at H
      have c30b0 : (a1 == 2) = true := beq_iff_eq.mpr c30
      have c30b1 : (a1 != 2) = false := bne_eq_false_iff_eq.mpr c30
      clear c30
      have H' := Aside0.mk H
      clear H
      go_wp2
      go_meet
      case rel => exact ⟨_, (false), (by first | rfl | (simp; done) | (simp [*]; done)), H', ⟨by have := HJ6.out; first | omega | exact Nat.le_refl _⟩, ⟨(zkq BK431)⟩, ⟨zaB⟩⟩
     ·rw [if_neg c30] at H
      have c30b0 : (a1 == 2) = false := beq_eq_false_iff_ne.mpr c30
      have c30b1 : (a1 != 2) = true := bne_iff_ne.mpr c30
      obtain ⟨⟨t445, t446⟩, A31, H⟩ := zbs H
      try dsimp only at H
      by_cases c32 : t432 > 9218868437227405311
      ·rw [if_pos c32] at H
       have c32b0 : decide (9218868437227405311 < t432) = true := decide_eq_true c32
       clear c32
       obtain ⟨⟨t449, t450⟩, A33, H⟩ := zbs H
       try dsimp only at H
       obtain ⟨t453, A34, H⟩ := zbs H
       try dsimp only at H
       obtain ⟨t456, A35, H⟩ := zbs H
       try dsimp only at H
       obtain ⟨t459, A36, H⟩ := zbs H
       try dsimp only at H
       obtain ⟨t462, A37, H⟩ := zbs H
       try dsimp only at H
       by_cases c38 : t462 > 0
       ·rw [if_pos c38] at H
        have c38b0 : decide (0 < t462) = true := decide_eq_true c38
        clear c38
        have H' := Aside0.mk H
        clear H
        go_wp2_with (first | ((with_reducible refine gate_callee (f := 188) rfl ?_); refine goesL_ (some 49) rfl rfl Try.func188 (by kernel_rfl) rfl #[.int .i64 t432] rfl (by (try simp only [List.map_toArray, List.map_cons, List.map_nil]); first | done | rfl | (simp only [List.length_drop, List.length_take]; rfl)) ?_; (with_reducible refine (flyballref05_split.calls kj6 t432 t445 t446 _ A31.out).mono ?_); rintro e w39 ⟨v447, rfl, ho0, hb⟩; refine ⟨_, rfl, ?_⟩; have HO448 := Aside0.mk (Kd.R_lower (Kd.R_new' ho0 (Kd.R_lt (by (with_reducible repeat (first | apply Kd.R_alloc | apply Kd.R_drewN | apply Kd.R_drew)); exact HO_11.out))) (below_size zaB)); replace HO_11 := Aside0.mk (Kd.R_elder' (by (with_reducible repeat (first | apply Kd.R_alloc | apply Kd.R_drewN | apply Kd.R_drew)); exact HO_11.out) (Kd.R_base ho0) hb); replace BK431 := zkb BK431 hb; replace HB := zkB HB hb; (try clear hb); (try clear ho0)) | ((with_reducible refine gate_callee (f := 188) rfl ?_); refine goesL_ (some 55) rfl rfl Try.func188 (by kernel_rfl) rfl #[.int .i64 9218868437227405311] rfl (by (try simp only [List.map_toArray, List.map_cons, List.map_nil]); first | done | rfl | (simp only [List.length_drop, List.length_take]; rfl)) ?_; (with_reducible refine (flyballref05_split.calls kj6 9218868437227405311 t449 t450 _ A33.out).mono ?_); rintro e w40 ⟨v451, rfl, ho0, hb⟩; refine ⟨_, rfl, ?_⟩; have HO452 := Aside0.mk (Kd.R_lower (Kd.R_new' (Kd.R_new' ho0 (Kd.R_lt (by (with_reducible repeat (first | apply Kd.R_alloc | apply Kd.R_drewN | apply Kd.R_drew)); exact HO_11.out))) (Kd.R_lt (by (with_reducible repeat (first | apply Kd.R_alloc | apply Kd.R_drewN | apply Kd.R_drew)); exact HO448.out))) (below_size zaB)); replace HO_11 := Aside0.mk (Kd.R_elder' (by (with_reducible repeat (first | apply Kd.R_alloc | apply Kd.R_drewN | apply Kd.R_drew)); exact HO_11.out) (Kd.R_base ho0) hb); replace HO448 := Aside0.mk (Kd.R_elder' (by (with_reducible repeat (first | apply Kd.R_alloc | apply Kd.R_drewN | apply Kd.R_drew)); exact HO448.out) (Kd.R_base ho0) hb); replace BK431 := zkb BK431 hb; replace HB := zkB HB hb; (try clear hb); (try clear ho0); obtain ⟨Ao41, co41, eo41⟩ := Kd.R_slice HO452.out; subst eo41; obtain ⟨Ao42, co42, eo42⟩ := Kd.R_slice HO_11.out; subst eo42) | ((with_reducible refine gate_callee (f := 92) rfl ?_); refine goesL_ (some 60) rfl rfl Try.func92 (by kernel_rfl) rfl #[.slice Ao41 t449.length co41, .slice Ao42 t441.length co42] rfl (by (try simp only [List.map_toArray, List.map_cons, List.map_nil]); first | done | rfl | (simp only [List.length_drop, List.length_take]; rfl)) ?_; (with_reducible refine (flyballref01_Add.calls kj6 _ _ t449 _ _ t441 t453 _ ?side1 ?side2 ?side3 ?side4 A34.out).mono ?_); (case side1 => repeat (first | exact (Kd.R_reads' HO452.out).2.2 | (with_reducible refine Kd.C_alloc ?_ _) | (with_reducible refine Kd.C_drewN ?_ _) | (with_reducible refine Kd.C_drew ?_))); (case side2 => exact (Kd.R_reads' HO452.out).2.1); (case side3 => repeat (first | exact (Kd.R_reads' HO_11.out).2.2 | (with_reducible refine Kd.C_alloc ?_ _) | (with_reducible refine Kd.C_drewN ?_ _) | (with_reducible refine Kd.C_drew ?_))); (case side4 => exact (Kd.R_reads' HO_11.out).2.1); rintro e w43 ⟨v454, rfl, ho0, hb⟩; refine ⟨_, rfl, ?_⟩; have HO455 := Aside0.mk (Kd.R_lower (Kd.R_new' (Kd.R_new' (Kd.R_new' ho0 (Kd.R_lt (by (with_reducible repeat (first | apply Kd.R_alloc | apply Kd.R_drewN | apply Kd.R_drew)); exact HO_11.out))) (Kd.R_lt (by (with_reducible repeat (first | apply Kd.R_alloc | apply Kd.R_drewN | apply Kd.R_drew)); exact HO448.out))) (Kd.R_lt (by (with_reducible repeat (first | apply Kd.R_alloc | apply Kd.R_drewN | apply Kd.R_drew)); exact HO452.out))) (below_size zaB)); replace HO_11 := Aside0.mk (Kd.R_elder' (by (with_reducible repeat (first | apply Kd.R_alloc | apply Kd.R_drewN | apply Kd.R_drew)); exact HO_11.out) (Kd.R_base ho0) hb); replace HO448 := Aside0.mk (Kd.R_elder' (by (with_reducible repeat (first | apply Kd.R_alloc | apply Kd.R_drewN | apply Kd.R_drew)); exact HO448.out) (Kd.R_base ho0) hb); replace HO452 := Aside0.mk (Kd.R_elder' (by (with_reducible repeat (first | apply Kd.R_alloc | apply Kd.R_drewN | apply Kd.R_drew)); exact HO452.out) (Kd.R_base ho0) hb); replace BK431 := zkb BK431 hb; replace HB := zkB HB hb; (try clear hb); (try clear ho0); obtain ⟨Ao44, co44, eo44⟩ := Kd.R_slice HO455.out; subst eo44) | ((with_reducible refine gate_callee (f := 90) rfl ?_); refine goesL_ (some 62) rfl rfl Try.func90 (by kernel_rfl) rfl #[.slice Ao44 t453.length co44, .int .i64 1] rfl (by (try simp only [List.map_toArray, List.map_cons, List.map_nil]); first | done | rfl | (simp only [List.length_drop, List.length_take]; rfl)) ?_; (with_reducible refine (flyballref01_Shl.calls kj6 _ _ t453 1 t456 _ ?side1 ?side2 A35.out).mono ?_); (case side1 => repeat (first | exact (Kd.R_reads' HO455.out).2.2 | (with_reducible refine Kd.C_alloc ?_ _) | (with_reducible refine Kd.C_drewN ?_ _) | (with_reducible refine Kd.C_drew ?_))); (case side2 => exact (Kd.R_reads' HO455.out).2.1); rintro e w45 ⟨v457, rfl, ho0, hb⟩; refine ⟨_, rfl, ?_⟩; have HO458 := Aside0.mk (Kd.R_lower (Kd.R_new' (Kd.R_new' (Kd.R_new' (Kd.R_new' ho0 (Kd.R_lt (by (with_reducible repeat (first | apply Kd.R_alloc | apply Kd.R_drewN | apply Kd.R_drew)); exact HO_11.out))) (Kd.R_lt (by (with_reducible repeat (first | apply Kd.R_alloc | apply Kd.R_drewN | apply Kd.R_drew)); exact HO448.out))) (Kd.R_lt (by (with_reducible repeat (first | apply Kd.R_alloc | apply Kd.R_drewN | apply Kd.R_drew)); exact HO452.out))) (Kd.R_lt (by (with_reducible repeat (first | apply Kd.R_alloc | apply Kd.R_drewN | apply Kd.R_drew)); exact HO455.out))) (below_size zaB)); replace HO_11 := Aside0.mk (Kd.R_elder' (by (with_reducible repeat (first | apply Kd.R_alloc | apply Kd.R_drewN | apply Kd.R_drew)); exact HO_11.out) (Kd.R_base ho0) hb); replace HO448 := Aside0.mk (Kd.R_elder' (by (with_reducible repeat (first | apply Kd.R_alloc | apply Kd.R_drewN | apply Kd.R_drew)); exact HO448.out) (Kd.R_base ho0) hb); replace HO452 := Aside0.mk (Kd.R_elder' (by (with_reducible repeat (first | apply Kd.R_alloc | apply Kd.R_drewN | apply Kd.R_drew)); exact HO452.out) (Kd.R_base ho0) hb); replace HO455 := Aside0.mk (Kd.R_elder' (by (with_reducible repeat (first | apply Kd.R_alloc | apply Kd.R_drewN | apply Kd.R_drew)); exact HO455.out) (Kd.R_base ho0) hb); replace BK431 := zkb BK431 hb; replace HB := zkB HB hb; (try clear hb); (try clear ho0); obtain ⟨Ao46, co46, eo46⟩ := Kd.R_slice HO458.out; subst eo46) | ((with_reducible refine gate_callee (f := 92) rfl ?_); refine goesL_ (some 64) rfl rfl Try.func92 (by kernel_rfl) rfl #[.slice Ao46 t456.length co46, .slice Ao42 t441.length co42] rfl (by (try simp only [List.map_toArray, List.map_cons, List.map_nil]); first | done | rfl | (simp only [List.length_drop, List.length_take]; rfl)) ?_; (with_reducible refine (flyballref01_Add.calls kj6 _ _ t456 _ _ t441 t459 _ ?side1 ?side2 ?side3 ?side4 A36.out).mono ?_); (case side1 => repeat (first | exact (Kd.R_reads' HO458.out).2.2 | (with_reducible refine Kd.C_alloc ?_ _) | (with_reducible refine Kd.C_drewN ?_ _) | (with_reducible refine Kd.C_drew ?_))); (case side2 => exact (Kd.R_reads' HO458.out).2.1); (case side3 => repeat (first | exact (Kd.R_reads' HO_11.out).2.2 | (with_reducible refine Kd.C_alloc ?_ _) | (with_reducible refine Kd.C_drewN ?_ _) | (with_reducible refine Kd.C_drew ?_))); (case side4 => exact (Kd.R_reads' HO_11.out).2.1); rintro e w47 ⟨v460, rfl, ho0, hb⟩; refine ⟨_, rfl, ?_⟩; have HO461 := Aside0.mk (Kd.R_lower (Kd.R_new' (Kd.R_new' (Kd.R_new' (Kd.R_new' (Kd.R_new' ho0 (Kd.R_lt (by (with_reducible repeat (first | apply Kd.R_alloc | apply Kd.R_drewN | apply Kd.R_drew)); exact HO_11.out))) (Kd.R_lt (by (with_reducible repeat (first | apply Kd.R_alloc | apply Kd.R_drewN | apply Kd.R_drew)); exact HO448.out))) (Kd.R_lt (by (with_reducible repeat (first | apply Kd.R_alloc | apply Kd.R_drewN | apply Kd.R_drew)); exact HO452.out))) (Kd.R_lt (by (with_reducible repeat (first | apply Kd.R_alloc | apply Kd.R_drewN | apply Kd.R_drew)); exact HO455.out))) (Kd.R_lt (by (with_reducible repeat (first | apply Kd.R_alloc | apply Kd.R_drewN | apply Kd.R_drew)); exact HO458.out))) (below_size zaB)); replace HO_11 := Aside0.mk (Kd.R_elder' (by (with_reducible repeat (first | apply Kd.R_alloc | apply Kd.R_drewN | apply Kd.R_drew)); exact HO_11.out) (Kd.R_base ho0) hb); replace HO448 := Aside0.mk (Kd.R_elder' (by (with_reducible repeat (first | apply Kd.R_alloc | apply Kd.R_drewN | apply Kd.R_drew)); exact HO448.out) (Kd.R_base ho0) hb); replace HO452 := Aside0.mk (Kd.R_elder' (by (with_reducible repeat (first | apply Kd.R_alloc | apply Kd.R_drewN | apply Kd.R_drew)); exact HO452.out) (Kd.R_base ho0) hb); replace HO455 := Aside0.mk (Kd.R_elder' (by (with_reducible repeat (first | apply Kd.R_alloc | apply Kd.R_drewN | apply Kd.R_drew)); exact HO455.out) (Kd.R_base ho0) hb); replace HO458 := Aside0.mk (Kd.R_elder' (by (with_reducible repeat (first | apply Kd.R_alloc | apply Kd.R_drewN | apply Kd.R_drew)); exact HO458.out) (Kd.R_base ho0) hb); replace BK431 := zkb BK431 hb; replace HB := zkB HB hb; (try clear hb); (try clear ho0); have hcz48_0 := zc0 BK431; have hcz48_1 := zc1 BK431; have hcz48_2 := zc2 BK431; have hcz48_3 := zc3 BK431; have hfz48_0 := blk_frozen BK431.out 0; have hfz48_1 := blk_frozen BK431.out 1; have hfz48_2 := blk_frozen BK431.out 2; have hfz48_3 := blk_frozen BK431.out 3; obtain ⟨Ao49, co49, eo49⟩ := Kd.R_slice HO461.out; subst eo49) | ((with_reducible refine gate_callee (f := 189) rfl ?_); refine goesL_ (some 69) rfl rfl Try.func189 (by kernel_rfl) rfl #[.agg #[.slice A0_0 l0_0.length c0_0, .slice A0_1 l0_1.length c0_1, .int .i64 a0_2, .bool a0_3], .slice Ao49 t459.length co49, .int .i64 (wrap64 (t450 - 1))] rfl (by (try simp only [List.map_toArray, List.map_cons, List.map_nil]); first | done | rfl | (simp only [List.length_drop, List.length_take]; rfl)) ?_; (with_reducible refine (flyballref05_cmp.calls kj6 _ _ l0_0 _ _ l0_1 a0_2 a0_3 _ _ t459 (wrap64 (t450 - 1)) t462 _ ?side1 ?side2 ?side3 ?side4 ?side5 ?side6 A37.out).mono ?_); (case side1 => repeat (first | exact (Kd.C_below HR0_0.out HB.out) | (with_reducible refine Kd.C_alloc ?_ _) | (with_reducible refine Kd.C_drewN ?_ _) | (with_reducible refine Kd.C_drew ?_))); (case side2 => exact HC0_0.out); (case side3 => repeat (first | exact (Kd.C_below HR0_1.out HB.out) | (with_reducible refine Kd.C_alloc ?_ _) | (with_reducible refine Kd.C_drewN ?_ _) | (with_reducible refine Kd.C_drew ?_))); (case side4 => exact HC0_1.out); (case side5 => repeat (first | exact (Kd.R_reads' HO461.out).2.2 | (with_reducible refine Kd.C_alloc ?_ _) | (with_reducible refine Kd.C_drewN ?_ _) | (with_reducible refine Kd.C_drew ?_))); (case side6 => exact (Kd.R_reads' HO461.out).2.1); rintro e w50 ⟨rfl, hb⟩; refine ⟨_, rfl, ?_⟩; replace HO_11 := Aside0.mk (Kd.R_below (by (with_reducible repeat (first | apply Kd.R_alloc | apply Kd.R_drewN | apply Kd.R_drew)); exact HO_11.out) hb); replace HO448 := Aside0.mk (Kd.R_below (by (with_reducible repeat (first | apply Kd.R_alloc | apply Kd.R_drewN | apply Kd.R_drew)); exact HO448.out) hb); replace HO452 := Aside0.mk (Kd.R_below (by (with_reducible repeat (first | apply Kd.R_alloc | apply Kd.R_drewN | apply Kd.R_drew)); exact HO452.out) hb); replace HO455 := Aside0.mk (Kd.R_below (by (with_reducible repeat (first | apply Kd.R_alloc | apply Kd.R_drewN | apply Kd.R_drew)); exact HO455.out) hb); replace HO458 := Aside0.mk (Kd.R_below (by (with_reducible repeat (first | apply Kd.R_alloc | apply Kd.R_drewN | apply Kd.R_drew)); exact HO458.out) hb); replace HO461 := Aside0.mk (Kd.R_below (by (with_reducible repeat (first | apply Kd.R_alloc | apply Kd.R_drewN | apply Kd.R_drew)); exact HO461.out) hb); replace BK431 := zkb BK431 hb; replace HB := zkB HB hb; (try clear hb)))
        go_meet
        case rel => exact ⟨_, (true), (by first | rfl | (simp; done) | (simp [*]; done)), H', ⟨by have := HJ6.out; first | omega | exact Nat.le_refl _⟩, ⟨(zkq BK431)⟩, ⟨zaB⟩⟩
       ·rw [if_neg c38] at H
        have c38b0 : decide (0 < t462) = false := decide_eq_false c38
        clear c38
        by_cases c51 : t462 = 0
        ·rw [if_pos c51] at H
         have c51b0 : (t462 == 0) = true := beq_iff_eq.mpr c51
         have c51b1 : (t462 != 0) = false := bne_eq_false_iff_eq.mpr c51
         clear c51
         have H' := Aside0.mk H
         clear H
         go_wp2_with (first | ((with_reducible refine gate_callee (f := 188) rfl ?_); refine goesL_ (some 49) rfl rfl Try.func188 (by kernel_rfl) rfl #[.int .i64 t432] rfl (by (try simp only [List.map_toArray, List.map_cons, List.map_nil]); first | done | rfl | (simp only [List.length_drop, List.length_take]; rfl)) ?_; (with_reducible refine (flyballref05_split.calls kj6 t432 t445 t446 _ A31.out).mono ?_); rintro e w52 ⟨v447, rfl, ho0, hb⟩; refine ⟨_, rfl, ?_⟩; have HO448 := Aside0.mk (Kd.R_lower (Kd.R_new' ho0 (Kd.R_lt (by (with_reducible repeat (first | apply Kd.R_alloc | apply Kd.R_drewN | apply Kd.R_drew)); exact HO_11.out))) (below_size zaB)); replace HO_11 := Aside0.mk (Kd.R_elder' (by (with_reducible repeat (first | apply Kd.R_alloc | apply Kd.R_drewN | apply Kd.R_drew)); exact HO_11.out) (Kd.R_base ho0) hb); replace BK431 := zkb BK431 hb; replace HB := zkB HB hb; (try clear hb); (try clear ho0)) | ((with_reducible refine gate_callee (f := 188) rfl ?_); refine goesL_ (some 55) rfl rfl Try.func188 (by kernel_rfl) rfl #[.int .i64 9218868437227405311] rfl (by (try simp only [List.map_toArray, List.map_cons, List.map_nil]); first | done | rfl | (simp only [List.length_drop, List.length_take]; rfl)) ?_; (with_reducible refine (flyballref05_split.calls kj6 9218868437227405311 t449 t450 _ A33.out).mono ?_); rintro e w53 ⟨v451, rfl, ho0, hb⟩; refine ⟨_, rfl, ?_⟩; have HO452 := Aside0.mk (Kd.R_lower (Kd.R_new' (Kd.R_new' ho0 (Kd.R_lt (by (with_reducible repeat (first | apply Kd.R_alloc | apply Kd.R_drewN | apply Kd.R_drew)); exact HO_11.out))) (Kd.R_lt (by (with_reducible repeat (first | apply Kd.R_alloc | apply Kd.R_drewN | apply Kd.R_drew)); exact HO448.out))) (below_size zaB)); replace HO_11 := Aside0.mk (Kd.R_elder' (by (with_reducible repeat (first | apply Kd.R_alloc | apply Kd.R_drewN | apply Kd.R_drew)); exact HO_11.out) (Kd.R_base ho0) hb); replace HO448 := Aside0.mk (Kd.R_elder' (by (with_reducible repeat (first | apply Kd.R_alloc | apply Kd.R_drewN | apply Kd.R_drew)); exact HO448.out) (Kd.R_base ho0) hb); replace BK431 := zkb BK431 hb; replace HB := zkB HB hb; (try clear hb); (try clear ho0); obtain ⟨Ao54, co54, eo54⟩ := Kd.R_slice HO452.out; subst eo54; obtain ⟨Ao55, co55, eo55⟩ := Kd.R_slice HO_11.out; subst eo55) | ((with_reducible refine gate_callee (f := 92) rfl ?_); refine goesL_ (some 60) rfl rfl Try.func92 (by kernel_rfl) rfl #[.slice Ao54 t449.length co54, .slice Ao55 t441.length co55] rfl (by (try simp only [List.map_toArray, List.map_cons, List.map_nil]); first | done | rfl | (simp only [List.length_drop, List.length_take]; rfl)) ?_; (with_reducible refine (flyballref01_Add.calls kj6 _ _ t449 _ _ t441 t453 _ ?side1 ?side2 ?side3 ?side4 A34.out).mono ?_); (case side1 => repeat (first | exact (Kd.R_reads' HO452.out).2.2 | (with_reducible refine Kd.C_alloc ?_ _) | (with_reducible refine Kd.C_drewN ?_ _) | (with_reducible refine Kd.C_drew ?_))); (case side2 => exact (Kd.R_reads' HO452.out).2.1); (case side3 => repeat (first | exact (Kd.R_reads' HO_11.out).2.2 | (with_reducible refine Kd.C_alloc ?_ _) | (with_reducible refine Kd.C_drewN ?_ _) | (with_reducible refine Kd.C_drew ?_))); (case side4 => exact (Kd.R_reads' HO_11.out).2.1); rintro e w56 ⟨v454, rfl, ho0, hb⟩; refine ⟨_, rfl, ?_⟩; have HO455 := Aside0.mk (Kd.R_lower (Kd.R_new' (Kd.R_new' (Kd.R_new' ho0 (Kd.R_lt (by (with_reducible repeat (first | apply Kd.R_alloc | apply Kd.R_drewN | apply Kd.R_drew)); exact HO_11.out))) (Kd.R_lt (by (with_reducible repeat (first | apply Kd.R_alloc | apply Kd.R_drewN | apply Kd.R_drew)); exact HO448.out))) (Kd.R_lt (by (with_reducible repeat (first | apply Kd.R_alloc | apply Kd.R_drewN | apply Kd.R_drew)); exact HO452.out))) (below_size zaB)); replace HO_11 := Aside0.mk (Kd.R_elder' (by (with_reducible repeat (first | apply Kd.R_alloc | apply Kd.R_drewN | apply Kd.R_drew)); exact HO_11.out) (Kd.R_base ho0) hb); replace HO448 := Aside0.mk (Kd.R_elder' (by (with_reducible repeat (first | apply Kd.R_alloc | apply Kd.R_drewN | apply Kd.R_drew)); exact HO448.out) (Kd.R_base ho0) hb); replace HO452 := Aside0.mk (Kd.R_elder' (by (with_reducible repeat (first | apply Kd.R_alloc | apply Kd.R_drewN | apply Kd.R_drew)); exact HO452.out) (Kd.R_base ho0) hb); replace BK431 := zkb BK431 hb; replace HB := zkB HB hb; (try clear hb); (try clear ho0); obtain ⟨Ao57, co57, eo57⟩ := Kd.R_slice HO455.out; subst eo57) | ((with_reducible refine gate_callee (f := 90) rfl ?_); refine goesL_ (some 62) rfl rfl Try.func90 (by kernel_rfl) rfl #[.slice Ao57 t453.length co57, .int .i64 1] rfl (by (try simp only [List.map_toArray, List.map_cons, List.map_nil]); first | done | rfl | (simp only [List.length_drop, List.length_take]; rfl)) ?_; (with_reducible refine (flyballref01_Shl.calls kj6 _ _ t453 1 t456 _ ?side1 ?side2 A35.out).mono ?_); (case side1 => repeat (first | exact (Kd.R_reads' HO455.out).2.2 | (with_reducible refine Kd.C_alloc ?_ _) | (with_reducible refine Kd.C_drewN ?_ _) | (with_reducible refine Kd.C_drew ?_))); (case side2 => exact (Kd.R_reads' HO455.out).2.1); rintro e w58 ⟨v457, rfl, ho0, hb⟩; refine ⟨_, rfl, ?_⟩; have HO458 := Aside0.mk (Kd.R_lower (Kd.R_new' (Kd.R_new' (Kd.R_new' (Kd.R_new' ho0 (Kd.R_lt (by (with_reducible repeat (first | apply Kd.R_alloc | apply Kd.R_drewN | apply Kd.R_drew)); exact HO_11.out))) (Kd.R_lt (by (with_reducible repeat (first | apply Kd.R_alloc | apply Kd.R_drewN | apply Kd.R_drew)); exact HO448.out))) (Kd.R_lt (by (with_reducible repeat (first | apply Kd.R_alloc | apply Kd.R_drewN | apply Kd.R_drew)); exact HO452.out))) (Kd.R_lt (by (with_reducible repeat (first | apply Kd.R_alloc | apply Kd.R_drewN | apply Kd.R_drew)); exact HO455.out))) (below_size zaB)); replace HO_11 := Aside0.mk (Kd.R_elder' (by (with_reducible repeat (first | apply Kd.R_alloc | apply Kd.R_drewN | apply Kd.R_drew)); exact HO_11.out) (Kd.R_base ho0) hb); replace HO448 := Aside0.mk (Kd.R_elder' (by (with_reducible repeat (first | apply Kd.R_alloc | apply Kd.R_drewN | apply Kd.R_drew)); exact HO448.out) (Kd.R_base ho0) hb); replace HO452 := Aside0.mk (Kd.R_elder' (by (with_reducible repeat (first | apply Kd.R_alloc | apply Kd.R_drewN | apply Kd.R_drew)); exact HO452.out) (Kd.R_base ho0) hb); replace HO455 := Aside0.mk (Kd.R_elder' (by (with_reducible repeat (first | apply Kd.R_alloc | apply Kd.R_drewN | apply Kd.R_drew)); exact HO455.out) (Kd.R_base ho0) hb); replace BK431 := zkb BK431 hb; replace HB := zkB HB hb; (try clear hb); (try clear ho0); obtain ⟨Ao59, co59, eo59⟩ := Kd.R_slice HO458.out; subst eo59) | ((with_reducible refine gate_callee (f := 92) rfl ?_); refine goesL_ (some 64) rfl rfl Try.func92 (by kernel_rfl) rfl #[.slice Ao59 t456.length co59, .slice Ao55 t441.length co55] rfl (by (try simp only [List.map_toArray, List.map_cons, List.map_nil]); first | done | rfl | (simp only [List.length_drop, List.length_take]; rfl)) ?_; (with_reducible refine (flyballref01_Add.calls kj6 _ _ t456 _ _ t441 t459 _ ?side1 ?side2 ?side3 ?side4 A36.out).mono ?_); (case side1 => repeat (first | exact (Kd.R_reads' HO458.out).2.2 | (with_reducible refine Kd.C_alloc ?_ _) | (with_reducible refine Kd.C_drewN ?_ _) | (with_reducible refine Kd.C_drew ?_))); (case side2 => exact (Kd.R_reads' HO458.out).2.1); (case side3 => repeat (first | exact (Kd.R_reads' HO_11.out).2.2 | (with_reducible refine Kd.C_alloc ?_ _) | (with_reducible refine Kd.C_drewN ?_ _) | (with_reducible refine Kd.C_drew ?_))); (case side4 => exact (Kd.R_reads' HO_11.out).2.1); rintro e w60 ⟨v460, rfl, ho0, hb⟩; refine ⟨_, rfl, ?_⟩; have HO461 := Aside0.mk (Kd.R_lower (Kd.R_new' (Kd.R_new' (Kd.R_new' (Kd.R_new' (Kd.R_new' ho0 (Kd.R_lt (by (with_reducible repeat (first | apply Kd.R_alloc | apply Kd.R_drewN | apply Kd.R_drew)); exact HO_11.out))) (Kd.R_lt (by (with_reducible repeat (first | apply Kd.R_alloc | apply Kd.R_drewN | apply Kd.R_drew)); exact HO448.out))) (Kd.R_lt (by (with_reducible repeat (first | apply Kd.R_alloc | apply Kd.R_drewN | apply Kd.R_drew)); exact HO452.out))) (Kd.R_lt (by (with_reducible repeat (first | apply Kd.R_alloc | apply Kd.R_drewN | apply Kd.R_drew)); exact HO455.out))) (Kd.R_lt (by (with_reducible repeat (first | apply Kd.R_alloc | apply Kd.R_drewN | apply Kd.R_drew)); exact HO458.out))) (below_size zaB)); replace HO_11 := Aside0.mk (Kd.R_elder' (by (with_reducible repeat (first | apply Kd.R_alloc | apply Kd.R_drewN | apply Kd.R_drew)); exact HO_11.out) (Kd.R_base ho0) hb); replace HO448 := Aside0.mk (Kd.R_elder' (by (with_reducible repeat (first | apply Kd.R_alloc | apply Kd.R_drewN | apply Kd.R_drew)); exact HO448.out) (Kd.R_base ho0) hb); replace HO452 := Aside0.mk (Kd.R_elder' (by (with_reducible repeat (first | apply Kd.R_alloc | apply Kd.R_drewN | apply Kd.R_drew)); exact HO452.out) (Kd.R_base ho0) hb); replace HO455 := Aside0.mk (Kd.R_elder' (by (with_reducible repeat (first | apply Kd.R_alloc | apply Kd.R_drewN | apply Kd.R_drew)); exact HO455.out) (Kd.R_base ho0) hb); replace HO458 := Aside0.mk (Kd.R_elder' (by (with_reducible repeat (first | apply Kd.R_alloc | apply Kd.R_drewN | apply Kd.R_drew)); exact HO458.out) (Kd.R_base ho0) hb); replace BK431 := zkb BK431 hb; replace HB := zkB HB hb; (try clear hb); (try clear ho0); have hcz61_0 := zc0 BK431; have hcz61_1 := zc1 BK431; have hcz61_2 := zc2 BK431; have hcz61_3 := zc3 BK431; have hfz61_0 := blk_frozen BK431.out 0; have hfz61_1 := blk_frozen BK431.out 1; have hfz61_2 := blk_frozen BK431.out 2; have hfz61_3 := blk_frozen BK431.out 3; obtain ⟨Ao62, co62, eo62⟩ := Kd.R_slice HO461.out; subst eo62) | ((with_reducible refine gate_callee (f := 189) rfl ?_); refine goesL_ (some 69) rfl rfl Try.func189 (by kernel_rfl) rfl #[.agg #[.slice A0_0 l0_0.length c0_0, .slice A0_1 l0_1.length c0_1, .int .i64 a0_2, .bool a0_3], .slice Ao62 t459.length co62, .int .i64 (wrap64 (t450 - 1))] rfl (by (try simp only [List.map_toArray, List.map_cons, List.map_nil]); first | done | rfl | (simp only [List.length_drop, List.length_take]; rfl)) ?_; (with_reducible refine (flyballref05_cmp.calls kj6 _ _ l0_0 _ _ l0_1 a0_2 a0_3 _ _ t459 (wrap64 (t450 - 1)) t462 _ ?side1 ?side2 ?side3 ?side4 ?side5 ?side6 A37.out).mono ?_); (case side1 => repeat (first | exact (Kd.C_below HR0_0.out HB.out) | (with_reducible refine Kd.C_alloc ?_ _) | (with_reducible refine Kd.C_drewN ?_ _) | (with_reducible refine Kd.C_drew ?_))); (case side2 => exact HC0_0.out); (case side3 => repeat (first | exact (Kd.C_below HR0_1.out HB.out) | (with_reducible refine Kd.C_alloc ?_ _) | (with_reducible refine Kd.C_drewN ?_ _) | (with_reducible refine Kd.C_drew ?_))); (case side4 => exact HC0_1.out); (case side5 => repeat (first | exact (Kd.R_reads' HO461.out).2.2 | (with_reducible refine Kd.C_alloc ?_ _) | (with_reducible refine Kd.C_drewN ?_ _) | (with_reducible refine Kd.C_drew ?_))); (case side6 => exact (Kd.R_reads' HO461.out).2.1); rintro e w63 ⟨rfl, hb⟩; refine ⟨_, rfl, ?_⟩; replace HO_11 := Aside0.mk (Kd.R_below (by (with_reducible repeat (first | apply Kd.R_alloc | apply Kd.R_drewN | apply Kd.R_drew)); exact HO_11.out) hb); replace HO448 := Aside0.mk (Kd.R_below (by (with_reducible repeat (first | apply Kd.R_alloc | apply Kd.R_drewN | apply Kd.R_drew)); exact HO448.out) hb); replace HO452 := Aside0.mk (Kd.R_below (by (with_reducible repeat (first | apply Kd.R_alloc | apply Kd.R_drewN | apply Kd.R_drew)); exact HO452.out) hb); replace HO455 := Aside0.mk (Kd.R_below (by (with_reducible repeat (first | apply Kd.R_alloc | apply Kd.R_drewN | apply Kd.R_drew)); exact HO455.out) hb); replace HO458 := Aside0.mk (Kd.R_below (by (with_reducible repeat (first | apply Kd.R_alloc | apply Kd.R_drewN | apply Kd.R_drew)); exact HO458.out) hb); replace HO461 := Aside0.mk (Kd.R_below (by (with_reducible repeat (first | apply Kd.R_alloc | apply Kd.R_drewN | apply Kd.R_drew)); exact HO461.out) hb); replace BK431 := zkb BK431 hb; replace HB := zkB HB hb; (try clear hb)))
         go_meet
         case rel => exact ⟨_, (((Int.tmod t432 2) == 1)), (by first | rfl | (simp; done) | (simp [*]; done)), H', ⟨by have := HJ6.out; first | omega | exact Nat.le_refl _⟩, ⟨(zkq BK431)⟩, ⟨zaB⟩⟩
        ·rw [if_neg c51] at H
         have c51b0 : (t462 == 0) = false := beq_eq_false_iff_ne.mpr c51
         have c51b1 : (t462 != 0) = true := bne_iff_ne.mpr c51
         have H' := Aside0.mk H
         clear H
         go_wp2_with (first | ((with_reducible refine gate_callee (f := 188) rfl ?_); refine goesL_ (some 49) rfl rfl Try.func188 (by kernel_rfl) rfl #[.int .i64 t432] rfl (by (try simp only [List.map_toArray, List.map_cons, List.map_nil]); first | done | rfl | (simp only [List.length_drop, List.length_take]; rfl)) ?_; (with_reducible refine (flyballref05_split.calls kj6 t432 t445 t446 _ A31.out).mono ?_); rintro e w64 ⟨v447, rfl, ho0, hb⟩; refine ⟨_, rfl, ?_⟩; have HO448 := Aside0.mk (Kd.R_lower (Kd.R_new' ho0 (Kd.R_lt (by (with_reducible repeat (first | apply Kd.R_alloc | apply Kd.R_drewN | apply Kd.R_drew)); exact HO_11.out))) (below_size zaB)); replace HO_11 := Aside0.mk (Kd.R_elder' (by (with_reducible repeat (first | apply Kd.R_alloc | apply Kd.R_drewN | apply Kd.R_drew)); exact HO_11.out) (Kd.R_base ho0) hb); replace BK431 := zkb BK431 hb; replace HB := zkB HB hb; (try clear hb); (try clear ho0)) | ((with_reducible refine gate_callee (f := 188) rfl ?_); refine goesL_ (some 55) rfl rfl Try.func188 (by kernel_rfl) rfl #[.int .i64 9218868437227405311] rfl (by (try simp only [List.map_toArray, List.map_cons, List.map_nil]); first | done | rfl | (simp only [List.length_drop, List.length_take]; rfl)) ?_; (with_reducible refine (flyballref05_split.calls kj6 9218868437227405311 t449 t450 _ A33.out).mono ?_); rintro e w65 ⟨v451, rfl, ho0, hb⟩; refine ⟨_, rfl, ?_⟩; have HO452 := Aside0.mk (Kd.R_lower (Kd.R_new' (Kd.R_new' ho0 (Kd.R_lt (by (with_reducible repeat (first | apply Kd.R_alloc | apply Kd.R_drewN | apply Kd.R_drew)); exact HO_11.out))) (Kd.R_lt (by (with_reducible repeat (first | apply Kd.R_alloc | apply Kd.R_drewN | apply Kd.R_drew)); exact HO448.out))) (below_size zaB)); replace HO_11 := Aside0.mk (Kd.R_elder' (by (with_reducible repeat (first | apply Kd.R_alloc | apply Kd.R_drewN | apply Kd.R_drew)); exact HO_11.out) (Kd.R_base ho0) hb); replace HO448 := Aside0.mk (Kd.R_elder' (by (with_reducible repeat (first | apply Kd.R_alloc | apply Kd.R_drewN | apply Kd.R_drew)); exact HO448.out) (Kd.R_base ho0) hb); replace BK431 := zkb BK431 hb; replace HB := zkB HB hb; (try clear hb); (try clear ho0); obtain ⟨Ao66, co66, eo66⟩ := Kd.R_slice HO452.out; subst eo66; obtain ⟨Ao67, co67, eo67⟩ := Kd.R_slice HO_11.out; subst eo67) | ((with_reducible refine gate_callee (f := 92) rfl ?_); refine goesL_ (some 60) rfl rfl Try.func92 (by kernel_rfl) rfl #[.slice Ao66 t449.length co66, .slice Ao67 t441.length co67] rfl (by (try simp only [List.map_toArray, List.map_cons, List.map_nil]); first | done | rfl | (simp only [List.length_drop, List.length_take]; rfl)) ?_; (with_reducible refine (flyballref01_Add.calls kj6 _ _ t449 _ _ t441 t453 _ ?side1 ?side2 ?side3 ?side4 A34.out).mono ?_); (case side1 => repeat (first | exact (Kd.R_reads' HO452.out).2.2 | (with_reducible refine Kd.C_alloc ?_ _) | (with_reducible refine Kd.C_drewN ?_ _) | (with_reducible refine Kd.C_drew ?_))); (case side2 => exact (Kd.R_reads' HO452.out).2.1); (case side3 => repeat (first | exact (Kd.R_reads' HO_11.out).2.2 | (with_reducible refine Kd.C_alloc ?_ _) | (with_reducible refine Kd.C_drewN ?_ _) | (with_reducible refine Kd.C_drew ?_))); (case side4 => exact (Kd.R_reads' HO_11.out).2.1); rintro e w68 ⟨v454, rfl, ho0, hb⟩; refine ⟨_, rfl, ?_⟩; have HO455 := Aside0.mk (Kd.R_lower (Kd.R_new' (Kd.R_new' (Kd.R_new' ho0 (Kd.R_lt (by (with_reducible repeat (first | apply Kd.R_alloc | apply Kd.R_drewN | apply Kd.R_drew)); exact HO_11.out))) (Kd.R_lt (by (with_reducible repeat (first | apply Kd.R_alloc | apply Kd.R_drewN | apply Kd.R_drew)); exact HO448.out))) (Kd.R_lt (by (with_reducible repeat (first | apply Kd.R_alloc | apply Kd.R_drewN | apply Kd.R_drew)); exact HO452.out))) (below_size zaB)); replace HO_11 := Aside0.mk (Kd.R_elder' (by (with_reducible repeat (first | apply Kd.R_alloc | apply Kd.R_drewN | apply Kd.R_drew)); exact HO_11.out) (Kd.R_base ho0) hb); replace HO448 := Aside0.mk (Kd.R_elder' (by (with_reducible repeat (first | apply Kd.R_alloc | apply Kd.R_drewN | apply Kd.R_drew)); exact HO448.out) (Kd.R_base ho0) hb); replace HO452 := Aside0.mk (Kd.R_elder' (by (with_reducible repeat (first | apply Kd.R_alloc | apply Kd.R_drewN | apply Kd.R_drew)); exact HO452.out) (Kd.R_base ho0) hb); replace BK431 := zkb BK431 hb; replace HB := zkB HB hb; (try clear hb); (try clear ho0); obtain ⟨Ao69, co69, eo69⟩ := Kd.R_slice HO455.out; subst eo69) | ((with_reducible refine gate_callee (f := 90) rfl ?_); refine goesL_ (some 62) rfl rfl Try.func90 (by kernel_rfl) rfl #[.slice Ao69 t453.length co69, .int .i64 1] rfl (by (try simp only [List.map_toArray, List.map_cons, List.map_nil]); first | done | rfl | (simp only [List.length_drop, List.length_take]; rfl)) ?_; (with_reducible refine (flyballref01_Shl.calls kj6 _ _ t453 1 t456 _ ?side1 ?side2 A35.out).mono ?_); (case side1 => repeat (first | exact (Kd.R_reads' HO455.out).2.2 | (with_reducible refine Kd.C_alloc ?_ _) | (with_reducible refine Kd.C_drewN ?_ _) | (with_reducible refine Kd.C_drew ?_))); (case side2 => exact (Kd.R_reads' HO455.out).2.1); rintro e w70 ⟨v457, rfl, ho0, hb⟩; refine ⟨_, rfl, ?_⟩; have HO458 := Aside0.mk (Kd.R_lower (Kd.R_new' (Kd.R_new' (Kd.R_new' (Kd.R_new' ho0 (Kd.R_lt (by (with_reducible repeat (first | apply Kd.R_alloc | apply Kd.R_drewN | apply Kd.R_drew)); exact HO_11.out))) (Kd.R_lt (by (with_reducible repeat (first | apply Kd.R_alloc | apply Kd.R_drewN | apply Kd.R_drew)); exact HO448.out))) (Kd.R_lt (by (with_reducible repeat (first | apply Kd.R_alloc | apply Kd.R_drewN | apply Kd.R_drew)); exact HO452.out))) (Kd.R_lt (by (with_reducible repeat (first | apply Kd.R_alloc | apply Kd.R_drewN | apply Kd.R_drew)); exact HO455.out))) (below_size zaB)); replace HO_11 := Aside0.mk (Kd.R_elder' (by (with_reducible repeat (first | apply Kd.R_alloc | apply Kd.R_drewN | apply Kd.R_drew)); exact HO_11.out) (Kd.R_base ho0) hb); replace HO448 := Aside0.mk (Kd.R_elder' (by (with_reducible repeat (first | apply Kd.R_alloc | apply Kd.R_drewN | apply Kd.R_drew)); exact HO448.out) (Kd.R_base ho0) hb); replace HO452 := Aside0.mk (Kd.R_elder' (by (with_reducible repeat (first | apply Kd.R_alloc | apply Kd.R_drewN | apply Kd.R_drew)); exact HO452.out) (Kd.R_base ho0) hb); replace HO455 := Aside0.mk (Kd.R_elder' (by (with_reducible repeat (first | apply Kd.R_alloc | apply Kd.R_drewN | apply Kd.R_drew)); exact HO455.out) (Kd.R_base ho0) hb); replace BK431 := zkb BK431 hb; replace HB := zkB HB hb; (try clear hb); (try clear ho0); obtain ⟨Ao71, co71, eo71⟩ := Kd.R_slice HO458.out; subst eo71) | ((with_reducible refine gate_callee (f := 92) rfl ?_); refine goesL_ (some 64) rfl rfl Try.func92 (by kernel_rfl) rfl #[.slice Ao71 t456.length co71, .slice Ao67 t441.length co67] rfl (by (try simp only [List.map_toArray, List.map_cons, List.map_nil]); first | done | rfl | (simp only [List.length_drop, List.length_take]; rfl)) ?_; (with_reducible refine (flyballref01_Add.calls kj6 _ _ t456 _ _ t441 t459 _ ?side1 ?side2 ?side3 ?side4 A36.out).mono ?_); (case side1 => repeat (first | exact (Kd.R_reads' HO458.out).2.2 | (with_reducible refine Kd.C_alloc ?_ _) | (with_reducible refine Kd.C_drewN ?_ _) | (with_reducible refine Kd.C_drew ?_))); (case side2 => exact (Kd.R_reads' HO458.out).2.1); (case side3 => repeat (first | exact (Kd.R_reads' HO_11.out).2.2 | (with_reducible refine Kd.C_alloc ?_ _) | (with_reducible refine Kd.C_drewN ?_ _) | (with_reducible refine Kd.C_drew ?_))); (case side4 => exact (Kd.R_reads' HO_11.out).2.1); rintro e w72 ⟨v460, rfl, ho0, hb⟩; refine ⟨_, rfl, ?_⟩; have HO461 := Aside0.mk (Kd.R_lower (Kd.R_new' (Kd.R_new' (Kd.R_new' (Kd.R_new' (Kd.R_new' ho0 (Kd.R_lt (by (with_reducible repeat (first | apply Kd.R_alloc | apply Kd.R_drewN | apply Kd.R_drew)); exact HO_11.out))) (Kd.R_lt (by (with_reducible repeat (first | apply Kd.R_alloc | apply Kd.R_drewN | apply Kd.R_drew)); exact HO448.out))) (Kd.R_lt (by (with_reducible repeat (first | apply Kd.R_alloc | apply Kd.R_drewN | apply Kd.R_drew)); exact HO452.out))) (Kd.R_lt (by (with_reducible repeat (first | apply Kd.R_alloc | apply Kd.R_drewN | apply Kd.R_drew)); exact HO455.out))) (Kd.R_lt (by (with_reducible repeat (first | apply Kd.R_alloc | apply Kd.R_drewN | apply Kd.R_drew)); exact HO458.out))) (below_size zaB)); replace HO_11 := Aside0.mk (Kd.R_elder' (by (with_reducible repeat (first | apply Kd.R_alloc | apply Kd.R_drewN | apply Kd.R_drew)); exact HO_11.out) (Kd.R_base ho0) hb); replace HO448 := Aside0.mk (Kd.R_elder' (by (with_reducible repeat (first | apply Kd.R_alloc | apply Kd.R_drewN | apply Kd.R_drew)); exact HO448.out) (Kd.R_base ho0) hb); replace HO452 := Aside0.mk (Kd.R_elder' (by (with_reducible repeat (first | apply Kd.R_alloc | apply Kd.R_drewN | apply Kd.R_drew)); exact HO452.out) (Kd.R_base ho0) hb); replace HO455 := Aside0.mk (Kd.R_elder' (by (with_reducible repeat (first | apply Kd.R_alloc | apply Kd.R_drewN | apply Kd.R_drew)); exact HO455.out) (Kd.R_base ho0) hb); replace HO458 := Aside0.mk (Kd.R_elder' (by (with_reducible repeat (first | apply Kd.R_alloc | apply Kd.R_drewN | apply Kd.R_drew)); exact HO458.out) (Kd.R_base ho0) hb); replace BK431 := zkb BK431 hb; replace HB := zkB HB hb; (try clear hb); (try clear ho0); have hcz73_0 := zc0 BK431; have hcz73_1 := zc1 BK431; have hcz73_2 := zc2 BK431; have hcz73_3 := zc3 BK431; have hfz73_0 := blk_frozen BK431.out 0; have hfz73_1 := blk_frozen BK431.out 1; have hfz73_2 := blk_frozen BK431.out 2; have hfz73_3 := blk_frozen BK431.out 3; obtain ⟨Ao74, co74, eo74⟩ := Kd.R_slice HO461.out; subst eo74) | ((with_reducible refine gate_callee (f := 189) rfl ?_); refine goesL_ (some 69) rfl rfl Try.func189 (by kernel_rfl) rfl #[.agg #[.slice A0_0 l0_0.length c0_0, .slice A0_1 l0_1.length c0_1, .int .i64 a0_2, .bool a0_3], .slice Ao74 t459.length co74, .int .i64 (wrap64 (t450 - 1))] rfl (by (try simp only [List.map_toArray, List.map_cons, List.map_nil]); first | done | rfl | (simp only [List.length_drop, List.length_take]; rfl)) ?_; (with_reducible refine (flyballref05_cmp.calls kj6 _ _ l0_0 _ _ l0_1 a0_2 a0_3 _ _ t459 (wrap64 (t450 - 1)) t462 _ ?side1 ?side2 ?side3 ?side4 ?side5 ?side6 A37.out).mono ?_); (case side1 => repeat (first | exact (Kd.C_below HR0_0.out HB.out) | (with_reducible refine Kd.C_alloc ?_ _) | (with_reducible refine Kd.C_drewN ?_ _) | (with_reducible refine Kd.C_drew ?_))); (case side2 => exact HC0_0.out); (case side3 => repeat (first | exact (Kd.C_below HR0_1.out HB.out) | (with_reducible refine Kd.C_alloc ?_ _) | (with_reducible refine Kd.C_drewN ?_ _) | (with_reducible refine Kd.C_drew ?_))); (case side4 => exact HC0_1.out); (case side5 => repeat (first | exact (Kd.R_reads' HO461.out).2.2 | (with_reducible refine Kd.C_alloc ?_ _) | (with_reducible refine Kd.C_drewN ?_ _) | (with_reducible refine Kd.C_drew ?_))); (case side6 => exact (Kd.R_reads' HO461.out).2.1); rintro e w75 ⟨rfl, hb⟩; refine ⟨_, rfl, ?_⟩; replace HO_11 := Aside0.mk (Kd.R_below (by (with_reducible repeat (first | apply Kd.R_alloc | apply Kd.R_drewN | apply Kd.R_drew)); exact HO_11.out) hb); replace HO448 := Aside0.mk (Kd.R_below (by (with_reducible repeat (first | apply Kd.R_alloc | apply Kd.R_drewN | apply Kd.R_drew)); exact HO448.out) hb); replace HO452 := Aside0.mk (Kd.R_below (by (with_reducible repeat (first | apply Kd.R_alloc | apply Kd.R_drewN | apply Kd.R_drew)); exact HO452.out) hb); replace HO455 := Aside0.mk (Kd.R_below (by (with_reducible repeat (first | apply Kd.R_alloc | apply Kd.R_drewN | apply Kd.R_drew)); exact HO455.out) hb); replace HO458 := Aside0.mk (Kd.R_below (by (with_reducible repeat (first | apply Kd.R_alloc | apply Kd.R_drewN | apply Kd.R_drew)); exact HO458.out) hb); replace HO461 := Aside0.mk (Kd.R_below (by (with_reducible repeat (first | apply Kd.R_alloc | apply Kd.R_drewN | apply Kd.R_drew)); exact HO461.out) hb); replace BK431 := zkb BK431 hb; replace HB := zkB HB hb; (try clear hb)))
         go_meet
         case rel => exact ⟨_, (false), (by first | rfl | (simp; done) | (simp [*]; done)), H', ⟨by have := HJ6.out; first | omega | exact Nat.le_refl _⟩, ⟨(zkq BK431)⟩, ⟨zaB⟩⟩
      ·rw [if_neg c32] at H
       have c32b0 : decide (9218868437227405311 < t432) = false := decide_eq_false c32
       clear c32
       obtain ⟨t463, A76, H⟩ := zbs H
       try dsimp only at H
       obtain ⟨t466, A77, H⟩ := zbs H
       try dsimp only at H
       obtain ⟨t469, A78, H⟩ := zbs H
       try dsimp only at H
       by_cases c79 : t469 > 0
       ·rw [if_pos c79] at H
        have c79b0 : decide (0 < t469) = true := decide_eq_true c79
        clear c79
        have H' := Aside0.mk H
        clear H
        go_wp2_with (first | ((with_reducible refine gate_callee (f := 188) rfl ?_); refine goesL_ (some 49) rfl rfl Try.func188 (by kernel_rfl) rfl #[.int .i64 t432] rfl (by (try simp only [List.map_toArray, List.map_cons, List.map_nil]); first | done | rfl | (simp only [List.length_drop, List.length_take]; rfl)) ?_; (with_reducible refine (flyballref05_split.calls kj6 t432 t445 t446 _ A31.out).mono ?_); rintro e w80 ⟨v447, rfl, ho0, hb⟩; refine ⟨_, rfl, ?_⟩; have HO448 := Aside0.mk (Kd.R_lower (Kd.R_new' ho0 (Kd.R_lt (by (with_reducible repeat (first | apply Kd.R_alloc | apply Kd.R_drewN | apply Kd.R_drew)); exact HO_11.out))) (below_size zaB)); replace HO_11 := Aside0.mk (Kd.R_elder' (by (with_reducible repeat (first | apply Kd.R_alloc | apply Kd.R_drewN | apply Kd.R_drew)); exact HO_11.out) (Kd.R_base ho0) hb); replace BK431 := zkb BK431 hb; replace HB := zkB HB hb; (try clear hb); (try clear ho0); obtain ⟨Ao81, co81, eo81⟩ := Kd.R_slice HO448.out; subst eo81) | ((with_reducible refine gate_callee (f := 90) rfl ?_); refine goesL_ (some 62) rfl rfl Try.func90 (by kernel_rfl) rfl #[.slice Ao81 t445.length co81, .int .i64 1] rfl (by (try simp only [List.map_toArray, List.map_cons, List.map_nil]); first | done | rfl | (simp only [List.length_drop, List.length_take]; rfl)) ?_; (with_reducible refine (flyballref01_Shl.calls kj6 _ _ t445 1 t463 _ ?side1 ?side2 A76.out).mono ?_); (case side1 => repeat (first | exact (Kd.R_reads' HO448.out).2.2 | (with_reducible refine Kd.C_alloc ?_ _) | (with_reducible refine Kd.C_drewN ?_ _) | (with_reducible refine Kd.C_drew ?_))); (case side2 => exact (Kd.R_reads' HO448.out).2.1); rintro e w82 ⟨v464, rfl, ho0, hb⟩; refine ⟨_, rfl, ?_⟩; have HO465 := Aside0.mk (Kd.R_lower (Kd.R_new' (Kd.R_new' ho0 (Kd.R_lt (by (with_reducible repeat (first | apply Kd.R_alloc | apply Kd.R_drewN | apply Kd.R_drew)); exact HO_11.out))) (Kd.R_lt (by (with_reducible repeat (first | apply Kd.R_alloc | apply Kd.R_drewN | apply Kd.R_drew)); exact HO448.out))) (below_size zaB)); replace HO_11 := Aside0.mk (Kd.R_elder' (by (with_reducible repeat (first | apply Kd.R_alloc | apply Kd.R_drewN | apply Kd.R_drew)); exact HO_11.out) (Kd.R_base ho0) hb); replace HO448 := Aside0.mk (Kd.R_elder' (by (with_reducible repeat (first | apply Kd.R_alloc | apply Kd.R_drewN | apply Kd.R_drew)); exact HO448.out) (Kd.R_base ho0) hb); replace BK431 := zkb BK431 hb; replace HB := zkB HB hb; (try clear hb); (try clear ho0); obtain ⟨Ao83, co83, eo83⟩ := Kd.R_slice HO465.out; subst eo83; obtain ⟨Ao84, co84, eo84⟩ := Kd.R_slice HO_11.out; subst eo84) | ((with_reducible refine gate_callee (f := 92) rfl ?_); refine goesL_ (some 64) rfl rfl Try.func92 (by kernel_rfl) rfl #[.slice Ao83 t463.length co83, .slice Ao84 t441.length co84] rfl (by (try simp only [List.map_toArray, List.map_cons, List.map_nil]); first | done | rfl | (simp only [List.length_drop, List.length_take]; rfl)) ?_; (with_reducible refine (flyballref01_Add.calls kj6 _ _ t463 _ _ t441 t466 _ ?side1 ?side2 ?side3 ?side4 A77.out).mono ?_); (case side1 => repeat (first | exact (Kd.R_reads' HO465.out).2.2 | (with_reducible refine Kd.C_alloc ?_ _) | (with_reducible refine Kd.C_drewN ?_ _) | (with_reducible refine Kd.C_drew ?_))); (case side2 => exact (Kd.R_reads' HO465.out).2.1); (case side3 => repeat (first | exact (Kd.R_reads' HO_11.out).2.2 | (with_reducible refine Kd.C_alloc ?_ _) | (with_reducible refine Kd.C_drewN ?_ _) | (with_reducible refine Kd.C_drew ?_))); (case side4 => exact (Kd.R_reads' HO_11.out).2.1); rintro e w85 ⟨v467, rfl, ho0, hb⟩; refine ⟨_, rfl, ?_⟩; have HO468 := Aside0.mk (Kd.R_lower (Kd.R_new' (Kd.R_new' (Kd.R_new' ho0 (Kd.R_lt (by (with_reducible repeat (first | apply Kd.R_alloc | apply Kd.R_drewN | apply Kd.R_drew)); exact HO_11.out))) (Kd.R_lt (by (with_reducible repeat (first | apply Kd.R_alloc | apply Kd.R_drewN | apply Kd.R_drew)); exact HO448.out))) (Kd.R_lt (by (with_reducible repeat (first | apply Kd.R_alloc | apply Kd.R_drewN | apply Kd.R_drew)); exact HO465.out))) (below_size zaB)); replace HO_11 := Aside0.mk (Kd.R_elder' (by (with_reducible repeat (first | apply Kd.R_alloc | apply Kd.R_drewN | apply Kd.R_drew)); exact HO_11.out) (Kd.R_base ho0) hb); replace HO448 := Aside0.mk (Kd.R_elder' (by (with_reducible repeat (first | apply Kd.R_alloc | apply Kd.R_drewN | apply Kd.R_drew)); exact HO448.out) (Kd.R_base ho0) hb); replace HO465 := Aside0.mk (Kd.R_elder' (by (with_reducible repeat (first | apply Kd.R_alloc | apply Kd.R_drewN | apply Kd.R_drew)); exact HO465.out) (Kd.R_base ho0) hb); replace BK431 := zkb BK431 hb; replace HB := zkB HB hb; (try clear hb); (try clear ho0); have hcz86_0 := zc0 BK431; have hcz86_1 := zc1 BK431; have hcz86_2 := zc2 BK431; have hcz86_3 := zc3 BK431; have hfz86_0 := blk_frozen BK431.out 0; have hfz86_1 := blk_frozen BK431.out 1; have hfz86_2 := blk_frozen BK431.out 2; have hfz86_3 := blk_frozen BK431.out 3; obtain ⟨Ao87, co87, eo87⟩ := Kd.R_slice HO468.out; subst eo87) | ((with_reducible refine gate_callee (f := 189) rfl ?_); refine goesL_ (some 69) rfl rfl Try.func189 (by kernel_rfl) rfl #[.agg #[.slice A0_0 l0_0.length c0_0, .slice A0_1 l0_1.length c0_1, .int .i64 a0_2, .bool a0_3], .slice Ao87 t466.length co87, .int .i64 (wrap64 (t446 - 1))] rfl (by (try simp only [List.map_toArray, List.map_cons, List.map_nil]); first | done | rfl | (simp only [List.length_drop, List.length_take]; rfl)) ?_; (with_reducible refine (flyballref05_cmp.calls kj6 _ _ l0_0 _ _ l0_1 a0_2 a0_3 _ _ t466 (wrap64 (t446 - 1)) t469 _ ?side1 ?side2 ?side3 ?side4 ?side5 ?side6 A78.out).mono ?_); (case side1 => repeat (first | exact (Kd.C_below HR0_0.out HB.out) | (with_reducible refine Kd.C_alloc ?_ _) | (with_reducible refine Kd.C_drewN ?_ _) | (with_reducible refine Kd.C_drew ?_))); (case side2 => exact HC0_0.out); (case side3 => repeat (first | exact (Kd.C_below HR0_1.out HB.out) | (with_reducible refine Kd.C_alloc ?_ _) | (with_reducible refine Kd.C_drewN ?_ _) | (with_reducible refine Kd.C_drew ?_))); (case side4 => exact HC0_1.out); (case side5 => repeat (first | exact (Kd.R_reads' HO468.out).2.2 | (with_reducible refine Kd.C_alloc ?_ _) | (with_reducible refine Kd.C_drewN ?_ _) | (with_reducible refine Kd.C_drew ?_))); (case side6 => exact (Kd.R_reads' HO468.out).2.1); rintro e w88 ⟨rfl, hb⟩; refine ⟨_, rfl, ?_⟩; replace HO_11 := Aside0.mk (Kd.R_below (by (with_reducible repeat (first | apply Kd.R_alloc | apply Kd.R_drewN | apply Kd.R_drew)); exact HO_11.out) hb); replace HO448 := Aside0.mk (Kd.R_below (by (with_reducible repeat (first | apply Kd.R_alloc | apply Kd.R_drewN | apply Kd.R_drew)); exact HO448.out) hb); replace HO465 := Aside0.mk (Kd.R_below (by (with_reducible repeat (first | apply Kd.R_alloc | apply Kd.R_drewN | apply Kd.R_drew)); exact HO465.out) hb); replace HO468 := Aside0.mk (Kd.R_below (by (with_reducible repeat (first | apply Kd.R_alloc | apply Kd.R_drewN | apply Kd.R_drew)); exact HO468.out) hb); replace BK431 := zkb BK431 hb; replace HB := zkB HB hb; (try clear hb)))
        go_meet
        case rel => exact ⟨_, (true), (by first | rfl | (simp; done) | (simp [*]; done)), H', ⟨by have := HJ6.out; first | omega | exact Nat.le_refl _⟩, ⟨(zkq BK431)⟩, ⟨zaB⟩⟩
       ·rw [if_neg c79] at H
        have c79b0 : decide (0 < t469) = false := decide_eq_false c79
        clear c79
        by_cases c89 : t469 = 0
        ·rw [if_pos c89] at H
         have c89b0 : (t469 == 0) = true := beq_iff_eq.mpr c89
         have c89b1 : (t469 != 0) = false := bne_eq_false_iff_eq.mpr c89
         clear c89
         have H' := Aside0.mk H
         clear H
         go_wp2_with (first | ((with_reducible refine gate_callee (f := 188) rfl ?_); refine goesL_ (some 49) rfl rfl Try.func188 (by kernel_rfl) rfl #[.int .i64 t432] rfl (by (try simp only [List.map_toArray, List.map_cons, List.map_nil]); first | done | rfl | (simp only [List.length_drop, List.length_take]; rfl)) ?_; (with_reducible refine (flyballref05_split.calls kj6 t432 t445 t446 _ A31.out).mono ?_); rintro e w90 ⟨v447, rfl, ho0, hb⟩; refine ⟨_, rfl, ?_⟩; have HO448 := Aside0.mk (Kd.R_lower (Kd.R_new' ho0 (Kd.R_lt (by (with_reducible repeat (first | apply Kd.R_alloc | apply Kd.R_drewN | apply Kd.R_drew)); exact HO_11.out))) (below_size zaB)); replace HO_11 := Aside0.mk (Kd.R_elder' (by (with_reducible repeat (first | apply Kd.R_alloc | apply Kd.R_drewN | apply Kd.R_drew)); exact HO_11.out) (Kd.R_base ho0) hb); replace BK431 := zkb BK431 hb; replace HB := zkB HB hb; (try clear hb); (try clear ho0); obtain ⟨Ao91, co91, eo91⟩ := Kd.R_slice HO448.out; subst eo91) | ((with_reducible refine gate_callee (f := 90) rfl ?_); refine goesL_ (some 62) rfl rfl Try.func90 (by kernel_rfl) rfl #[.slice Ao91 t445.length co91, .int .i64 1] rfl (by (try simp only [List.map_toArray, List.map_cons, List.map_nil]); first | done | rfl | (simp only [List.length_drop, List.length_take]; rfl)) ?_; (with_reducible refine (flyballref01_Shl.calls kj6 _ _ t445 1 t463 _ ?side1 ?side2 A76.out).mono ?_); (case side1 => repeat (first | exact (Kd.R_reads' HO448.out).2.2 | (with_reducible refine Kd.C_alloc ?_ _) | (with_reducible refine Kd.C_drewN ?_ _) | (with_reducible refine Kd.C_drew ?_))); (case side2 => exact (Kd.R_reads' HO448.out).2.1); rintro e w92 ⟨v464, rfl, ho0, hb⟩; refine ⟨_, rfl, ?_⟩; have HO465 := Aside0.mk (Kd.R_lower (Kd.R_new' (Kd.R_new' ho0 (Kd.R_lt (by (with_reducible repeat (first | apply Kd.R_alloc | apply Kd.R_drewN | apply Kd.R_drew)); exact HO_11.out))) (Kd.R_lt (by (with_reducible repeat (first | apply Kd.R_alloc | apply Kd.R_drewN | apply Kd.R_drew)); exact HO448.out))) (below_size zaB)); replace HO_11 := Aside0.mk (Kd.R_elder' (by (with_reducible repeat (first | apply Kd.R_alloc | apply Kd.R_drewN | apply Kd.R_drew)); exact HO_11.out) (Kd.R_base ho0) hb); replace HO448 := Aside0.mk (Kd.R_elder' (by (with_reducible repeat (first | apply Kd.R_alloc | apply Kd.R_drewN | apply Kd.R_drew)); exact HO448.out) (Kd.R_base ho0) hb); replace BK431 := zkb BK431 hb; replace HB := zkB HB hb; (try clear hb); (try clear ho0); obtain ⟨Ao93, co93, eo93⟩ := Kd.R_slice HO465.out; subst eo93; obtain ⟨Ao94, co94, eo94⟩ := Kd.R_slice HO_11.out; subst eo94) | ((with_reducible refine gate_callee (f := 92) rfl ?_); refine goesL_ (some 64) rfl rfl Try.func92 (by kernel_rfl) rfl #[.slice Ao93 t463.length co93, .slice Ao94 t441.length co94] rfl (by (try simp only [List.map_toArray, List.map_cons, List.map_nil]); first | done | rfl | (simp only [List.length_drop, List.length_take]; rfl)) ?_; (with_reducible refine (flyballref01_Add.calls kj6 _ _ t463 _ _ t441 t466 _ ?side1 ?side2 ?side3 ?side4 A77.out).mono ?_); (case side1 => repeat (first | exact (Kd.R_reads' HO465.out).2.2 | (with_reducible refine Kd.C_alloc ?_ _) | (with_reducible refine Kd.C_drewN ?_ _) | (with_reducible refine Kd.C_drew ?_))); (case side2 => exact (Kd.R_reads' HO465.out).2.1); (case side3 => repeat (first | exact (Kd.R_reads' HO_11.out).2.2 | (with_reducible refine Kd.C_alloc ?_ _) | (with_reducible refine Kd.C_drewN ?_ _) | (with_reducible refine Kd.C_drew ?_))); (case side4 => exact (Kd.R_reads' HO_11.out).2.1); rintro e w95 ⟨v467, rfl, ho0, hb⟩; refine ⟨_, rfl, ?_⟩; have HO468 := Aside0.mk (Kd.R_lower (Kd.R_new' (Kd.R_new' (Kd.R_new' ho0 (Kd.R_lt (by (with_reducible repeat (first | apply Kd.R_alloc | apply Kd.R_drewN | apply Kd.R_drew)); exact HO_11.out))) (Kd.R_lt (by (with_reducible repeat (first | apply Kd.R_alloc | apply Kd.R_drewN | apply Kd.R_drew)); exact HO448.out))) (Kd.R_lt (by (with_reducible repeat (first | apply Kd.R_alloc | apply Kd.R_drewN | apply Kd.R_drew)); exact HO465.out))) (below_size zaB)); replace HO_11 := Aside0.mk (Kd.R_elder' (by (with_reducible repeat (first | apply Kd.R_alloc | apply Kd.R_drewN | apply Kd.R_drew)); exact HO_11.out) (Kd.R_base ho0) hb); replace HO448 := Aside0.mk (Kd.R_elder' (by (with_reducible repeat (first | apply Kd.R_alloc | apply Kd.R_drewN | apply Kd.R_drew)); exact HO448.out) (Kd.R_base ho0) hb); replace HO465 := Aside0.mk (Kd.R_elder' (by (with_reducible repeat (first | apply Kd.R_alloc | apply Kd.R_drewN | apply Kd.R_drew)); exact HO465.out) (Kd.R_base ho0) hb); replace BK431 := zkb BK431 hb; replace HB := zkB HB hb; (try clear hb); (try clear ho0); have hcz96_0 := zc0 BK431; have hcz96_1 := zc1 BK431; have hcz96_2 := zc2 BK431; have hcz96_3 := zc3 BK431; have hfz96_0 := blk_frozen BK431.out 0; have hfz96_1 := blk_frozen BK431.out 1; have hfz96_2 := blk_frozen BK431.out 2; have hfz96_3 := blk_frozen BK431.out 3; obtain ⟨Ao97, co97, eo97⟩ := Kd.R_slice HO468.out; subst eo97) | ((with_reducible refine gate_callee (f := 189) rfl ?_); refine goesL_ (some 69) rfl rfl Try.func189 (by kernel_rfl) rfl #[.agg #[.slice A0_0 l0_0.length c0_0, .slice A0_1 l0_1.length c0_1, .int .i64 a0_2, .bool a0_3], .slice Ao97 t466.length co97, .int .i64 (wrap64 (t446 - 1))] rfl (by (try simp only [List.map_toArray, List.map_cons, List.map_nil]); first | done | rfl | (simp only [List.length_drop, List.length_take]; rfl)) ?_; (with_reducible refine (flyballref05_cmp.calls kj6 _ _ l0_0 _ _ l0_1 a0_2 a0_3 _ _ t466 (wrap64 (t446 - 1)) t469 _ ?side1 ?side2 ?side3 ?side4 ?side5 ?side6 A78.out).mono ?_); (case side1 => repeat (first | exact (Kd.C_below HR0_0.out HB.out) | (with_reducible refine Kd.C_alloc ?_ _) | (with_reducible refine Kd.C_drewN ?_ _) | (with_reducible refine Kd.C_drew ?_))); (case side2 => exact HC0_0.out); (case side3 => repeat (first | exact (Kd.C_below HR0_1.out HB.out) | (with_reducible refine Kd.C_alloc ?_ _) | (with_reducible refine Kd.C_drewN ?_ _) | (with_reducible refine Kd.C_drew ?_))); (case side4 => exact HC0_1.out); (case side5 => repeat (first | exact (Kd.R_reads' HO468.out).2.2 | (with_reducible refine Kd.C_alloc ?_ _) | (with_reducible refine Kd.C_drewN ?_ _) | (with_reducible refine Kd.C_drew ?_))); (case side6 => exact (Kd.R_reads' HO468.out).2.1); rintro e w98 ⟨rfl, hb⟩; refine ⟨_, rfl, ?_⟩; replace HO_11 := Aside0.mk (Kd.R_below (by (with_reducible repeat (first | apply Kd.R_alloc | apply Kd.R_drewN | apply Kd.R_drew)); exact HO_11.out) hb); replace HO448 := Aside0.mk (Kd.R_below (by (with_reducible repeat (first | apply Kd.R_alloc | apply Kd.R_drewN | apply Kd.R_drew)); exact HO448.out) hb); replace HO465 := Aside0.mk (Kd.R_below (by (with_reducible repeat (first | apply Kd.R_alloc | apply Kd.R_drewN | apply Kd.R_drew)); exact HO465.out) hb); replace HO468 := Aside0.mk (Kd.R_below (by (with_reducible repeat (first | apply Kd.R_alloc | apply Kd.R_drewN | apply Kd.R_drew)); exact HO468.out) hb); replace BK431 := zkb BK431 hb; replace HB := zkB HB hb; (try clear hb)))
         go_meet
         case rel => exact ⟨_, (((Int.tmod t432 2) == 1)), (by first | rfl | (simp; done) | (simp [*]; done)), H', ⟨by have := HJ6.out; first | omega | exact Nat.le_refl _⟩, ⟨(zkq BK431)⟩, ⟨zaB⟩⟩
        ·rw [if_neg c89] at H
         have c89b0 : (t469 == 0) = false := beq_eq_false_iff_ne.mpr c89
         have c89b1 : (t469 != 0) = true := bne_iff_ne.mpr c89
         have H' := Aside0.mk H
         clear H
         go_wp2_with (first | ((with_reducible refine gate_callee (f := 188) rfl ?_); refine goesL_ (some 49) rfl rfl Try.func188 (by kernel_rfl) rfl #[.int .i64 t432] rfl (by (try simp only [List.map_toArray, List.map_cons, List.map_nil]); first | done | rfl | (simp only [List.length_drop, List.length_take]; rfl)) ?_; (with_reducible refine (flyballref05_split.calls kj6 t432 t445 t446 _ A31.out).mono ?_); rintro e w99 ⟨v447, rfl, ho0, hb⟩; refine ⟨_, rfl, ?_⟩; have HO448 := Aside0.mk (Kd.R_lower (Kd.R_new' ho0 (Kd.R_lt (by (with_reducible repeat (first | apply Kd.R_alloc | apply Kd.R_drewN | apply Kd.R_drew)); exact HO_11.out))) (below_size zaB)); replace HO_11 := Aside0.mk (Kd.R_elder' (by (with_reducible repeat (first | apply Kd.R_alloc | apply Kd.R_drewN | apply Kd.R_drew)); exact HO_11.out) (Kd.R_base ho0) hb); replace BK431 := zkb BK431 hb; replace HB := zkB HB hb; (try clear hb); (try clear ho0); obtain ⟨Ao100, co100, eo100⟩ := Kd.R_slice HO448.out; subst eo100) | ((with_reducible refine gate_callee (f := 90) rfl ?_); refine goesL_ (some 62) rfl rfl Try.func90 (by kernel_rfl) rfl #[.slice Ao100 t445.length co100, .int .i64 1] rfl (by (try simp only [List.map_toArray, List.map_cons, List.map_nil]); first | done | rfl | (simp only [List.length_drop, List.length_take]; rfl)) ?_; (with_reducible refine (flyballref01_Shl.calls kj6 _ _ t445 1 t463 _ ?side1 ?side2 A76.out).mono ?_); (case side1 => repeat (first | exact (Kd.R_reads' HO448.out).2.2 | (with_reducible refine Kd.C_alloc ?_ _) | (with_reducible refine Kd.C_drewN ?_ _) | (with_reducible refine Kd.C_drew ?_))); (case side2 => exact (Kd.R_reads' HO448.out).2.1); rintro e w101 ⟨v464, rfl, ho0, hb⟩; refine ⟨_, rfl, ?_⟩; have HO465 := Aside0.mk (Kd.R_lower (Kd.R_new' (Kd.R_new' ho0 (Kd.R_lt (by (with_reducible repeat (first | apply Kd.R_alloc | apply Kd.R_drewN | apply Kd.R_drew)); exact HO_11.out))) (Kd.R_lt (by (with_reducible repeat (first | apply Kd.R_alloc | apply Kd.R_drewN | apply Kd.R_drew)); exact HO448.out))) (below_size zaB)); replace HO_11 := Aside0.mk (Kd.R_elder' (by (with_reducible repeat (first | apply Kd.R_alloc | apply Kd.R_drewN | apply Kd.R_drew)); exact HO_11.out) (Kd.R_base ho0) hb); replace HO448 := Aside0.mk (Kd.R_elder' (by (with_reducible repeat (first | apply Kd.R_alloc | apply Kd.R_drewN | apply Kd.R_drew)); exact HO448.out) (Kd.R_base ho0) hb); replace BK431 := zkb BK431 hb; replace HB := zkB HB hb; (try clear hb); (try clear ho0); obtain ⟨Ao102, co102, eo102⟩ := Kd.R_slice HO465.out; subst eo102; obtain ⟨Ao103, co103, eo103⟩ := Kd.R_slice HO_11.out; subst eo103) | ((with_reducible refine gate_callee (f := 92) rfl ?_); refine goesL_ (some 64) rfl rfl Try.func92 (by kernel_rfl) rfl #[.slice Ao102 t463.length co102, .slice Ao103 t441.length co103] rfl (by (try simp only [List.map_toArray, List.map_cons, List.map_nil]); first | done | rfl | (simp only [List.length_drop, List.length_take]; rfl)) ?_; (with_reducible refine (flyballref01_Add.calls kj6 _ _ t463 _ _ t441 t466 _ ?side1 ?side2 ?side3 ?side4 A77.out).mono ?_); (case side1 => repeat (first | exact (Kd.R_reads' HO465.out).2.2 | (with_reducible refine Kd.C_alloc ?_ _) | (with_reducible refine Kd.C_drewN ?_ _) | (with_reducible refine Kd.C_drew ?_))); (case side2 => exact (Kd.R_reads' HO465.out).2.1); (case side3 => repeat (first | exact (Kd.R_reads' HO_11.out).2.2 | (with_reducible refine Kd.C_alloc ?_ _) | (with_reducible refine Kd.C_drewN ?_ _) | (with_reducible refine Kd.C_drew ?_))); (case side4 => exact (Kd.R_reads' HO_11.out).2.1); rintro e w104 ⟨v467, rfl, ho0, hb⟩; refine ⟨_, rfl, ?_⟩; have HO468 := Aside0.mk (Kd.R_lower (Kd.R_new' (Kd.R_new' (Kd.R_new' ho0 (Kd.R_lt (by (with_reducible repeat (first | apply Kd.R_alloc | apply Kd.R_drewN | apply Kd.R_drew)); exact HO_11.out))) (Kd.R_lt (by (with_reducible repeat (first | apply Kd.R_alloc | apply Kd.R_drewN | apply Kd.R_drew)); exact HO448.out))) (Kd.R_lt (by (with_reducible repeat (first | apply Kd.R_alloc | apply Kd.R_drewN | apply Kd.R_drew)); exact HO465.out))) (below_size zaB)); replace HO_11 := Aside0.mk (Kd.R_elder' (by (with_reducible repeat (first | apply Kd.R_alloc | apply Kd.R_drewN | apply Kd.R_drew)); exact HO_11.out) (Kd.R_base ho0) hb); replace HO448 := Aside0.mk (Kd.R_elder' (by (with_reducible repeat (first | apply Kd.R_alloc | apply Kd.R_drewN | apply Kd.R_drew)); exact HO448.out) (Kd.R_base ho0) hb); replace HO465 := Aside0.mk (Kd.R_elder' (by (with_reducible repeat (first | apply Kd.R_alloc | apply Kd.R_drewN | apply Kd.R_drew)); exact HO465.out) (Kd.R_base ho0) hb); replace BK431 := zkb BK431 hb; replace HB := zkB HB hb; (try clear hb); (try clear ho0); have hcz105_0 := zc0 BK431; have hcz105_1 := zc1 BK431; have hcz105_2 := zc2 BK431; have hcz105_3 := zc3 BK431; have hfz105_0 := blk_frozen BK431.out 0; have hfz105_1 := blk_frozen BK431.out 1; have hfz105_2 := blk_frozen BK431.out 2; have hfz105_3 := blk_frozen BK431.out 3; obtain ⟨Ao106, co106, eo106⟩ := Kd.R_slice HO468.out; subst eo106) | ((with_reducible refine gate_callee (f := 189) rfl ?_); refine goesL_ (some 69) rfl rfl Try.func189 (by kernel_rfl) rfl #[.agg #[.slice A0_0 l0_0.length c0_0, .slice A0_1 l0_1.length c0_1, .int .i64 a0_2, .bool a0_3], .slice Ao106 t466.length co106, .int .i64 (wrap64 (t446 - 1))] rfl (by (try simp only [List.map_toArray, List.map_cons, List.map_nil]); first | done | rfl | (simp only [List.length_drop, List.length_take]; rfl)) ?_; (with_reducible refine (flyballref05_cmp.calls kj6 _ _ l0_0 _ _ l0_1 a0_2 a0_3 _ _ t466 (wrap64 (t446 - 1)) t469 _ ?side1 ?side2 ?side3 ?side4 ?side5 ?side6 A78.out).mono ?_); (case side1 => repeat (first | exact (Kd.C_below HR0_0.out HB.out) | (with_reducible refine Kd.C_alloc ?_ _) | (with_reducible refine Kd.C_drewN ?_ _) | (with_reducible refine Kd.C_drew ?_))); (case side2 => exact HC0_0.out); (case side3 => repeat (first | exact (Kd.C_below HR0_1.out HB.out) | (with_reducible refine Kd.C_alloc ?_ _) | (with_reducible refine Kd.C_drewN ?_ _) | (with_reducible refine Kd.C_drew ?_))); (case side4 => exact HC0_1.out); (case side5 => repeat (first | exact (Kd.R_reads' HO468.out).2.2 | (with_reducible refine Kd.C_alloc ?_ _) | (with_reducible refine Kd.C_drewN ?_ _) | (with_reducible refine Kd.C_drew ?_))); (case side6 => exact (Kd.R_reads' HO468.out).2.1); rintro e w107 ⟨rfl, hb⟩; refine ⟨_, rfl, ?_⟩; replace HO_11 := Aside0.mk (Kd.R_below (by (with_reducible repeat (first | apply Kd.R_alloc | apply Kd.R_drewN | apply Kd.R_drew)); exact HO_11.out) hb); replace HO448 := Aside0.mk (Kd.R_below (by (with_reducible repeat (first | apply Kd.R_alloc | apply Kd.R_drewN | apply Kd.R_drew)); exact HO448.out) hb); replace HO465 := Aside0.mk (Kd.R_below (by (with_reducible repeat (first | apply Kd.R_alloc | apply Kd.R_drewN | apply Kd.R_drew)); exact HO465.out) hb); replace HO468 := Aside0.mk (Kd.R_below (by (with_reducible repeat (first | apply Kd.R_alloc | apply Kd.R_drewN | apply Kd.R_drew)); exact HO468.out) hb); replace BK431 := zkb BK431 hb; replace HB := zkB HB hb; (try clear hb)))
         go_meet
         case rel => exact ⟨_, (false), (by first | rfl | (simp; done) | (simp [*]; done)), H', ⟨by have := HJ6.out; first | omega | exact Nat.le_refl _⟩, ⟨(zkq BK431)⟩, ⟨zaB⟩⟩
   case rest =>
    clear HC28
    try clear c1
    try clear c2
    try clear p2
    try clear c3
    try clear c5
    try clear p6
    try clear c7
    try clear c8
    try clear c9
    try clear c15
    try clear c16
    try clear c18
    try clear c19
    try clear c19b0
    try clear c19b1
    try clear c21
    try clear c21b0
    try clear c29
    try clear c29b0
    try clear c29b1
    try clear c30
    try clear c30b0
    try clear c30b1
    try clear c32
    try clear c32b0
    try clear c38
    try clear c38b0
    try clear c51
    try clear c51b0
    try clear c51b1
    try clear p64
    try clear c79
    try clear c79b0
    try clear c89
    try clear c89b0
    try clear c89b1
    try clear c90
    try clear c92
    try clear hcz105_0
    try clear hcz105_1
    try clear hcz105_2
    try clear hcz105_3
    try clear hcz12_0
    try clear hcz12_1
    try clear hcz12_2
    try clear hcz12_3
    try clear hcz22_0
    try clear hcz22_1
    try clear hcz22_2
    try clear hcz22_3
    try clear hcz25_0
    try clear hcz25_1
    try clear hcz25_2
    try clear hcz25_3
    try clear hcz48_0
    try clear hcz48_1
    try clear hcz48_2
    try clear hcz48_3
    try clear hcz61_0
    try clear hcz61_1
    try clear hcz61_2
    try clear hcz61_3
    try clear hcz73_0
    try clear hcz73_1
    try clear hcz73_2
    try clear hcz73_3
    try clear hcz86_0
    try clear hcz86_1
    try clear hcz86_2
    try clear hcz86_3
    try clear hcz96_0
    try clear hcz96_1
    try clear hcz96_2
    try clear hcz96_3
    try clear hcz9_0
    try clear hcz9_1
    try clear hcz9_2
    try clear hcz9_3
    try clear hfz105_0
    try clear hfz105_1
    try clear hfz105_2
    try clear hfz105_3
    try clear hfz12_0
    try clear hfz12_1
    try clear hfz12_2
    try clear hfz12_3
    try clear hfz22_0
    try clear hfz22_1
    try clear hfz22_2
    try clear hfz22_3
    try clear hfz25_0
    try clear hfz25_1
    try clear hfz25_2
    try clear hfz25_3
    try clear hfz48_0
    try clear hfz48_1
    try clear hfz48_2
    try clear hfz48_3
    try clear hfz61_0
    try clear hfz61_1
    try clear hfz61_2
    try clear hfz61_3
    try clear hfz73_0
    try clear hfz73_1
    try clear hfz73_2
    try clear hfz73_3
    try clear hfz86_0
    try clear hfz86_1
    try clear hfz86_2
    try clear hfz86_3
    try clear hfz96_0
    try clear hfz96_1
    try clear hfz96_2
    try clear hfz96_3
    try clear hfz9_0
    try clear hfz9_1
    try clear hfz9_2
    try clear hfz9_3
    try clear p2
    obtain ⟨kq, x12_27, rfl, HA, HJ27, BK431, HB⟩ := hcut
    cases kq with
    | zero => exact absurd HA.out (by simp [flyballref05_Magnitude.j1])
    | succ kj27 =>
     have H := HA.out
     clear HA
     simp only [flyballref05_Magnitude.j1] at H
     have HC108 := Aside0.mk H
     clear H
     go_upto_region 21 with (fail)
     go_cut [85] (fun v85 wc => ∃ (kq : Nat) (x85_107 : Bool), v85 = .bool x85_107 ∧ Aside0 (flyballref05_Magnitude.j2 kq a1 x6_6 t432 x85_107 = some (r1, r2)) ∧ Aside0 (kq ≤ kj27) ∧ Aside0 (wc.heap[gb431]? = some (.cells #[(.slice A0_0 l0_0.length c0_0), (.slice A0_1 l0_1.length c0_1), .int .i64 a0_2, .bool a0_3] 115 (0, 0))) ∧ Aside0 (Below w.heap.size w wc))
     case first =>
      have H := HC108.out
      clear HC108
      by_cases c109 : t432 ≤ 9218868437227405311
      ·rw [if_pos c109] at H
       have c109b0 : decide (t432 ≤ 9218868437227405311) = true := decide_eq_true c109
       clear c109
       (first | rw [c109b0] | (simp only [i64_w, i32_w]; rw [c109b0]) | skip)
       have H' := Aside0.mk H
       clear H
       go_wp2
       go_meet
       case rel => exact ⟨_, (x12_27), (by first | rfl | (simp; done) | (simp [*]; done)), H', ⟨by have := HJ6.out; have := HJ27.out; first | omega | exact Nat.le_refl _⟩, ⟨(zkq BK431)⟩, ⟨zaB⟩⟩
      ·rw [if_neg c109] at H
       have c109b0 : decide (t432 ≤ 9218868437227405311) = false := decide_eq_false c109
       clear c109
       (first | rw [c109b0] | (simp only [i64_w, i32_w]; rw [c109b0]) | skip)
       have H' := Aside0.mk H
       clear H
       go_wp2
       go_meet
       case rel => exact ⟨_, (false), (by first | rfl | (simp; done) | (simp [*]; done)), H', ⟨by have := HJ6.out; have := HJ27.out; first | omega | exact Nat.le_refl _⟩, ⟨(zkq BK431)⟩, ⟨zaB⟩⟩
     case rest =>
      clear HC108
      try clear c1
      try clear c2
      try clear p2
      try clear c3
      try clear c5
      try clear p6
      try clear c7
      try clear c8
      try clear c9
      try clear c10
      try clear c15
      try clear c16
      try clear c18
      try clear c19
      try clear c19b0
      try clear c19b1
      try clear c21
      try clear c21b0
      try clear c29
      try clear c29b0
      try clear c29b1
      try clear c30
      try clear c30b0
      try clear c30b1
      try clear c32
      try clear c32b0
      try clear c38
      try clear c38b0
      try clear c51
      try clear c51b0
      try clear c51b1
      try clear p64
      try clear c79
      try clear c79b0
      try clear c89
      try clear c89b0
      try clear c89b1
      try clear c90
      try clear c92
      try clear c109
      try clear c109b0
      try clear hcz105_0
      try clear hcz105_1
      try clear hcz105_2
      try clear hcz105_3
      try clear hcz12_0
      try clear hcz12_1
      try clear hcz12_2
      try clear hcz12_3
      try clear hcz22_0
      try clear hcz22_1
      try clear hcz22_2
      try clear hcz22_3
      try clear hcz25_0
      try clear hcz25_1
      try clear hcz25_2
      try clear hcz25_3
      try clear hcz48_0
      try clear hcz48_1
      try clear hcz48_2
      try clear hcz48_3
      try clear hcz61_0
      try clear hcz61_1
      try clear hcz61_2
      try clear hcz61_3
      try clear hcz73_0
      try clear hcz73_1
      try clear hcz73_2
      try clear hcz73_3
      try clear hcz86_0
      try clear hcz86_1
      try clear hcz86_2
      try clear hcz86_3
      try clear hcz96_0
      try clear hcz96_1
      try clear hcz96_2
      try clear hcz96_3
      try clear hcz9_0
      try clear hcz9_1
      try clear hcz9_2
      try clear hcz9_3
      try clear hfz105_0
      try clear hfz105_1
      try clear hfz105_2
      try clear hfz105_3
      try clear hfz12_0
      try clear hfz12_1
      try clear hfz12_2
      try clear hfz12_3
      try clear hfz22_0
      try clear hfz22_1
      try clear hfz22_2
      try clear hfz22_3
      try clear hfz25_0
      try clear hfz25_1
      try clear hfz25_2
      try clear hfz25_3
      try clear hfz48_0
      try clear hfz48_1
      try clear hfz48_2
      try clear hfz48_3
      try clear hfz61_0
      try clear hfz61_1
      try clear hfz61_2
      try clear hfz61_3
      try clear hfz73_0
      try clear hfz73_1
      try clear hfz73_2
      try clear hfz73_3
      try clear hfz86_0
      try clear hfz86_1
      try clear hfz86_2
      try clear hfz86_3
      try clear hfz96_0
      try clear hfz96_1
      try clear hfz96_2
      try clear hfz96_3
      try clear hfz9_0
      try clear hfz9_1
      try clear hfz9_2
      try clear hfz9_3
      try clear p2
      try clear p6
      try clear p64
      obtain ⟨kq, x85_107, rfl, HA, HJ107, BK431, HB⟩ := hcut
      cases kq with
      | zero => exact absurd HA.out (by simp [flyballref05_Magnitude.j2])
      | succ kj107 =>
       have H := HA.out
       clear HA
       simp only [flyballref05_Magnitude.j2] at H
       have HC110 := Aside0.mk H
       clear H
       go_upto_if 85 with (fail)
       go_cut [7] (fun v7 wc => ∃ (kq : Nat) (x7_109 : Int), v7 = .int .i64 x7_109 ∧ Aside0 (flyballref05_Magnitude.j3 kq a1 x6_6 x7_109 = some (r1, r2)) ∧ Aside0 (kq ≤ kj107) ∧ Aside0 (wc.heap[gb431]? = some (.cells #[(.slice A0_0 l0_0.length c0_0), (.slice A0_1 l0_1.length c0_1), .int .i64 a0_2, .bool a0_3] 115 (0, 0))) ∧ Aside0 (Below w.heap.size w wc))
       case first =>
        have H := HC110.out
        clear HC110
        by_cases c111 : x85_107 = true
        ·subst c111
         have H1 : (flyballref05_Magnitude.j3 kj107 a1 x6_6 (wrap64 (t432 + 1))) = some (r1, r2) := by rw [if_pos rfl] at H; exact H
         clear H
         have H := H1
         clear H1
         have H' := Aside0.mk H
         clear H
         go_wp2
         go_meet
         case rel => exact ⟨_, (wrap64 (t432 + 1)), (by first | rfl | (simp; done) | (simp [*]; done)), H', ⟨by have := HJ6.out; have := HJ27.out; have := HJ107.out; first | omega | exact Nat.le_refl _⟩, ⟨(zkq BK431)⟩, ⟨zaB⟩⟩
        ·replace c111 := Bool.eq_false_iff.mpr c111
         subst c111
         have H1 : (flyballref05_Magnitude.j3 kj107 a1 x6_6 t432) = some (r1, r2) := by rw [if_neg (show ¬ (false = true) by decide)] at H; exact H
         clear H
         have H := H1
         clear H1
         have H' := Aside0.mk H
         clear H
         go_wp2
         go_meet
         case rel => exact ⟨_, (t432), (by first | rfl | (simp; done) | (simp [*]; done)), H', ⟨by have := HJ6.out; have := HJ27.out; have := HJ107.out; first | omega | exact Nat.le_refl _⟩, ⟨(zkq BK431)⟩, ⟨zaB⟩⟩
       case rest =>
        clear HC110
        try clear c1
        try clear c2
        try clear p2
        try clear c3
        try clear c5
        try clear p6
        try clear c7
        try clear c8
        try clear c9
        try clear c10
        try clear c11
        try clear c15
        try clear c16
        try clear c18
        try clear c19
        try clear c19b0
        try clear c19b1
        try clear c21
        try clear c21b0
        try clear c29
        try clear c29b0
        try clear c29b1
        try clear c30
        try clear c30b0
        try clear c30b1
        try clear c32
        try clear c32b0
        try clear c38
        try clear c38b0
        try clear c51
        try clear c51b0
        try clear c51b1
        try clear p64
        try clear c79
        try clear c79b0
        try clear c89
        try clear c89b0
        try clear c89b1
        try clear c90
        try clear c92
        try clear c109
        try clear c109b0
        try clear c111
        try clear hcz105_0
        try clear hcz105_1
        try clear hcz105_2
        try clear hcz105_3
        try clear hcz12_0
        try clear hcz12_1
        try clear hcz12_2
        try clear hcz12_3
        try clear hcz22_0
        try clear hcz22_1
        try clear hcz22_2
        try clear hcz22_3
        try clear hcz25_0
        try clear hcz25_1
        try clear hcz25_2
        try clear hcz25_3
        try clear hcz48_0
        try clear hcz48_1
        try clear hcz48_2
        try clear hcz48_3
        try clear hcz61_0
        try clear hcz61_1
        try clear hcz61_2
        try clear hcz61_3
        try clear hcz73_0
        try clear hcz73_1
        try clear hcz73_2
        try clear hcz73_3
        try clear hcz86_0
        try clear hcz86_1
        try clear hcz86_2
        try clear hcz86_3
        try clear hcz96_0
        try clear hcz96_1
        try clear hcz96_2
        try clear hcz96_3
        try clear hcz9_0
        try clear hcz9_1
        try clear hcz9_2
        try clear hcz9_3
        try clear hfz105_0
        try clear hfz105_1
        try clear hfz105_2
        try clear hfz105_3
        try clear hfz12_0
        try clear hfz12_1
        try clear hfz12_2
        try clear hfz12_3
        try clear hfz22_0
        try clear hfz22_1
        try clear hfz22_2
        try clear hfz22_3
        try clear hfz25_0
        try clear hfz25_1
        try clear hfz25_2
        try clear hfz25_3
        try clear hfz48_0
        try clear hfz48_1
        try clear hfz48_2
        try clear hfz48_3
        try clear hfz61_0
        try clear hfz61_1
        try clear hfz61_2
        try clear hfz61_3
        try clear hfz73_0
        try clear hfz73_1
        try clear hfz73_2
        try clear hfz73_3
        try clear hfz86_0
        try clear hfz86_1
        try clear hfz86_2
        try clear hfz86_3
        try clear hfz96_0
        try clear hfz96_1
        try clear hfz96_2
        try clear hfz96_3
        try clear hfz9_0
        try clear hfz9_1
        try clear hfz9_2
        try clear hfz9_3
        try clear p2
        try clear p6
        try clear p64
        obtain ⟨kq, x7_109, rfl, HA, HJ109, BK431, HB⟩ := hcut
        cases kq with
        | zero => exact absurd HA.out (by simp [flyballref05_Magnitude.j3])
        | succ kj109 =>
         have H := HA.out
         clear HA
         simp only [flyballref05_Magnitude.j3] at H
         by_cases c112 : x7_109 > 9218868437227405311
         ·rw [if_pos c112] at H
          have c112b0 : decide (9218868437227405311 < x7_109) = true := decide_eq_true c112
          clear c112
          by_cases c113 : a1 = 2
          ·rw [if_pos c113] at H
           have c113b0 : (a1 == 2) = true := beq_iff_eq.mpr c113
           have c113b1 : (a1 != 2) = false := bne_eq_false_iff_eq.mpr c113
           clear c113
           simp only [Option.some.injEq, Prod.mk.injEq] at H
           obtain ⟨rfl, rfl⟩ := H
           go_wp2
           go_ret2
           exact ⟨zaE, zaB⟩
          ·rw [if_neg c113] at H
           have c113b0 : (a1 == 2) = false := beq_eq_false_iff_ne.mpr c113
           have c113b1 : (a1 != 2) = true := bne_iff_ne.mpr c113
           simp only [Option.some.injEq, Prod.mk.injEq] at H
           obtain ⟨rfl, rfl⟩ := H
           go_wp2
           go_ret2
           exact ⟨zaE, zaB⟩
         ·rw [if_neg c112] at H
          have c112b0 : decide (9218868437227405311 < x7_109) = false := decide_eq_false c112
          clear c112
          simp only [Option.some.injEq, Prod.mk.injEq] at H
          obtain ⟨rfl, rfl⟩ := H
          go_wp2
          go_ret2
          exact ⟨zaE, zaB⟩
end Go.Proofs.Ytmadjhmecfbcmaa.F
end
section
namespace Go.Proofs.Ytmadjhmecfbcmaa.F
open Go.RowKit Go.Proofs.YtmadjhmecfbcmaaW.PrintWords Go.Proofs.YtmadjhmecfbcmaaW.PrintLast Go.Proofs.YtmadjhmecfbcmaaW.PrintMore
attribute [local go_sem] max2_int min2_int max_two min_two max_three min_three max_four min_four
set_option linter.unusedVariables false
set_option linter.unusedSimpArgs false
set_option maxHeartbeats 8000000 in
set_option maxRecDepth 100000 in
theorem flyballref05_Signed.calls (k : Nat) (a0 : Bool) (A1_0 : Option Addr) (c1_0 : Nat) (l1_0 : List Bool) (A1_1 : Option Addr) (c1_1 : Nat) (l1_1 : List Bool) (a1_2 : Int) (a1_3 : Bool) (a2 : Int) (r1 : Int) (r2 : Int) (w : World) (hr1_0 : Kd.C Kd.bool w A1_0 l1_0.length l1_0) (hc1_0 : l1_0.length ≤ c1_0) (hr1_1 : Kd.C Kd.bool w A1_1 l1_1.length l1_1) (hc1_1 : l1_1.length ≤ c1_1) (h : flyballref05_Signed.f k a0 l1_0 l1_1 a1_2 a1_3 a2 = some (r1, r2)) :
  Calls Try.prog 105 #[.bool a0, .agg #[.slice A1_0 l1_0.length c1_0, .slice A1_1 l1_1.length c1_1, .int .i64 a1_2, .bool a1_3], .int .u8 a2] w fun e w' => e = .returned (.tuple #[.int .u64 r1, .int .u8 r2]) ∧ Below w.heap.size w w' := by
 have hu115 := Try.underlying115
 have HR1_0 := Aside0.mk hr1_0
 have HC1_0 := Aside0.mk hc1_0
 clear hr1_0 hc1_0
 have HR1_1 := Aside0.mk hr1_1
 have HC1_1 := Aside0.mk hc1_1
 clear hr1_1 hc1_1
 have HB := Aside0.mk (Below.refl w.heap.size w)
 have H : (if a0 = true then (flyballref05_Signed.j0 k a0 a2 a2 (a2 == 1) l1_0 l1_1 a1_2 a1_3) else (flyballref05_Signed.j0 k a0 a2 a2 false l1_0 l1_1 a1_2 a1_3)) = some (r1, r2) := h
 clear h
 have HC4 := Aside0.mk H
 clear H
 go_enter Try.func105, Try.ntmps105
 go_upto_region 2 with (first | ((with_reducible refine gate_dst (N := 4) rfl ?_); refine zbx 4 #[.slice A1_0 l1_0.length c1_0, .slice A1_1 l1_1.length c1_1, .int .i64 a1_2, .bool a1_3] 115 (h := ?_); intro gb470 hg w5 hbox hb; have GW470 := zkZ hg (zaB (p := Below w.heap.size w _)); have GE470 := GW470; replace HB := Aside0.mk (below_step zaB hb); have BK470 := Aside0.mk (hbox); clear hb hbox hg))
 (try simp only [Act.put, List.setIfInBounds_toArray, List.set_cons_zero, List.set_cons_succ])
 go_cut [16] (fun v16 wc => ∃ (kq : Nat) (x16_3 : Bool), v16 = .bool x16_3 ∧ Aside0 (flyballref05_Signed.j0 kq a0 a2 a2 x16_3 l1_0 l1_1 a1_2 a1_3 = some (r1, r2)) ∧ Aside0 (kq ≤ k) ∧ Aside0 (wc.heap[gb470]? = some (.cells #[(.slice A1_0 l1_0.length c1_0), (.slice A1_1 l1_1.length c1_1), .int .i64 a1_2, .bool a1_3] 115 (0, 0))) ∧ Aside0 (Below w.heap.size w wc))
 case first =>
  have H := HC4.out
  clear HC4
  by_cases c6 : a0 = true
  ·subst c6
   have H1 : (flyballref05_Signed.j0 k true a2 a2 (a2 == 1) l1_0 l1_1 a1_2 a1_3) = some (r1, r2) := by rw [if_pos rfl] at H; exact H
   clear H
   have H := H1
   clear H1
   have H' := Aside0.mk H
   clear H
   go_wp2
   go_meet
   case rel => exact ⟨_, ((a2 == 1)), (by first | rfl | (simp; done) | (simp [*]; done)), H', ⟨by first | omega | exact Nat.le_refl _⟩, ⟨(zkq BK470)⟩, ⟨zaB⟩⟩
  ·replace c6 := Bool.eq_false_iff.mpr c6
   subst c6
   have H1 : (flyballref05_Signed.j0 k false a2 a2 false l1_0 l1_1 a1_2 a1_3) = some (r1, r2) := by rw [if_neg (show ¬ (false = true) by decide)] at H; exact H
   clear H
   have H := H1
   clear H1
   have H' := Aside0.mk H
   clear H
   go_wp2
   go_meet
   case rel => exact ⟨_, (false), (by first | rfl | (simp; done) | (simp [*]; done)), H', ⟨by first | omega | exact Nat.le_refl _⟩, ⟨(zkq BK470)⟩, ⟨zaB⟩⟩
 case rest =>
  clear HC4
  try clear c1
  try clear p2
  try clear c6
  obtain ⟨kq, x16_3, rfl, HA, HJ3, BK470, HB⟩ := hcut
  cases kq with
  | zero => exact absurd HA.out (by simp [flyballref05_Signed.j0])
  | succ kj3 =>
   have H := HA.out
   clear HA
   simp only [flyballref05_Signed.j0] at H
   have HC7 := Aside0.mk H
   clear H
   go_upto_if 16 with (fail)
   go_cut [8] (fun v8 wc => ∃ (kq : Nat) (x8_6 : Int), v8 = .int .u8 x8_6 ∧ Aside0 (flyballref05_Signed.j1 kq a0 x8_6 l1_0 l1_1 a1_2 a1_3 = some (r1, r2)) ∧ Aside0 (kq ≤ kj3) ∧ Aside0 (wc.heap[gb470]? = some (.cells #[(.slice A1_0 l1_0.length c1_0), (.slice A1_1 l1_1.length c1_1), .int .i64 a1_2, .bool a1_3] 115 (0, 0))) ∧ Aside0 (Below w.heap.size w wc))
   case first =>
    have H := HC7.out
    clear HC7
    by_cases c8 : x16_3 = true
    ·subst c8
     have H1 : (flyballref05_Signed.j1 kj3 a0 2 l1_0 l1_1 a1_2 a1_3) = some (r1, r2) := by rw [if_pos rfl] at H; exact H
     clear H
     have H := H1
     clear H1
     have H' := Aside0.mk H
     clear H
     go_wp2
     go_meet
     case rel => exact ⟨_, (2), (by first | rfl | (simp; done) | (simp [*]; done)), H', ⟨by have := HJ3.out; first | omega | exact Nat.le_refl _⟩, ⟨(zkq BK470)⟩, ⟨zaB⟩⟩
    ·replace c8 := Bool.eq_false_iff.mpr c8
     subst c8
     have H1 : (if a0 = true then (if a2 = 2 then (flyballref05_Signed.j1 kj3 a0 1 l1_0 l1_1 a1_2 a1_3) else (flyballref05_Signed.j1 kj3 a0 a2 l1_0 l1_1 a1_2 a1_3)) else (flyballref05_Signed.j1 kj3 a0 a2 l1_0 l1_1 a1_2 a1_3)) = some (r1, r2) := by rw [if_neg (show ¬ (false = true) by decide)] at H; exact H
     clear H
     have H := H1
     clear H1
     by_cases c9 : a0 = true
     ·subst c9
      have H1 : (if a2 = 2 then (flyballref05_Signed.j1 kj3 true 1 l1_0 l1_1 a1_2 a1_3) else (flyballref05_Signed.j1 kj3 true a2 l1_0 l1_1 a1_2 a1_3)) = some (r1, r2) := by rw [if_pos rfl] at H; exact H
      clear H
      have H := H1
      clear H1
      by_cases c10 : a2 = 2
      ·rw [if_pos c10] at H
       have c10b0 : (a2 == 2) = true := beq_iff_eq.mpr c10
       have c10b1 : (a2 != 2) = false := bne_eq_false_iff_eq.mpr c10
       clear c10
       (first | rw [c10b0] | (simp only [i64_w, i32_w]; rw [c10b0]) | skip)
       have H' := Aside0.mk H
       clear H
       go_wp2
       go_meet
       case rel => exact ⟨_, (1), (by first | rfl | (simp; done) | (simp [*]; done)), H', ⟨by have := HJ3.out; first | omega | exact Nat.le_refl _⟩, ⟨(zkq BK470)⟩, ⟨zaB⟩⟩
      ·rw [if_neg c10] at H
       have c10b0 : (a2 == 2) = false := beq_eq_false_iff_ne.mpr c10
       have c10b1 : (a2 != 2) = true := bne_iff_ne.mpr c10
       (first | rw [c10b0] | (simp only [i64_w, i32_w]; rw [c10b0]) | skip)
       have H' := Aside0.mk H
       clear H
       go_wp2
       go_meet
       case rel => exact ⟨_, (a2), (by first | rfl | (simp; done) | (simp [*]; done)), H', ⟨by have := HJ3.out; first | omega | exact Nat.le_refl _⟩, ⟨(zkq BK470)⟩, ⟨zaB⟩⟩
     ·replace c9 := Bool.eq_false_iff.mpr c9
      subst c9
      have H1 : (flyballref05_Signed.j1 kj3 false a2 l1_0 l1_1 a1_2 a1_3) = some (r1, r2) := by rw [if_neg (show ¬ (false = true) by decide)] at H; exact H
      clear H
      have H := H1
      clear H1
      have H' := Aside0.mk H
      clear H
      go_wp2
      go_meet
      case rel => exact ⟨_, (a2), (by first | rfl | (simp; done) | (simp [*]; done)), H', ⟨by have := HJ3.out; first | omega | exact Nat.le_refl _⟩, ⟨(zkq BK470)⟩, ⟨zaB⟩⟩
   case rest =>
    clear HC7
    try clear c1
    try clear p2
    try clear c6
    try clear c8
    try clear c9
    try clear c10
    try clear c10b0
    try clear c10b1
    try clear p2
    obtain ⟨kq, x8_6, rfl, HA, HJ6, BK470, HB⟩ := hcut
    cases kq with
    | zero => exact absurd HA.out (by simp [flyballref05_Signed.j1])
    | succ kj6 =>
     have H := HA.out
     clear HA
     simp only [flyballref05_Signed.j1] at H
     obtain ⟨⟨t471, t472⟩, A11, H⟩ := zbs H
     try dsimp only at H
     by_cases c12 : a0 = true
     ·subst c12
      have H1 : ((flyballref04_Of.f kj6 (wrap64 (-t471)) true).bind fun t473 => (some (t473, t472))) = some (r1, r2) := by rw [if_pos rfl] at H; exact H
      clear H
      have H := H1
      clear H1
      obtain ⟨t473, A13, H⟩ := zbs H
      try dsimp only at H
      simp only [Option.some.injEq, Prod.mk.injEq] at H
      obtain ⟨rfl, rfl⟩ := H
      have hcz14_0 := zc0 BK470
      have hcz14_1 := zc1 BK470
      have hcz14_2 := zc2 BK470
      have hcz14_3 := zc3 BK470
      have hfz14_0 := blk_frozen BK470.out 0
      have hfz14_1 := blk_frozen BK470.out 1
      have hfz14_2 := blk_frozen BK470.out 2
      have hfz14_3 := blk_frozen BK470.out 3
      go_wp2_with (first | ((with_reducible refine gate_callee (f := 163) rfl ?_); refine goesL_ (some 25) rfl rfl Try.func163 (by kernel_rfl) rfl #[.agg #[.slice A1_0 l1_0.length c1_0, .slice A1_1 l1_1.length c1_1, .int .i64 a1_2, .bool a1_3], .int .u8 x8_6] rfl (by (try simp only [List.map_toArray, List.map_cons, List.map_nil]); first | done | rfl | (simp only [List.length_drop, List.length_take]; rfl)) ?_; (with_reducible refine (flyballref05_Magnitude.calls kj6 _ _ l1_0 _ _ l1_1 a1_2 a1_3 x8_6 t471 t472 _ ?side1 ?side2 ?side3 ?side4 A11.out).mono ?_); (case side1 => repeat (first | exact (Kd.C_below HR1_0.out HB.out) | (with_reducible refine Kd.C_alloc ?_ _) | (with_reducible refine Kd.C_drewN ?_ _) | (with_reducible refine Kd.C_drew ?_))); (case side2 => exact HC1_0.out); (case side3 => repeat (first | exact (Kd.C_below HR1_1.out HB.out) | (with_reducible refine Kd.C_alloc ?_ _) | (with_reducible refine Kd.C_drewN ?_ _) | (with_reducible refine Kd.C_drew ?_))); (case side4 => exact HC1_1.out); rintro e w15 ⟨rfl, hb⟩; refine ⟨_, rfl, ?_⟩; replace BK470 := zkb BK470 hb; replace HB := zkB HB hb; (try clear hb)) | ((with_reducible refine gate_callee (f := 158) rfl ?_); refine zgL 31 Try.func158 (flyballref04_Of.calls kj6 (wrap64 (-t471)) true t473 _ A13.out) (h := ?_); rintro w' ⟨nd, rfl⟩))
      go_ret2
      exact ⟨zaE, zaB⟩
     ·replace c12 := Bool.eq_false_iff.mpr c12
      subst c12
      have H1 : ((flyballref04_Of.f kj6 t471 false).bind fun t474 => (some (t474, t472))) = some (r1, r2) := by rw [if_neg (show ¬ (false = true) by decide)] at H; exact H
      clear H
      have H := H1
      clear H1
      obtain ⟨t474, A16, H⟩ := zbs H
      try dsimp only at H
      simp only [Option.some.injEq, Prod.mk.injEq] at H
      obtain ⟨rfl, rfl⟩ := H
      have hcz17_0 := zc0 BK470
      have hcz17_1 := zc1 BK470
      have hcz17_2 := zc2 BK470
      have hcz17_3 := zc3 BK470
      have hfz17_0 := blk_frozen BK470.out 0
      have hfz17_1 := blk_frozen BK470.out 1
      have hfz17_2 := blk_frozen BK470.out 2
      have hfz17_3 := blk_frozen BK470.out 3
      go_wp2_with (first | ((with_reducible refine gate_callee (f := 163) rfl ?_); refine goesL_ (some 25) rfl rfl Try.func163 (by kernel_rfl) rfl #[.agg #[.slice A1_0 l1_0.length c1_0, .slice A1_1 l1_1.length c1_1, .int .i64 a1_2, .bool a1_3], .int .u8 x8_6] rfl (by (try simp only [List.map_toArray, List.map_cons, List.map_nil]); first | done | rfl | (simp only [List.length_drop, List.length_take]; rfl)) ?_; (with_reducible refine (flyballref05_Magnitude.calls kj6 _ _ l1_0 _ _ l1_1 a1_2 a1_3 x8_6 t471 t472 _ ?side1 ?side2 ?side3 ?side4 A11.out).mono ?_); (case side1 => repeat (first | exact (Kd.C_below HR1_0.out HB.out) | (with_reducible refine Kd.C_alloc ?_ _) | (with_reducible refine Kd.C_drewN ?_ _) | (with_reducible refine Kd.C_drew ?_))); (case side2 => exact HC1_0.out); (case side3 => repeat (first | exact (Kd.C_below HR1_1.out HB.out) | (with_reducible refine Kd.C_alloc ?_ _) | (with_reducible refine Kd.C_drewN ?_ _) | (with_reducible refine Kd.C_drew ?_))); (case side4 => exact HC1_1.out); rintro e w18 ⟨rfl, hb⟩; refine ⟨_, rfl, ?_⟩; replace BK470 := zkb BK470 hb; replace HB := zkB HB hb; (try clear hb)) | ((with_reducible refine gate_callee (f := 158) rfl ?_); refine zgL 34 Try.func158 (flyballref04_Of.calls kj6 t471 false t474 _ A16.out) (h := ?_); rintro w' ⟨nd, rfl⟩))
      go_ret2
      exact ⟨zaE, zaB⟩
end Go.Proofs.Ytmadjhmecfbcmaa.F
end
section
namespace Go.Proofs.Ytmadjhmecfbcmaa.F
open Go.RowKit Go.Proofs.YtmadjhmecfbcmaaW.PrintWords Go.Proofs.YtmadjhmecfbcmaaW.PrintLast Go.Proofs.YtmadjhmecfbcmaaW.PrintMore
attribute [local go_sem] max2_int min2_int max_two min_two max_three min_three max_four min_four
set_option linter.unusedVariables false
set_option linter.unusedSimpArgs false
set_option maxHeartbeats 8000000 in
set_option maxRecDepth 100000 in
theorem flyballref05_Round.calls (k : Nat) (a0 : Bool) (A1 : Option Addr) (c1 : Nat) (l1 : List Bool) (a2 : Int) (a3 : Bool) (a4 : Int) (r1 : Int) (r2 : Int) (w : World) (hr1 : Kd.C Kd.bool w A1 l1.length l1) (hc1 : l1.length ≤ c1) (h : flyballref05_Round.f k a0 l1 a2 a3 a4 = some (r1, r2)) :
  Calls Try.prog 97 #[.bool a0, .slice A1 l1.length c1, .int .i64 a2, .bool a3, .int .u8 a4] w fun e w' => e = .returned (.tuple #[.int .u64 r1, .int .u8 r2]) ∧ Below w.heap.size w w' := by
 have hu115 := Try.underlying115
 have HR1 := Aside0.mk hr1
 have HC1 := Aside0.mk hc1
 clear hr1 hc1
 have HB := Aside0.mk (Below.refl w.heap.size w)
 have H : ((flyballref01_Len.f k l1).bind fun t475 => (if t475 = 0 then ((flyballref04_Of.f k 0 a0).bind fun t476 => (some (t476, 0))) else (if 0 ≤ t475 then (if t475 ≤ (l1.length : Int) then ((some (([true] : List Bool) : List Bool)).bind fun y478 => (if a3 = true then ((flyballref05_Signed.f k a0 (l1.take (t475 : Int).toNat) y478 (mn (mx a2 (-5000)) 5000) (decide (t475 ≥ 54)) a4).bind fun bt481 => (some (bt481.1, bt481.2))) else ((flyballref05_Signed.f k a0 (l1.take (t475 : Int).toNat) y478 (mn (mx a2 (-5000)) 5000) false a4).bind fun bt483 => (some (bt483.1, bt483.2))))) else (none)) else (none)))) = some (r1, r2) := h
 clear h
 obtain ⟨t475, A6, H⟩ := zbs H
 try dsimp only at H
 by_cases c7 : t475 = 0
 ·rw [if_pos c7] at H
  have c7b0 : (t475 == 0) = true := beq_iff_eq.mpr c7
  have c7b1 : (t475 != 0) = false := bne_eq_false_iff_eq.mpr c7
  clear c7
  obtain ⟨t476, A8, H⟩ := zbs H
  try dsimp only at H
  simp only [Option.some.injEq, Prod.mk.injEq] at H
  obtain ⟨rfl, rfl⟩ := H
  go_enter Try.func97, Try.ntmps97
  go_wp2_with (first | ((with_reducible refine gate_callee (f := 95) rfl ?_); refine goesL_ (some 14) rfl rfl Try.func95 (by kernel_rfl) rfl #[.slice A1 l1.length c1] rfl (by (try simp only [List.map_toArray, List.map_cons, List.map_nil]); first | done | rfl | (simp only [List.length_drop, List.length_take]; rfl)) ?_; (with_reducible refine (flyballref01_Len.calls k _ _ l1 t475 _ ?side1 ?side2 A6.out).mono ?_); (case side1 => repeat (first | exact HR1.out | (with_reducible refine Kd.C_alloc ?_ _) | (with_reducible refine Kd.C_drewN ?_ _) | (with_reducible refine Kd.C_drew ?_))); (case side2 => exact HC1.out); rintro e w' ⟨rfl, ⟨nd, rfl⟩⟩; refine ⟨_, rfl, ?_⟩) | ((with_reducible refine gate_callee (f := 158) rfl ?_); refine zgL 18 Try.func158 (flyballref04_Of.calls k 0 a0 t476 _ A8.out) (h := ?_); rintro w' ⟨nd, rfl⟩))
  go_ret2
  exact ⟨zaE, zaB⟩
 ·rw [if_neg c7] at H
  have c7b0 : (t475 == 0) = false := beq_eq_false_iff_ne.mpr c7
  have c7b1 : (t475 != 0) = true := bne_iff_ne.mpr c7
  by_cases c9 : 0 ≤ t475
  ·rw [if_pos c9] at H
   have c9b0 := eq_true c9
   have c9b1 : decide (0 ≤ t475) = true := decide_eq_true c9
   clear c9
   by_cases c10 : t475 ≤ (l1.length : Int)
   ·rw [if_pos c10] at H
    have c10b0 := eq_true c10
    have c10b1 : decide (t475 ≤ (l1.length : Int)) = true := decide_eq_true c10
    clear c10
    obtain ⟨y478, hy478⟩ : ∃ y_ : List Bool, y_ = (([true] : List Bool)) := ⟨_, rfl⟩
    replace H : (if a3 = true then ((flyballref05_Signed.f k a0 (l1.take (t475 : Int).toNat) y478 (mn (mx a2 (-5000)) 5000) (decide (t475 ≥ 54)) a4).bind fun bt481 => (some (bt481.1, bt481.2))) else ((flyballref05_Signed.f k a0 (l1.take (t475 : Int).toNat) y478 (mn (mx a2 (-5000)) 5000) false a4).bind fun bt483 => (some (bt483.1, bt483.2)))) = some (r1, r2) := by first | (rw [hy478]; with_reducible exact H) | (have H2_ := (Option.bind_some _ _).symm.trans H; rw [hy478]; with_reducible exact H2_) | (have H2_ := (Option.bind_some _ _).symm.trans H; with_reducible exact H2_) | with_reducible exact H | (rw [hy478]; exact H) | exact H
    have Ny478 := Aside0.mk hy478
    clear hy478
    obtain ⟨ji11, hji11⟩ : ∃ j_ : Int, (mx a2 (-5000)) = j_ := ⟨_, rfl⟩
    replace H : (if a3 = true then ((flyballref05_Signed.f k a0 (l1.take (t475 : Int).toNat) y478 (mn (ji11) 5000) (decide (t475 ≥ 54)) a4).bind fun bt481 => (some (bt481.1, bt481.2))) else ((flyballref05_Signed.f k a0 (l1.take (t475 : Int).toNat) y478 (mn (ji11) 5000) false a4).bind fun bt483 => (some (bt483.1, bt483.2)))) = some (r1, r2) := by first | (rw [hji11] at H; exact H) | (simp only [hji11] at H ⊢; exact H)
    (try rw [hji11] at A6)
    have hji11_ : (if a2 < (-5000) then (-5000) else a2) = ji11 := hji11
    (try (have hji11n := hji11_; simp only [Int.ofNat_lt] at hji11n))
    obtain ⟨ji12, hji12⟩ : ∃ j_ : Int, (mn (ji11) 5000) = j_ := ⟨_, rfl⟩
    replace H : (if a3 = true then ((flyballref05_Signed.f k a0 (l1.take (t475 : Int).toNat) y478 (ji12) (decide (t475 ≥ 54)) a4).bind fun bt481 => (some (bt481.1, bt481.2))) else ((flyballref05_Signed.f k a0 (l1.take (t475 : Int).toNat) y478 (ji12) false a4).bind fun bt483 => (some (bt483.1, bt483.2)))) = some (r1, r2) := by first | (rw [hji12] at H; exact H) | (simp only [hji12] at H ⊢; exact H)
    (try rw [hji12] at A6)
    have hji12_ : (if 5000 < (ji11) then 5000 else (ji11)) = ji12 := hji12
    (try (have hji12n := hji12_; simp only [Int.ofNat_lt] at hji12n))
    by_cases c13 : a3 = true
    ·subst c13
     have H1 : ((flyballref05_Signed.f k a0 (l1.take (t475 : Int).toNat) y478 (ji12) (decide (t475 ≥ 54)) a4).bind fun bt481 => (some (bt481.1, bt481.2))) = some (r1, r2) := by rw [if_pos rfl] at H; exact H
     clear H
     have H := H1
     clear H1
     obtain ⟨⟨t481, t482⟩, A14, H⟩ := zbs H
     try dsimp only at H
     simp only [Option.some.injEq, Prod.mk.injEq] at H
     obtain ⟨rfl, rfl⟩ := H
     go_enter Try.func97, Try.ntmps97
     go_wp2_with (first | ((with_reducible refine gate_callee (f := 95) rfl ?_); refine goesL_ (some 14) rfl rfl Try.func95 (by kernel_rfl) rfl #[.slice A1 l1.length c1] rfl (by (try simp only [List.map_toArray, List.map_cons, List.map_nil]); first | done | rfl | (simp only [List.length_drop, List.length_take]; rfl)) ?_; (with_reducible refine (flyballref01_Len.calls k _ _ l1 t475 _ ?side1 ?side2 A6.out).mono ?_); (case side1 => repeat (first | exact HR1.out | (with_reducible refine Kd.C_alloc ?_ _) | (with_reducible refine Kd.C_drewN ?_ _) | (with_reducible refine Kd.C_drew ?_))); (case side2 => exact HC1.out); rintro e w' ⟨rfl, ⟨nd, rfl⟩⟩; refine ⟨_, rfl, ?_⟩; obtain ⟨i015, hi015, _, hsz15, _⟩ := info_parts info4; obtain ⟨hcut15, hA15, hC15⟩ := print_take_of (P := Try.prog) Value.bool false 96 4 .i64 Try.underlying96 hi015 hsz15 A1 c1 l1 t475 (of_decide_eq_true (by first | (with_reducible assumption) | assumption)) (of_decide_eq_true (by first | (with_reducible assumption) | assumption)) HC1.out; have HR477 := Aside0.mk (Kd.C_of_reads (h1 := fun _ => rfl) (hA15 _ (Kd.reads_of_C HR1.out))); have HC477 := Aside0.mk hC15; clear hA15 hC15 hi015 hsz15) | ((with_reducible refine gate_dst (N := 23) rfl ?_); refine Kd.R_lit Kd.bool _ 4 ?hg (N := 23) ?hd (xs := ([true] : List Bool)) (inner := [.bool true]) (ok := fun _ => True) (okp := fun _ => True) ?hr ?hp (fun _ hk => hk) trivial (Below.refl _ _) (Nat.le_refl _) (by simp) ?_; (case hd => rfl); (case hg => rfl); (case hr => first | (go_simp; done) | (go_simp; rfl)); (case hp => exact (Reps.one (show Kd.M Kd.bool _ _ _ true [.bool true] from rfl) (Reps.none _ _))); intro v479 w16 ho17 hb hg_ hnew_; clear hg_ hnew_; (first | rw [← Ny478.out] at ho17 | (simp only [Int.reduceToNat] at ho17; rw [← Ny478.out] at ho17)); have HO480 := Aside0.mk (Kd.R_lower ho17 (below_size zaB)); replace HB := Aside0.mk (below_step zaB hb); clear hb ho17; obtain ⟨Ao18, co18, eo18⟩ := Kd.R_slice HO480.out; subst eo18) | ((with_reducible refine gate_callee (f := 105) rfl ?_); refine goesL_ (some 34) rfl rfl Try.func105 (by kernel_rfl) rfl #[.bool a0, .agg #[.slice A1 (l1.take (t475 : Int).toNat).length c1, .slice Ao18 y478.length co18, .int .i64 ji12, .bool (decide (t475 ≥ 54))], .int .u8 a4] rfl (by (try simp only [List.map_toArray, List.map_cons, List.map_nil]); first | done | (rw [show (l1.take (t475 : Int).toNat).length = t475.toNat from (by rw [List.length_take]; have h_ : (t475 : Int) ≤ (l1.length : Int) := of_decide_eq_true (by first | (with_reducible assumption) | assumption); omega)] <;> rfl) | (simp only [hji12]; rfl) | rfl | (simp only [List.length_drop, List.length_take]; rfl)) ?_; (with_reducible refine (flyballref05_Signed.calls k a0 _ _ (l1.take (t475 : Int).toNat) _ _ y478 ji12 (decide (t475 ≥ 54)) a4 t481 t482 _ ?side1 ?side2 ?side3 ?side4 A14.out).mono ?_); (case side1 => repeat (first | exact (Kd.C_below HR477.out HB.out) | (with_reducible refine Kd.C_alloc ?_ _) | (with_reducible refine Kd.C_drewN ?_ _) | (with_reducible refine Kd.C_drew ?_))); (case side2 => exact HC477.out); (case side3 => repeat (first | exact (Kd.R_reads' HO480.out).2.2 | (with_reducible refine Kd.C_alloc ?_ _) | (with_reducible refine Kd.C_drewN ?_ _) | (with_reducible refine Kd.C_drew ?_))); (case side4 => exact (Kd.R_reads' HO480.out).2.1); rintro e w19 ⟨rfl, hb⟩; refine ⟨_, rfl, ?_⟩; replace HO480 := Aside0.mk (Kd.R_below (by (with_reducible repeat (first | apply Kd.R_alloc | apply Kd.R_drewN | apply Kd.R_drew)); exact HO480.out) hb); replace HB := Aside0.mk (below_step zaB hb); (try clear hb)))
     go_ret2
     exact ⟨by first | rfl | (simp [errW_none, errW_some] <;> rfl) | (simp only [← hji11, ← hji12]; first | rfl | (simp [errW_none, errW_some] <;> rfl)) | (simp [*, errW_none, errW_some] <;> rfl), zaB⟩
    ·replace c13 := Bool.eq_false_iff.mpr c13
     subst c13
     have H1 : ((flyballref05_Signed.f k a0 (l1.take (t475 : Int).toNat) y478 (ji12) false a4).bind fun bt483 => (some (bt483.1, bt483.2))) = some (r1, r2) := by rw [if_neg (show ¬ (false = true) by decide)] at H; exact H
     clear H
     have H := H1
     clear H1
     obtain ⟨⟨t483, t484⟩, A20, H⟩ := zbs H
     try dsimp only at H
     simp only [Option.some.injEq, Prod.mk.injEq] at H
     obtain ⟨rfl, rfl⟩ := H
     go_enter Try.func97, Try.ntmps97
     go_wp2_with (first | ((with_reducible refine gate_callee (f := 95) rfl ?_); refine goesL_ (some 14) rfl rfl Try.func95 (by kernel_rfl) rfl #[.slice A1 l1.length c1] rfl (by (try simp only [List.map_toArray, List.map_cons, List.map_nil]); first | done | rfl | (simp only [List.length_drop, List.length_take]; rfl)) ?_; (with_reducible refine (flyballref01_Len.calls k _ _ l1 t475 _ ?side1 ?side2 A6.out).mono ?_); (case side1 => repeat (first | exact HR1.out | (with_reducible refine Kd.C_alloc ?_ _) | (with_reducible refine Kd.C_drewN ?_ _) | (with_reducible refine Kd.C_drew ?_))); (case side2 => exact HC1.out); rintro e w' ⟨rfl, ⟨nd, rfl⟩⟩; refine ⟨_, rfl, ?_⟩; obtain ⟨i021, hi021, _, hsz21, _⟩ := info_parts info4; obtain ⟨hcut21, hA21, hC21⟩ := print_take_of (P := Try.prog) Value.bool false 96 4 .i64 Try.underlying96 hi021 hsz21 A1 c1 l1 t475 (of_decide_eq_true (by first | (with_reducible assumption) | assumption)) (of_decide_eq_true (by first | (with_reducible assumption) | assumption)) HC1.out; have HR477 := Aside0.mk (Kd.C_of_reads (h1 := fun _ => rfl) (hA21 _ (Kd.reads_of_C HR1.out))); have HC477 := Aside0.mk hC21; clear hA21 hC21 hi021 hsz21) | ((with_reducible refine gate_dst (N := 23) rfl ?_); refine Kd.R_lit Kd.bool _ 4 ?hg (N := 23) ?hd (xs := ([true] : List Bool)) (inner := [.bool true]) (ok := fun _ => True) (okp := fun _ => True) ?hr ?hp (fun _ hk => hk) trivial (Below.refl _ _) (Nat.le_refl _) (by simp) ?_; (case hd => rfl); (case hg => rfl); (case hr => first | (go_simp; done) | (go_simp; rfl)); (case hp => exact (Reps.one (show Kd.M Kd.bool _ _ _ true [.bool true] from rfl) (Reps.none _ _))); intro v479 w22 ho23 hb hg_ hnew_; clear hg_ hnew_; (first | rw [← Ny478.out] at ho23 | (simp only [Int.reduceToNat] at ho23; rw [← Ny478.out] at ho23)); have HO480 := Aside0.mk (Kd.R_lower ho23 (below_size zaB)); replace HB := Aside0.mk (below_step zaB hb); clear hb ho23; obtain ⟨Ao24, co24, eo24⟩ := Kd.R_slice HO480.out; subst eo24) | ((with_reducible refine gate_callee (f := 105) rfl ?_); refine goesL_ (some 34) rfl rfl Try.func105 (by kernel_rfl) rfl #[.bool a0, .agg #[.slice A1 (l1.take (t475 : Int).toNat).length c1, .slice Ao24 y478.length co24, .int .i64 ji12, .bool false], .int .u8 a4] rfl (by (try simp only [List.map_toArray, List.map_cons, List.map_nil]); first | done | (rw [show (l1.take (t475 : Int).toNat).length = t475.toNat from (by rw [List.length_take]; have h_ : (t475 : Int) ≤ (l1.length : Int) := of_decide_eq_true (by first | (with_reducible assumption) | assumption); omega)] <;> rfl) | (simp only [hji12]; rfl) | rfl | (simp only [List.length_drop, List.length_take]; rfl)) ?_; (with_reducible refine (flyballref05_Signed.calls k a0 _ _ (l1.take (t475 : Int).toNat) _ _ y478 ji12 false a4 t483 t484 _ ?side1 ?side2 ?side3 ?side4 A20.out).mono ?_); (case side1 => repeat (first | exact (Kd.C_below HR477.out HB.out) | (with_reducible refine Kd.C_alloc ?_ _) | (with_reducible refine Kd.C_drewN ?_ _) | (with_reducible refine Kd.C_drew ?_))); (case side2 => exact HC477.out); (case side3 => repeat (first | exact (Kd.R_reads' HO480.out).2.2 | (with_reducible refine Kd.C_alloc ?_ _) | (with_reducible refine Kd.C_drewN ?_ _) | (with_reducible refine Kd.C_drew ?_))); (case side4 => exact (Kd.R_reads' HO480.out).2.1); rintro e w25 ⟨rfl, hb⟩; refine ⟨_, rfl, ?_⟩; replace HO480 := Aside0.mk (Kd.R_below (by (with_reducible repeat (first | apply Kd.R_alloc | apply Kd.R_drewN | apply Kd.R_drew)); exact HO480.out) hb); replace HB := Aside0.mk (below_step zaB hb); (try clear hb)))
     go_ret2
     exact ⟨by first | rfl | (simp [errW_none, errW_some] <;> rfl) | (simp only [← hji11, ← hji12]; first | rfl | (simp [errW_none, errW_some] <;> rfl)) | (simp [*, errW_none, errW_some] <;> rfl), zaB⟩
   ·rw [if_neg c10] at H
    exact absurd H (by simp)
  ·rw [if_neg c9] at H
   exact absurd H (by simp)
end Go.Proofs.Ytmadjhmecfbcmaa.F
end
section
namespace Go.Proofs.Ytmadjhmecfbcmaa.F
open Go.RowKit Go.Proofs.YtmadjhmecfbcmaaW.PrintWords Go.Proofs.YtmadjhmecfbcmaaW.PrintLast Go.Proofs.YtmadjhmecfbcmaaW.PrintMore
attribute [local go_sem] max2_int min2_int max_two min_two max_three min_three max_four min_four
set_option linter.unusedVariables false
set_option linter.unusedSimpArgs false
set_option maxHeartbeats 8000000 in
set_option maxRecDepth 100000 in
theorem flyballref01_Sub.calls (k : Nat) (A0 : Option Addr) (c0 : Nat) (l0 : List Bool) (A1 : Option Addr) (c1 : Nat) (l1 : List Bool) (a2 : Int) (r1 : List Bool) (r2 : Bool) (w : World) (hr0 : Kd.C Kd.bool w A0 l0.length l0) (hc0 : l0.length ≤ c0) (hr1 : Kd.C Kd.bool w A1 l1.length l1) (hc1 : l1.length ≤ c1) (h : flyballref01_Sub.f k l0 l1 a2 = some (r1, r2)) :
  Calls Try.prog 94 #[.slice A0 l0.length c0, .slice A1 l1.length c1, .int .i64 a2] w fun e w' => ∃ v0_ : Value, e = .returned (.tuple #[v0_, .bool r2]) ∧ Kd.R Kd.bool 4 w' w.heap.size (fun _ => True) v0_ r1 ∧ Below w.heap.size w w' := by
 have HR0 := Aside0.mk hr0
 have HC0 := Aside0.mk hc0
 clear hr0 hc0
 have HR1 := Aside0.mk hr1
 have HC1 := Aside0.mk hc1
 clear hr1 hc1
 have HB := Aside0.mk (Below.refl w.heap.size w)
 have H : (flyballref01_Sub.l0 k l0 l1 a2 ([] : List Bool) false 0) = some (r1, r2) := h
 clear h
 have H' := Aside0.mk H
 clear H
 go_enter Try.func94, Try.ntmps94
 go_wp2
 (try simp only [Act.put, List.setIfInBounds_toArray, List.set_cons_zero, List.set_cons_succ])
 go_loopg [8, 9, 10] k (fun kq v8 v9 v10 w' => ∃ (x8_1 : List Bool) (x9_1 : Bool) (x10_1 : Int), v9 = .bool x9_1 ∧ v10 = .int .i64 x10_1 ∧ Aside0 (flyballref01_Sub.l0 kq l0 l1 a2 x8_1 x9_1 x10_1 = some (r1, r2)) ∧ Aside0 (kq ≤ k) ∧ Aside0 (Kd.R Kd.bool 4 w' w.heap.size (fun _ => True) v8 x8_1) ∧ Aside0 (Below w.heap.size w w'))
 case atStart => exact ⟨(([] : List Bool)), (false), (0), (by first | rfl | (simp; done) | (simp [*]; done)), (by first | rfl | (simp; done) | (simp [*]; done)), H', ⟨Nat.le_refl _⟩, ⟨by first | exact Kd.R_nil _ _ _ _ _ | exact Kd.N_nil _ _ _ _ _ | exact Kd.V_nil _ _ _ _ _ | exact Kd.Q_nil _ _ _ _ _ | exact Kd.S_nil _ _ _ _ _⟩, ⟨zaB⟩⟩
 case round =>
  clear H'
  try clear c1
  try clear p2
  obtain ⟨x8_1, x9_1, x10_1, rfl, rfl, HA, HK1, HO_8, HB⟩ := hrel
  cases gk with
  | zero => exact absurd HA.out (by simp [flyballref01_Sub.l0])
  | succ k1 =>
   have H := HA.out
   clear HA
   simp only [flyballref01_Sub.l0] at H
   by_cases c4 : x10_1 < a2
   ·rw [if_pos c4] at H
    have c4b0 : decide (x10_1 < a2) = true := decide_eq_true c4
    clear c4
    obtain ⟨t387, A5, H⟩ := zbs H
    try dsimp only at H
    obtain ⟨t388, A6, H⟩ := zbs H
    try dsimp only at H
    by_cases c7 : x8_1.length < 140737488355328
    ·rw [if_pos c7] at H
     have LMc7 := Aside0.mk c7
     clear c7
     obtain ⟨y389, hy389⟩ : ∃ y_ : List Bool, y_ = (x8_1 ++ [((t387 != t388) != x9_1)]) := ⟨_, rfl⟩
     replace H : (if t387 = true then (if t388 = true then (flyballref01_Sub.l0 k1 l0 l1 a2 y389 x9_1 (wrap64 (x10_1 + 1))) else (flyballref01_Sub.l0 k1 l0 l1 a2 y389 false (wrap64 (x10_1 + 1)))) else (if t388 = true then (flyballref01_Sub.l0 k1 l0 l1 a2 y389 true (wrap64 (x10_1 + 1))) else (if x9_1 = true then (flyballref01_Sub.l0 k1 l0 l1 a2 y389 true (wrap64 (x10_1 + 1))) else (flyballref01_Sub.l0 k1 l0 l1 a2 y389 false (wrap64 (x10_1 + 1)))))) = some (r1, r2) := by first | (rw [hy389]; with_reducible exact H) | (have H2_ := (Option.bind_some _ _).symm.trans H; rw [hy389]; with_reducible exact H2_) | (have H2_ := (Option.bind_some _ _).symm.trans H; with_reducible exact H2_) | with_reducible exact H | (rw [hy389]; exact H) | exact H
     have Ny389 := Aside0.mk hy389
     clear hy389
     by_cases c8 : t387 = true
     ·subst c8
      have H1 : (if t388 = true then (flyballref01_Sub.l0 k1 l0 l1 a2 y389 x9_1 (wrap64 (x10_1 + 1))) else (flyballref01_Sub.l0 k1 l0 l1 a2 y389 false (wrap64 (x10_1 + 1)))) = some (r1, r2) := by rw [if_pos rfl] at H; exact H
      clear H
      have H := H1
      clear H1
      by_cases c9 : t388 = true
      ·subst c9
       have H1 : (flyballref01_Sub.l0 k1 l0 l1 a2 y389 x9_1 (wrap64 (x10_1 + 1))) = some (r1, r2) := by rw [if_pos rfl] at H; exact H
       clear H
       have H := H1
       clear H1
       have H' := Aside0.mk H
       clear H
       go_wp2_with (first | ((with_reducible refine gate_callee (f := 156) rfl ?_); refine goesL_ (some 20) rfl rfl Try.func156 (by kernel_rfl) rfl #[.slice A0 l0.length c0, .int .i64 x10_1] rfl (by (try simp only [List.map_toArray, List.map_cons, List.map_nil]); first | done | rfl | (simp only [List.length_drop, List.length_take]; rfl)) ?_; (with_reducible refine (flyballref01_bit.calls _ _ l0 x10_1 true _ ?side1 ?side2 A5.out).mono ?_); (case side1 => repeat (first | exact (Kd.C_below HR0.out HB.out) | (with_reducible refine Kd.C_alloc ?_ _) | (with_reducible refine Kd.C_drewN ?_ _) | (with_reducible refine Kd.C_drew ?_))); (case side2 => exact HC0.out); rintro e w' ⟨rfl, ⟨nd, rfl⟩⟩; refine ⟨_, rfl, ?_⟩) | ((with_reducible refine gate_callee (f := 156) rfl ?_); refine goesL_ (some 23) rfl rfl Try.func156 (by kernel_rfl) rfl #[.slice A1 l1.length c1, .int .i64 x10_1] rfl (by (try simp only [List.map_toArray, List.map_cons, List.map_nil]); first | done | rfl | (simp only [List.length_drop, List.length_take]; rfl)) ?_; (with_reducible refine (flyballref01_bit.calls _ _ l1 x10_1 true _ ?side1 ?side2 A6.out).mono ?_); (case side1 => repeat (first | exact (Kd.C_below HR1.out zaB) | (with_reducible refine Kd.C_alloc ?_ _) | (with_reducible refine Kd.C_drewN ?_ _) | (with_reducible refine Kd.C_drew ?_))); (case side2 => exact HC1.out); rintro e w' ⟨rfl, ⟨nd, rfl⟩⟩; refine ⟨_, rfl, ?_⟩) | ((with_reducible refine gate_builtin (b := .append) (xs := #[.tmp 24, .tmp 30]) rfl ?_); at_builtin; refine Kd.R_append Kd.bool (w0 := w) w.heap.size rfl (.tmp 24) (.tmp 30) 96 4 (.bool false) 1 rfl Try.underlying96 info4 rfl (by decide) (by omega) u8 x8_1 x9_1 [.bool x9_1] (fun _ => True) (fun _ => False) rfl rfl ?aP (fun _ hk => hk.elim) ?aF ?aO ?aB ?aS ?aL ?_; (case aP => exact rfl); (case aB => exact zaB); (case aF => exact (fun _ _ => trivial)); (case aO => exact (by (with_reducible repeat (first | apply Kd.R_alloc | apply Kd.R_drewN | apply Kd.R_drew)); exact HO_8.out)); (case aS => exact (below_size zaB)); (case aL => have := LMc7.out; omega); intro v390 w10 ho hb hg hat; rw [← (show y389 = x8_1 ++ [x9_1] from by rw [Ny389.out]; cases x9_1 <;> rfl)] at ho; replace HB := Aside0.mk (hb); have HO391 := Aside0.mk (ho); clear HO_8; clear ho hb hg hat))
       go_roundg k1
       case measure => have := HK1.out; omega
       case rel => exact ⟨(y389), (x9_1), (wrap64 (x10_1 + 1)), (by first | rfl | (simp; done) | (simp [*]; done)), (by first | rfl | (simp; done) | (simp [*]; done)), H', ⟨by have := HK1.out; omega⟩, ⟨by (with_reducible repeat (first | apply Kd.R_alloc | apply Kd.R_drewN | apply Kd.R_drew)); exact HO391.out⟩, ⟨zaB⟩⟩
      ·replace c9 := Bool.eq_false_iff.mpr c9
       subst c9
       have H1 : (flyballref01_Sub.l0 k1 l0 l1 a2 y389 false (wrap64 (x10_1 + 1))) = some (r1, r2) := by rw [if_neg (show ¬ (false = true) by decide)] at H; exact H
       clear H
       have H := H1
       clear H1
       have H' := Aside0.mk H
       clear H
       go_wp2_with (first | ((with_reducible refine gate_callee (f := 156) rfl ?_); refine goesL_ (some 20) rfl rfl Try.func156 (by kernel_rfl) rfl #[.slice A0 l0.length c0, .int .i64 x10_1] rfl (by (try simp only [List.map_toArray, List.map_cons, List.map_nil]); first | done | rfl | (simp only [List.length_drop, List.length_take]; rfl)) ?_; (with_reducible refine (flyballref01_bit.calls _ _ l0 x10_1 true _ ?side1 ?side2 A5.out).mono ?_); (case side1 => repeat (first | exact (Kd.C_below HR0.out HB.out) | (with_reducible refine Kd.C_alloc ?_ _) | (with_reducible refine Kd.C_drewN ?_ _) | (with_reducible refine Kd.C_drew ?_))); (case side2 => exact HC0.out); rintro e w' ⟨rfl, ⟨nd, rfl⟩⟩; refine ⟨_, rfl, ?_⟩) | ((with_reducible refine gate_callee (f := 156) rfl ?_); refine goesL_ (some 23) rfl rfl Try.func156 (by kernel_rfl) rfl #[.slice A1 l1.length c1, .int .i64 x10_1] rfl (by (try simp only [List.map_toArray, List.map_cons, List.map_nil]); first | done | rfl | (simp only [List.length_drop, List.length_take]; rfl)) ?_; (with_reducible refine (flyballref01_bit.calls _ _ l1 x10_1 false _ ?side1 ?side2 A6.out).mono ?_); (case side1 => repeat (first | exact (Kd.C_below HR1.out zaB) | (with_reducible refine Kd.C_alloc ?_ _) | (with_reducible refine Kd.C_drewN ?_ _) | (with_reducible refine Kd.C_drew ?_))); (case side2 => exact HC1.out); rintro e w' ⟨rfl, ⟨nd, rfl⟩⟩; refine ⟨_, rfl, ?_⟩) | ((with_reducible refine gate_builtin (b := .append) (xs := #[.tmp 24, .tmp 30]) rfl ?_); at_builtin; refine Kd.R_append Kd.bool (w0 := w) w.heap.size rfl (.tmp 24) (.tmp 30) 96 4 (.bool false) 1 rfl Try.underlying96 info4 rfl (by decide) (by omega) u8 x8_1 (!x9_1) [.bool (!x9_1)] (fun _ => True) (fun _ => False) rfl rfl ?aP (fun _ hk => hk.elim) ?aF ?aO ?aB ?aS ?aL ?_; (case aP => exact rfl); (case aB => exact zaB); (case aF => exact (fun _ _ => trivial)); (case aO => exact (by (with_reducible repeat (first | apply Kd.R_alloc | apply Kd.R_drewN | apply Kd.R_drew)); exact HO_8.out)); (case aS => exact (below_size zaB)); (case aL => have := LMc7.out; omega); intro v390 w11 ho hb hg hat; rw [← (show y389 = x8_1 ++ [(!x9_1)] from by rw [Ny389.out]; cases x9_1 <;> rfl)] at ho; replace HB := Aside0.mk (hb); have HO391 := Aside0.mk (ho); clear HO_8; clear ho hb hg hat))
       go_roundg k1
       case measure => have := HK1.out; omega
       case rel => exact ⟨(y389), (false), (wrap64 (x10_1 + 1)), (by first | rfl | (simp; done) | (simp [*]; done)), (by first | rfl | (simp; done) | (simp [*]; done)), H', ⟨by have := HK1.out; omega⟩, ⟨by (with_reducible repeat (first | apply Kd.R_alloc | apply Kd.R_drewN | apply Kd.R_drew)); exact HO391.out⟩, ⟨zaB⟩⟩
     ·replace c8 := Bool.eq_false_iff.mpr c8
      subst c8
      have H1 : (if t388 = true then (flyballref01_Sub.l0 k1 l0 l1 a2 y389 true (wrap64 (x10_1 + 1))) else (if x9_1 = true then (flyballref01_Sub.l0 k1 l0 l1 a2 y389 true (wrap64 (x10_1 + 1))) else (flyballref01_Sub.l0 k1 l0 l1 a2 y389 false (wrap64 (x10_1 + 1))))) = some (r1, r2) := by rw [if_neg (show ¬ (false = true) by decide)] at H; exact H
      clear H
      have H := H1
      clear H1
      by_cases c12 : t388 = true
      ·subst c12
       have H1 : (flyballref01_Sub.l0 k1 l0 l1 a2 y389 true (wrap64 (x10_1 + 1))) = some (r1, r2) := by rw [if_pos rfl] at H; exact H
       clear H
       have H := H1
       clear H1
       have H' := Aside0.mk H
       clear H
       go_wp2_with (first | ((with_reducible refine gate_callee (f := 156) rfl ?_); refine goesL_ (some 20) rfl rfl Try.func156 (by kernel_rfl) rfl #[.slice A0 l0.length c0, .int .i64 x10_1] rfl (by (try simp only [List.map_toArray, List.map_cons, List.map_nil]); first | done | rfl | (simp only [List.length_drop, List.length_take]; rfl)) ?_; (with_reducible refine (flyballref01_bit.calls _ _ l0 x10_1 false _ ?side1 ?side2 A5.out).mono ?_); (case side1 => repeat (first | exact (Kd.C_below HR0.out HB.out) | (with_reducible refine Kd.C_alloc ?_ _) | (with_reducible refine Kd.C_drewN ?_ _) | (with_reducible refine Kd.C_drew ?_))); (case side2 => exact HC0.out); rintro e w' ⟨rfl, ⟨nd, rfl⟩⟩; refine ⟨_, rfl, ?_⟩) | ((with_reducible refine gate_callee (f := 156) rfl ?_); refine goesL_ (some 23) rfl rfl Try.func156 (by kernel_rfl) rfl #[.slice A1 l1.length c1, .int .i64 x10_1] rfl (by (try simp only [List.map_toArray, List.map_cons, List.map_nil]); first | done | rfl | (simp only [List.length_drop, List.length_take]; rfl)) ?_; (with_reducible refine (flyballref01_bit.calls _ _ l1 x10_1 true _ ?side1 ?side2 A6.out).mono ?_); (case side1 => repeat (first | exact (Kd.C_below HR1.out zaB) | (with_reducible refine Kd.C_alloc ?_ _) | (with_reducible refine Kd.C_drewN ?_ _) | (with_reducible refine Kd.C_drew ?_))); (case side2 => exact HC1.out); rintro e w' ⟨rfl, ⟨nd, rfl⟩⟩; refine ⟨_, rfl, ?_⟩) | ((with_reducible refine gate_builtin (b := .append) (xs := #[.tmp 24, .tmp 30]) rfl ?_); at_builtin; refine Kd.R_append Kd.bool (w0 := w) w.heap.size rfl (.tmp 24) (.tmp 30) 96 4 (.bool false) 1 rfl Try.underlying96 info4 rfl (by decide) (by omega) u8 x8_1 (!x9_1) [.bool (!x9_1)] (fun _ => True) (fun _ => False) rfl rfl ?aP (fun _ hk => hk.elim) ?aF ?aO ?aB ?aS ?aL ?_; (case aP => exact rfl); (case aB => exact zaB); (case aF => exact (fun _ _ => trivial)); (case aO => exact (by (with_reducible repeat (first | apply Kd.R_alloc | apply Kd.R_drewN | apply Kd.R_drew)); exact HO_8.out)); (case aS => exact (below_size zaB)); (case aL => have := LMc7.out; omega); intro v390 w13 ho hb hg hat; rw [← (show y389 = x8_1 ++ [(!x9_1)] from by rw [Ny389.out]; cases x9_1 <;> rfl)] at ho; replace HB := Aside0.mk (hb); have HO391 := Aside0.mk (ho); clear HO_8; clear ho hb hg hat))
       go_roundg k1
       case measure => have := HK1.out; omega
       case rel => exact ⟨(y389), (true), (wrap64 (x10_1 + 1)), (by first | rfl | (simp; done) | (simp [*]; done)), (by first | rfl | (simp; done) | (simp [*]; done)), H', ⟨by have := HK1.out; omega⟩, ⟨by (with_reducible repeat (first | apply Kd.R_alloc | apply Kd.R_drewN | apply Kd.R_drew)); exact HO391.out⟩, ⟨zaB⟩⟩
      ·replace c12 := Bool.eq_false_iff.mpr c12
       subst c12
       have H1 : (if x9_1 = true then (flyballref01_Sub.l0 k1 l0 l1 a2 y389 true (wrap64 (x10_1 + 1))) else (flyballref01_Sub.l0 k1 l0 l1 a2 y389 false (wrap64 (x10_1 + 1)))) = some (r1, r2) := by rw [if_neg (show ¬ (false = true) by decide)] at H; exact H
       clear H
       have H := H1
       clear H1
       by_cases c14 : x9_1 = true
       ·subst c14
        have H1 : (flyballref01_Sub.l0 k1 l0 l1 a2 y389 true (wrap64 (x10_1 + 1))) = some (r1, r2) := by rw [if_pos rfl] at H; exact H
        clear H
        have H := H1
        clear H1
        have H' := Aside0.mk H
        clear H
        go_wp2_with (first | ((with_reducible refine gate_callee (f := 156) rfl ?_); refine goesL_ (some 20) rfl rfl Try.func156 (by kernel_rfl) rfl #[.slice A0 l0.length c0, .int .i64 x10_1] rfl (by (try simp only [List.map_toArray, List.map_cons, List.map_nil]); first | done | rfl | (simp only [List.length_drop, List.length_take]; rfl)) ?_; (with_reducible refine (flyballref01_bit.calls _ _ l0 x10_1 false _ ?side1 ?side2 A5.out).mono ?_); (case side1 => repeat (first | exact (Kd.C_below HR0.out HB.out) | (with_reducible refine Kd.C_alloc ?_ _) | (with_reducible refine Kd.C_drewN ?_ _) | (with_reducible refine Kd.C_drew ?_))); (case side2 => exact HC0.out); rintro e w' ⟨rfl, ⟨nd, rfl⟩⟩; refine ⟨_, rfl, ?_⟩) | ((with_reducible refine gate_callee (f := 156) rfl ?_); refine goesL_ (some 23) rfl rfl Try.func156 (by kernel_rfl) rfl #[.slice A1 l1.length c1, .int .i64 x10_1] rfl (by (try simp only [List.map_toArray, List.map_cons, List.map_nil]); first | done | rfl | (simp only [List.length_drop, List.length_take]; rfl)) ?_; (with_reducible refine (flyballref01_bit.calls _ _ l1 x10_1 false _ ?side1 ?side2 A6.out).mono ?_); (case side1 => repeat (first | exact (Kd.C_below HR1.out zaB) | (with_reducible refine Kd.C_alloc ?_ _) | (with_reducible refine Kd.C_drewN ?_ _) | (with_reducible refine Kd.C_drew ?_))); (case side2 => exact HC1.out); rintro e w' ⟨rfl, ⟨nd, rfl⟩⟩; refine ⟨_, rfl, ?_⟩) | ((with_reducible refine gate_builtin (b := .append) (xs := #[.tmp 24, .tmp 30]) rfl ?_); at_builtin; refine Kd.R_append Kd.bool (w0 := w) w.heap.size rfl (.tmp 24) (.tmp 30) 96 4 (.bool false) 1 rfl Try.underlying96 info4 rfl (by decide) (by omega) u8 x8_1 ((false != false) != true) [.bool ((false != false) != true)] (fun _ => True) (fun _ => False) rfl rfl ?aP (fun _ hk => hk.elim) ?aF ?aO ?aB ?aS ?aL ?_; (case aP => exact rfl); (case aB => exact zaB); (case aF => exact (fun _ _ => trivial)); (case aO => exact (by (with_reducible repeat (first | apply Kd.R_alloc | apply Kd.R_drewN | apply Kd.R_drew)); exact HO_8.out)); (case aS => exact (below_size zaB)); (case aL => have := LMc7.out; omega); intro v390 w15 ho hb hg hat; rw [← Ny389.out] at ho; replace HB := Aside0.mk (hb); have HO391 := Aside0.mk (ho); clear HO_8; clear ho hb hg hat))
        go_roundg k1
        case measure => have := HK1.out; omega
        case rel => exact ⟨(y389), (true), (wrap64 (x10_1 + 1)), (by first | rfl | (simp; done) | (simp [*]; done)), (by first | rfl | (simp; done) | (simp [*]; done)), H', ⟨by have := HK1.out; omega⟩, ⟨by (with_reducible repeat (first | apply Kd.R_alloc | apply Kd.R_drewN | apply Kd.R_drew)); exact HO391.out⟩, ⟨zaB⟩⟩
       ·replace c14 := Bool.eq_false_iff.mpr c14
        subst c14
        have H1 : (flyballref01_Sub.l0 k1 l0 l1 a2 y389 false (wrap64 (x10_1 + 1))) = some (r1, r2) := by rw [if_neg (show ¬ (false = true) by decide)] at H; exact H
        clear H
        have H := H1
        clear H1
        have H' := Aside0.mk H
        clear H
        go_wp2_with (first | ((with_reducible refine gate_callee (f := 156) rfl ?_); refine goesL_ (some 20) rfl rfl Try.func156 (by kernel_rfl) rfl #[.slice A0 l0.length c0, .int .i64 x10_1] rfl (by (try simp only [List.map_toArray, List.map_cons, List.map_nil]); first | done | rfl | (simp only [List.length_drop, List.length_take]; rfl)) ?_; (with_reducible refine (flyballref01_bit.calls _ _ l0 x10_1 false _ ?side1 ?side2 A5.out).mono ?_); (case side1 => repeat (first | exact (Kd.C_below HR0.out HB.out) | (with_reducible refine Kd.C_alloc ?_ _) | (with_reducible refine Kd.C_drewN ?_ _) | (with_reducible refine Kd.C_drew ?_))); (case side2 => exact HC0.out); rintro e w' ⟨rfl, ⟨nd, rfl⟩⟩; refine ⟨_, rfl, ?_⟩) | ((with_reducible refine gate_callee (f := 156) rfl ?_); refine goesL_ (some 23) rfl rfl Try.func156 (by kernel_rfl) rfl #[.slice A1 l1.length c1, .int .i64 x10_1] rfl (by (try simp only [List.map_toArray, List.map_cons, List.map_nil]); first | done | rfl | (simp only [List.length_drop, List.length_take]; rfl)) ?_; (with_reducible refine (flyballref01_bit.calls _ _ l1 x10_1 false _ ?side1 ?side2 A6.out).mono ?_); (case side1 => repeat (first | exact (Kd.C_below HR1.out zaB) | (with_reducible refine Kd.C_alloc ?_ _) | (with_reducible refine Kd.C_drewN ?_ _) | (with_reducible refine Kd.C_drew ?_))); (case side2 => exact HC1.out); rintro e w' ⟨rfl, ⟨nd, rfl⟩⟩; refine ⟨_, rfl, ?_⟩) | ((with_reducible refine gate_builtin (b := .append) (xs := #[.tmp 24, .tmp 30]) rfl ?_); at_builtin; refine Kd.R_append Kd.bool (w0 := w) w.heap.size rfl (.tmp 24) (.tmp 30) 96 4 (.bool false) 1 rfl Try.underlying96 info4 rfl (by decide) (by omega) u8 x8_1 ((false != false) != false) [.bool ((false != false) != false)] (fun _ => True) (fun _ => False) rfl rfl ?aP (fun _ hk => hk.elim) ?aF ?aO ?aB ?aS ?aL ?_; (case aP => exact rfl); (case aB => exact zaB); (case aF => exact (fun _ _ => trivial)); (case aO => exact (by (with_reducible repeat (first | apply Kd.R_alloc | apply Kd.R_drewN | apply Kd.R_drew)); exact HO_8.out)); (case aS => exact (below_size zaB)); (case aL => have := LMc7.out; omega); intro v390 w16 ho hb hg hat; rw [← Ny389.out] at ho; replace HB := Aside0.mk (hb); have HO391 := Aside0.mk (ho); clear HO_8; clear ho hb hg hat))
        go_roundg k1
        case measure => have := HK1.out; omega
        case rel => exact ⟨(y389), (false), (wrap64 (x10_1 + 1)), (by first | rfl | (simp; done) | (simp [*]; done)), (by first | rfl | (simp; done) | (simp [*]; done)), H', ⟨by have := HK1.out; omega⟩, ⟨by (with_reducible repeat (first | apply Kd.R_alloc | apply Kd.R_drewN | apply Kd.R_drew)); exact HO391.out⟩, ⟨zaB⟩⟩
    ·rw [if_neg c7] at H
     exact absurd H (by simp)
   ·rw [if_neg c4] at H
    have c4b0 : decide (x10_1 < a2) = false := decide_eq_false c4
    clear c4
    simp only [Option.some.injEq, Prod.mk.injEq] at H
    obtain ⟨rfl, rfl⟩ := H
    go_wp2
    go_ret2
    exact ⟨_, zaE, by (with_reducible repeat (first | apply Kd.R_alloc | apply Kd.R_drewN | apply Kd.R_drew)); exact HO_8.out, zaB⟩
end Go.Proofs.Ytmadjhmecfbcmaa.F
end
section
namespace Go.Proofs.Ytmadjhmecfbcmaa.F
open Go.RowKit Go.Proofs.YtmadjhmecfbcmaaW.PrintWords Go.Proofs.YtmadjhmecfbcmaaW.PrintLast Go.Proofs.YtmadjhmecfbcmaaW.PrintMore
attribute [local go_sem] max2_int min2_int max_two min_two max_three min_three max_four min_four
set_option linter.unusedVariables false
set_option linter.unusedSimpArgs false
set_option maxHeartbeats 8000000 in
set_option maxRecDepth 100000 in
theorem flyballref01_Sqrt.calls (k : Nat) (A0 : Option Addr) (c0 : Nat) (l0 : List Bool) (r1 : List Bool) (r2 : List Bool) (w : World) (hr0 : Kd.C Kd.bool w A0 l0.length l0) (hc0 : l0.length ≤ c0) (h : flyballref01_Sqrt.f k l0 = some (r1, r2)) :
  Calls Try.prog 108 #[.slice A0 l0.length c0] w fun e w' => ∃ v0_ v1_ : Value, e = .returned (.tuple #[v0_, v1_]) ∧ Kd.R Kd.bool 4 w' w.heap.size (fun k_ => some k_ ≠ (v1_ : Value).ownBlock) v0_ r1 ∧ Kd.R Kd.bool 4 w' w.heap.size (fun k_ => some k_ ≠ (v0_ : Value).ownBlock) v1_ r2 ∧ Below w.heap.size w w' := by
 have HR0 := Aside0.mk hr0
 have HC0 := Aside0.mk hc0
 clear hr0 hc0
 have HB := Aside0.mk (Below.refl w.heap.size w)
 have H : (if 64 ≤ 281474976710656 then (flyballref01_Sqrt.l0 k l0 (List.replicate 64 false) 63) else (none)) = some (r1, r2) := h
 clear h
 by_cases c2 : 64 ≤ 281474976710656
 ·rw [if_pos c2] at H
  have c2b0 := eq_true c2
  have c2b1 : decide (64 ≤ 281474976710656) = true := decide_eq_true c2
  clear c2
  obtain ⟨y613, hy613⟩ : ∃ y_ : List Bool, y_ = (List.replicate 64 false) := ⟨_, rfl⟩
  replace H : (flyballref01_Sqrt.l0 k l0 y613 63) = some (r1, r2) := by first | (rw [hy613]; with_reducible exact H) | (have H2_ := (Option.bind_some _ _).symm.trans H; rw [hy613]; with_reducible exact H2_) | (have H2_ := (Option.bind_some _ _).symm.trans H; with_reducible exact H2_) | with_reducible exact H | (rw [hy613]; exact H) | exact H
  have Ny613 := Aside0.mk hy613
  clear hy613
  have H' := Aside0.mk H
  clear H
  go_enter Try.func108, Try.ntmps108
  go_wp2_with (first | ((with_reducible refine gate_dst (N := 8) rfl ?_); refine Kd.R_make Kd.bool _ 4 rfl (N := 8) rfl 96 _ _ rfl 64 rfl rfl Try.underlying96 (.bool false) 1 info4 rfl (by decide) (by omega) false (ok := fun _ => True) (okp := fun _ => True) rfl (fun _ hk => hk) trivial (by omega) (by omega) (Below.refl _ _) (Nat.le_refl _) ?_; intro v614 w3 ho4 hb hg_ hnew_; clear hg_ hnew_; (first | rw [← Ny613.out] at ho4 | (simp only [Int.reduceToNat] at ho4; rw [← Ny613.out] at ho4)); have HO615 := Aside0.mk (Kd.R_lower ho4 (below_size zaB)); replace HB := Aside0.mk (below_step zaB hb); clear hb ho4))
  (try simp only [Act.put, List.setIfInBounds_toArray, List.set_cons_zero, List.set_cons_succ])
  go_loopg [5] k (fun kq v5 w' => ∃ (x4_1 : List Bool) (x5_1 : Int), v5 = .int .i64 x5_1 ∧ Aside0 (flyballref01_Sqrt.l0 kq l0 x4_1 x5_1 = some (r1, r2)) ∧ Aside0 (kq ≤ k) ∧ Aside0 (Kd.R Kd.bool 4 w' w.heap.size (fun _ => True) v614 x4_1) ∧ Aside0 (Below w.heap.size w w'))
  case atStart => exact ⟨(y613), (63), (by first | rfl | (simp; done) | (simp [*]; done)), H', ⟨Nat.le_refl _⟩, ⟨by (with_reducible repeat (first | apply Kd.R_alloc | apply Kd.R_drewN | apply Kd.R_drew)); exact HO615.out⟩, ⟨zaB⟩⟩
  case round =>
   clear H'
   try clear c1
   try clear c2
   try clear c2b0
   try clear c2b1
   try clear p2
   obtain ⟨x4_1, x5_1, rfl, HA, HK1, HO_4, HB⟩ := hrel
   cases gk with
   | zero => exact absurd HA.out (by simp [flyballref01_Sqrt.l0])
   | succ k1 =>
    have H := HA.out
    clear HA
    simp only [flyballref01_Sqrt.l0] at H
    by_cases c5 : x5_1 ≥ 0
    ·rw [if_pos c5] at H
     have c5b0 : decide (0 ≤ x5_1) = true := decide_eq_true c5
     clear c5
     by_cases c6 : 0 ≤ x5_1
     ·rw [if_pos c6] at H
      have c6b0 : decide (0 ≤ x5_1) = true := decide_eq_true c6
      clear c6
      by_cases c7 : x5_1 < (x4_1.length : Int)
      ·rw [if_pos c7] at H
       have c7b0 : decide (x5_1 < (x4_1.length : Int)) = true := decide_eq_true c7
       clear c7
       obtain ⟨y623, hy623⟩ : ∃ y_ : List Bool, y_ = (x4_1.set (x5_1 : Int).toNat true) := ⟨_, rfl⟩
       replace H : ((flyballref01_Mul.f k1 y623 y623).bind fun t624 => ((flyballref01_Cmp.f k1 t624 l0).bind fun t627 => (if t627 > 0 then (flyballref01_Sqrt.l0 k1 l0 (y623.set (x5_1 : Int).toNat false) (wrap64 (x5_1 - 1))) else (flyballref01_Sqrt.l0 k1 l0 y623 (wrap64 (x5_1 - 1)))))) = some (r1, r2) := by first | (rw [hy623]; with_reducible exact H) | (have H2_ := (Option.bind_some _ _).symm.trans H; rw [hy623]; with_reducible exact H2_) | (have H2_ := (Option.bind_some _ _).symm.trans H; with_reducible exact H2_) | with_reducible exact H | (rw [hy623]; exact H) | exact H
       have Ny623 := Aside0.mk hy623
       clear hy623
       obtain ⟨t624, A9, H⟩ := zbs H
       try dsimp only at H
       obtain ⟨t627, A10, H⟩ := zbs H
       try dsimp only at H
       by_cases c11 : t627 > 0
       ·rw [if_pos c11] at H
        have c11b0 : decide (0 < t627) = true := decide_eq_true c11
        clear c11
        obtain ⟨y628, hy628⟩ : ∃ y_ : List Bool, y_ = (y623.set (x5_1 : Int).toNat false) := ⟨_, rfl⟩
        replace H : (flyballref01_Sqrt.l0 k1 l0 y628 (wrap64 (x5_1 - 1))) = some (r1, r2) := by first | (rw [hy628]; with_reducible exact H) | (have H2_ := (Option.bind_some _ _).symm.trans H; rw [hy628]; with_reducible exact H2_) | (have H2_ := (Option.bind_some _ _).symm.trans H; with_reducible exact H2_) | with_reducible exact H | (rw [hy628]; exact H) | exact H
        have Ny628 := Aside0.mk hy628
        clear hy628
        have H' := Aside0.mk H
        clear H
        have p8 : 0 ≤ (x5_1 : Int) := of_decide_eq_true (by first | (with_reducible assumption) | assumption)
        have q8 : (x5_1 : Int) < ((x4_1.length : Int) : Int) := of_decide_eq_true (by first | (with_reducible assumption) | assumption)
        obtain ⟨go8, co8, eo8, gb8, gl8, cl8, HG8⟩ := Kd.R_form HO_4.out (by omega)
        (first | cases eo8 | (injection eo8 with ea_ en_ ec_; (first | subst ea_ | (injection ea_ with ea_; subst ea_)); subst ec_; clear en_))
        have GB8 := Aside0.mk gb8
        have GG8 := Aside0.mk HG8
        clear gb8 gl8 HG8
        obtain ⟨hx8_0, hf8_0⟩ := Kd.R_celln false HO_4.out (x5_1 : Int) p8 q8
        replace p8 := eq_true p8
        replace q8 := eq_true q8
        have HP13 := Kd.R_putg HO_4.out (x5_1 : Int) true
        go_wp2_with (first | ((with_reducible refine gate_store (t := 4) (p := 15) rfl ?_); refine store_event (t := 4) (p := 15) (v := ?vo_w14) (w1 := (wr.setCell ⟨go8, (x5_1 : Int).toNat, none⟩ (.bool true))) ?hg ?ho ?hn ?hr ?_; (case ho => rfl); (case hg => rfl); (case hn => rfl); (case hr => first | (go_simp; done) | (go_simp; rfl)); intro w14 hw; have hg : wr.grownBy w14 (some go8) := (by rw [hw]; exact HP13.2); have hp_ : Kd.R Kd.bool 4 w14 w.heap.size (fun _ => True) (.slice (some ⟨go8, 0, none⟩) x4_1.length co8) y623 := (by rw [hw, Ny623.out]; exact HP13.1); clear HP13; replace HO_4 := Aside0.mk (hp_); replace HB := Aside0.mk ((by rw [hw]; exact below_set (HB.out) GB8.out : Below w.heap.size w w14)); clear hg hw hp_) | ((with_reducible refine gate_callee (f := 102) rfl ?_); refine goesL_ (some 18) rfl rfl Try.func102 (by kernel_rfl) rfl #[.slice (some ⟨go8, 0, none⟩) y623.length co8, .slice (some ⟨go8, 0, none⟩) y623.length co8] rfl (by (try simp only [List.map_toArray, List.map_cons, List.map_nil]); first | done | (rw [show y623.length = x4_1.length from (Kd.R_reads' HO_4.out).1.symm] <;> rfl) | rfl | (simp only [List.length_drop, List.length_take]; rfl)) ?_; (with_reducible refine (flyballref01_Mul.calls k1 _ _ y623 _ _ y623 t624 _ ?side1 ?side2 ?side3 ?side4 A9.out).mono ?_); (case side1 => repeat (first | exact (Kd.R_reads' HO_4.out).2.2 | (with_reducible refine Kd.C_alloc ?_ _) | (with_reducible refine Kd.C_drewN ?_ _) | (with_reducible refine Kd.C_drew ?_))); (case side2 => rw [show y623.length = x4_1.length from (Kd.R_reads' HO_4.out).1.symm]; exact (Kd.R_reads' HO_4.out).2.1); (case side3 => repeat (first | exact (Kd.R_reads' HO_4.out).2.2 | (with_reducible refine Kd.C_alloc ?_ _) | (with_reducible refine Kd.C_drewN ?_ _) | (with_reducible refine Kd.C_drew ?_))); (case side4 => rw [show y623.length = x4_1.length from (Kd.R_reads' HO_4.out).1.symm]; exact (Kd.R_reads' HO_4.out).2.1); rintro e w15 ⟨v625, rfl, ho0, hb⟩; refine ⟨_, rfl, ?_⟩; have HO626 := Aside0.mk (Kd.R_lower (Kd.R_new' ho0 (Kd.R_lt (by (with_reducible repeat (first | apply Kd.R_alloc | apply Kd.R_drewN | apply Kd.R_drew)); exact HO_4.out))) (below_size zaB)); replace HO_4 := Aside0.mk (Kd.R_elder' (by (with_reducible repeat (first | apply Kd.R_alloc | apply Kd.R_drewN | apply Kd.R_drew)); exact HO_4.out) (Kd.R_base ho0) hb); replace HB := Aside0.mk (below_step zaB hb); (try clear hb); (try clear hk); (try clear ho0); obtain ⟨Ao16, co16, eo16⟩ := Kd.R_slice HO626.out; subst eo16) | ((with_reducible refine gate_callee (f := 93) rfl ?_); refine goesL_ (some 20) rfl rfl Try.func93 (by kernel_rfl) rfl #[.slice Ao16 t624.length co16, .slice A0 l0.length c0] rfl (by (try simp only [List.map_toArray, List.map_cons, List.map_nil]); first | done | rfl | (simp only [List.length_drop, List.length_take]; rfl)) ?_; (with_reducible refine (flyballref01_Cmp.calls k1 _ _ t624 _ _ l0 t627 _ ?side1 ?side2 ?side3 ?side4 A10.out).mono ?_); (case side1 => repeat (first | exact (Kd.R_reads' HO626.out).2.2 | (with_reducible refine Kd.C_alloc ?_ _) | (with_reducible refine Kd.C_drewN ?_ _) | (with_reducible refine Kd.C_drew ?_))); (case side2 => exact (Kd.R_reads' HO626.out).2.1); (case side3 => repeat (first | exact (Kd.C_below HR0.out HB.out) | (with_reducible refine Kd.C_alloc ?_ _) | (with_reducible refine Kd.C_drewN ?_ _) | (with_reducible refine Kd.C_drew ?_))); (case side4 => exact HC0.out); rintro e w17 ⟨rfl, hb⟩; refine ⟨_, rfl, ?_⟩; replace HO_4 := Aside0.mk (Kd.R_below (by (with_reducible repeat (first | apply Kd.R_alloc | apply Kd.R_drewN | apply Kd.R_drew)); exact HO_4.out) hb); replace HO626 := Aside0.mk (Kd.R_below (by (with_reducible repeat (first | apply Kd.R_alloc | apply Kd.R_drewN | apply Kd.R_drew)); exact HO626.out) hb); replace HB := Aside0.mk (below_step zaB hb); (try clear hb); (try clear hk); have p12 : 0 ≤ (x5_1 : Int) := of_decide_eq_true (by first | (with_reducible assumption) | assumption); have q12 : (x5_1 : Int) < ((x4_1.length : Int) : Int) := of_decide_eq_true (by first | (with_reducible assumption) | assumption); obtain ⟨hx12_0, hf12_0⟩ := Kd.R_celln false HO_4.out (x5_1 : Int) p12 q12; replace p12 := eq_true p12; replace q12 := eq_true q12; have n_ := Aside0.mk (Kd.R_mono (ok' := (fun k_ => some k_ ≠ (.slice Ao16 t624.length co16 : Value).ownBlock)) HO_4.out (fun k_ hk => hk.2)); clear HO_4; have HO_4 := n_; clear n_; obtain ⟨hy18_, hz18_⟩ := Kd.R_celln false HO_4.out (x5_1 : Int) (of_decide_eq_true (by first | (with_reducible assumption) | assumption)) (of_decide_eq_true (by first | (with_reducible assumption) | assumption)); have HP18 := Kd.R_putg HO_4.out (x5_1 : Int) false) | ((with_reducible refine gate_store (t := 4) (p := 24) rfl ?_); refine store_event (t := 4) (p := 24) (v := ?vo_w19) (w1 := (w17.setCell ⟨go8, (x5_1 : Int).toNat, none⟩ (.bool false))) ?hg ?ho ?hn ?hr ?_; (case ho => rfl); (case hg => rfl); (case hn => rfl); (case hr => first | (go_simp; done) | (go_simp; rfl)); intro w19 hw; have hg : w17.grownBy w19 (some go8) := (by rw [hw]; exact HP18.2); have hp_ : Kd.R Kd.bool 4 w19 w.heap.size (fun k_ => some k_ ≠ (.slice Ao16 t624.length co16 : Value).ownBlock) (.slice (some ⟨go8, 0, none⟩) x4_1.length co8) y628 := (by rw [hw, Ny628.out]; exact HP18.1); clear HP18; replace HO_4 := Aside0.mk (hp_); replace HO626 := Aside0.mk (Kd.R_after (v := (.slice (some ⟨go8, 0, none⟩) x4_1.length co8)) (v1 := (.slice (some ⟨go8, 0, none⟩) x4_1.length co8)) (ok := (fun _ => True)) (by (with_reducible repeat (first | apply Kd.R_alloc | apply Kd.R_drewN | apply Kd.R_drew)); exact HO626.out) hg (.inl rfl)); replace HB := Aside0.mk ((by rw [hw]; exact below_set (HB.out) GB8.out : Below w.heap.size w w19)); clear hg hw hp_))
        go_roundg k1
        case measure => have := HK1.out; omega
        case rel => exact ⟨(y628), (wrap64 (x5_1 - 1)), (by first | rfl | (simp; done) | (simp [*]; done)), H', ⟨by have := HK1.out; omega⟩, ⟨by (with_reducible repeat (first | apply Kd.R_alloc | apply Kd.R_drewN | apply Kd.R_drew)); exact Kd.R_mono HO_4.out (fun _ hk => trivial)⟩, ⟨zaB⟩⟩
       ·rw [if_neg c11] at H
        have c11b0 : decide (0 < t627) = false := decide_eq_false c11
        clear c11
        have H' := Aside0.mk H
        clear H
        have p8 : 0 ≤ (x5_1 : Int) := of_decide_eq_true (by first | (with_reducible assumption) | assumption)
        have q8 : (x5_1 : Int) < ((x4_1.length : Int) : Int) := of_decide_eq_true (by first | (with_reducible assumption) | assumption)
        obtain ⟨go8, co8, eo8, gb8, gl8, cl8, HG8⟩ := Kd.R_form HO_4.out (by omega)
        (first | cases eo8 | (injection eo8 with ea_ en_ ec_; (first | subst ea_ | (injection ea_ with ea_; subst ea_)); subst ec_; clear en_))
        have GB8 := Aside0.mk gb8
        have GG8 := Aside0.mk HG8
        clear gb8 gl8 HG8
        obtain ⟨hx8_0, hf8_0⟩ := Kd.R_celln false HO_4.out (x5_1 : Int) p8 q8
        replace p8 := eq_true p8
        replace q8 := eq_true q8
        have HP20 := Kd.R_putg HO_4.out (x5_1 : Int) true
        go_wp2_with (first | ((with_reducible refine gate_store (t := 4) (p := 15) rfl ?_); refine store_event (t := 4) (p := 15) (v := ?vo_w21) (w1 := (wr.setCell ⟨go8, (x5_1 : Int).toNat, none⟩ (.bool true))) ?hg ?ho ?hn ?hr ?_; (case ho => rfl); (case hg => rfl); (case hn => rfl); (case hr => first | (go_simp; done) | (go_simp; rfl)); intro w21 hw; have hg : wr.grownBy w21 (some go8) := (by rw [hw]; exact HP20.2); have hp_ : Kd.R Kd.bool 4 w21 w.heap.size (fun _ => True) (.slice (some ⟨go8, 0, none⟩) x4_1.length co8) y623 := (by rw [hw, Ny623.out]; exact HP20.1); clear HP20; replace HO_4 := Aside0.mk (hp_); replace HB := Aside0.mk ((by rw [hw]; exact below_set (HB.out) GB8.out : Below w.heap.size w w21)); clear hg hw hp_) | ((with_reducible refine gate_callee (f := 102) rfl ?_); refine goesL_ (some 18) rfl rfl Try.func102 (by kernel_rfl) rfl #[.slice (some ⟨go8, 0, none⟩) y623.length co8, .slice (some ⟨go8, 0, none⟩) y623.length co8] rfl (by (try simp only [List.map_toArray, List.map_cons, List.map_nil]); first | done | (rw [show y623.length = x4_1.length from (Kd.R_reads' HO_4.out).1.symm] <;> rfl) | rfl | (simp only [List.length_drop, List.length_take]; rfl)) ?_; (with_reducible refine (flyballref01_Mul.calls k1 _ _ y623 _ _ y623 t624 _ ?side1 ?side2 ?side3 ?side4 A9.out).mono ?_); (case side1 => repeat (first | exact (Kd.R_reads' HO_4.out).2.2 | (with_reducible refine Kd.C_alloc ?_ _) | (with_reducible refine Kd.C_drewN ?_ _) | (with_reducible refine Kd.C_drew ?_))); (case side2 => rw [show y623.length = x4_1.length from (Kd.R_reads' HO_4.out).1.symm]; exact (Kd.R_reads' HO_4.out).2.1); (case side3 => repeat (first | exact (Kd.R_reads' HO_4.out).2.2 | (with_reducible refine Kd.C_alloc ?_ _) | (with_reducible refine Kd.C_drewN ?_ _) | (with_reducible refine Kd.C_drew ?_))); (case side4 => rw [show y623.length = x4_1.length from (Kd.R_reads' HO_4.out).1.symm]; exact (Kd.R_reads' HO_4.out).2.1); rintro e w22 ⟨v625, rfl, ho0, hb⟩; refine ⟨_, rfl, ?_⟩; have HO626 := Aside0.mk (Kd.R_lower (Kd.R_new' ho0 (Kd.R_lt (by (with_reducible repeat (first | apply Kd.R_alloc | apply Kd.R_drewN | apply Kd.R_drew)); exact HO_4.out))) (below_size zaB)); replace HO_4 := Aside0.mk (Kd.R_elder' (by (with_reducible repeat (first | apply Kd.R_alloc | apply Kd.R_drewN | apply Kd.R_drew)); exact HO_4.out) (Kd.R_base ho0) hb); replace HB := Aside0.mk (below_step zaB hb); (try clear hb); (try clear hk); (try clear ho0); obtain ⟨Ao23, co23, eo23⟩ := Kd.R_slice HO626.out; subst eo23) | ((with_reducible refine gate_callee (f := 93) rfl ?_); refine goesL_ (some 20) rfl rfl Try.func93 (by kernel_rfl) rfl #[.slice Ao23 t624.length co23, .slice A0 l0.length c0] rfl (by (try simp only [List.map_toArray, List.map_cons, List.map_nil]); first | done | rfl | (simp only [List.length_drop, List.length_take]; rfl)) ?_; (with_reducible refine (flyballref01_Cmp.calls k1 _ _ t624 _ _ l0 t627 _ ?side1 ?side2 ?side3 ?side4 A10.out).mono ?_); (case side1 => repeat (first | exact (Kd.R_reads' HO626.out).2.2 | (with_reducible refine Kd.C_alloc ?_ _) | (with_reducible refine Kd.C_drewN ?_ _) | (with_reducible refine Kd.C_drew ?_))); (case side2 => exact (Kd.R_reads' HO626.out).2.1); (case side3 => repeat (first | exact (Kd.C_below HR0.out HB.out) | (with_reducible refine Kd.C_alloc ?_ _) | (with_reducible refine Kd.C_drewN ?_ _) | (with_reducible refine Kd.C_drew ?_))); (case side4 => exact HC0.out); rintro e w24 ⟨rfl, hb⟩; refine ⟨_, rfl, ?_⟩; replace HO_4 := Aside0.mk (Kd.R_below (by (with_reducible repeat (first | apply Kd.R_alloc | apply Kd.R_drewN | apply Kd.R_drew)); exact HO_4.out) hb); replace HO626 := Aside0.mk (Kd.R_below (by (with_reducible repeat (first | apply Kd.R_alloc | apply Kd.R_drewN | apply Kd.R_drew)); exact HO626.out) hb); replace HB := Aside0.mk (below_step zaB hb); (try clear hb); (try clear hk)))
        go_roundg k1
        case measure => have := HK1.out; omega
        case rel => exact ⟨(y623), (wrap64 (x5_1 - 1)), (by first | rfl | (simp; done) | (simp [*]; done)), H', ⟨by have := HK1.out; omega⟩, ⟨by (with_reducible repeat (first | apply Kd.R_alloc | apply Kd.R_drewN | apply Kd.R_drew)); exact Kd.R_mono HO_4.out (fun _ hk => trivial)⟩, ⟨zaB⟩⟩
      ·rw [if_neg c7] at H
       exact absurd H (by simp)
     ·rw [if_neg c6] at H
      exact absurd H (by simp)
    ·rw [if_neg c5] at H
     have c5b0 : decide (0 ≤ x5_1) = false := decide_eq_false c5
     clear c5
     obtain ⟨t616, A25, H⟩ := zbs H
     try dsimp only at H
     obtain ⟨⟨t619, t620⟩, A26, H⟩ := zbs H
     try dsimp only at H
     simp only [Option.some.injEq, Prod.mk.injEq] at H
     obtain ⟨rfl, rfl⟩ := H
     obtain ⟨Ao27, co27, eo27⟩ := Kd.R_slice HO_4.out
     subst eo27
     go_wp2_with (first | ((with_reducible refine gate_callee (f := 102) rfl ?_); refine goesL_ (some 29) rfl rfl Try.func102 (by kernel_rfl) rfl #[.slice Ao27 x4_1.length co27, .slice Ao27 x4_1.length co27] rfl (by (try simp only [List.map_toArray, List.map_cons, List.map_nil]); first | done | rfl | (simp only [List.length_drop, List.length_take]; rfl)) ?_; (with_reducible refine (flyballref01_Mul.calls k1 _ _ x4_1 _ _ x4_1 t616 _ ?side1 ?side2 ?side3 ?side4 A25.out).mono ?_); (case side1 => repeat (first | exact (Kd.R_reads' HO_4.out).2.2 | (with_reducible refine Kd.C_alloc ?_ _) | (with_reducible refine Kd.C_drewN ?_ _) | (with_reducible refine Kd.C_drew ?_))); (case side2 => exact (Kd.R_reads' HO_4.out).2.1); (case side3 => repeat (first | exact (Kd.R_reads' HO_4.out).2.2 | (with_reducible refine Kd.C_alloc ?_ _) | (with_reducible refine Kd.C_drewN ?_ _) | (with_reducible refine Kd.C_drew ?_))); (case side4 => exact (Kd.R_reads' HO_4.out).2.1); rintro e w28 ⟨v617, rfl, ho0, hb⟩; refine ⟨_, rfl, ?_⟩; have HO618 := Aside0.mk (Kd.R_lower (Kd.R_new' ho0 (Kd.R_lt (by (with_reducible repeat (first | apply Kd.R_alloc | apply Kd.R_drewN | apply Kd.R_drew)); exact HO_4.out))) (below_size zaB)); replace HO_4 := Aside0.mk (Kd.R_elder' (by (with_reducible repeat (first | apply Kd.R_alloc | apply Kd.R_drewN | apply Kd.R_drew)); exact HO_4.out) (Kd.R_base ho0) hb); replace HB := Aside0.mk (below_step zaB hb); (try clear hb); (try clear hk); (try clear ho0); obtain ⟨Ao29, co29, eo29⟩ := Kd.R_slice HO618.out; subst eo29) | ((with_reducible refine gate_callee (f := 94) rfl ?_); refine goesL_ (some 32) rfl rfl Try.func94 (by kernel_rfl) rfl #[.slice A0 l0.length c0, .slice Ao29 t616.length co29, .int .i64 (l0.length : Int)] rfl (by (try simp only [List.map_toArray, List.map_cons, List.map_nil]); first | done | rfl | (simp only [List.length_drop, List.length_take]; rfl)) ?_; (with_reducible refine (flyballref01_Sub.calls k1 _ _ l0 _ _ t616 (l0.length : Int) t619 t620 _ ?side1 ?side2 ?side3 ?side4 A26.out).mono ?_); (case side1 => repeat (first | exact (Kd.C_below HR0.out HB.out) | (with_reducible refine Kd.C_alloc ?_ _) | (with_reducible refine Kd.C_drewN ?_ _) | (with_reducible refine Kd.C_drew ?_))); (case side2 => exact HC0.out); (case side3 => repeat (first | exact (Kd.R_reads' HO618.out).2.2 | (with_reducible refine Kd.C_alloc ?_ _) | (with_reducible refine Kd.C_drewN ?_ _) | (with_reducible refine Kd.C_drew ?_))); (case side4 => exact (Kd.R_reads' HO618.out).2.1); rintro e w30 ⟨v621, rfl, ho0, hb⟩; refine ⟨_, rfl, ?_⟩; have HO622 := Aside0.mk (Kd.R_lower (Kd.R_new' (Kd.R_new' ho0 (Kd.R_lt (by (with_reducible repeat (first | apply Kd.R_alloc | apply Kd.R_drewN | apply Kd.R_drew)); exact HO_4.out))) (Kd.R_lt (by (with_reducible repeat (first | apply Kd.R_alloc | apply Kd.R_drewN | apply Kd.R_drew)); exact HO618.out))) (below_size zaB)); replace HO_4 := Aside0.mk (Kd.R_elder' (by (with_reducible repeat (first | apply Kd.R_alloc | apply Kd.R_drewN | apply Kd.R_drew)); exact HO_4.out) (Kd.R_base ho0) hb); replace HO618 := Aside0.mk (Kd.R_elder' (by (with_reducible repeat (first | apply Kd.R_alloc | apply Kd.R_drewN | apply Kd.R_drew)); exact HO618.out) (Kd.R_base ho0) hb); replace HB := Aside0.mk (below_step zaB hb); (try clear hb); (try clear hk); (try clear ho0)))
     go_ret2
     exact ⟨_, _, zaE, by (with_reducible repeat (first | apply Kd.R_alloc | apply Kd.R_drewN | apply Kd.R_drew)); exact Kd.R_mono HO_4.out (fun _ hk => hk.2), by (with_reducible repeat (first | apply Kd.R_alloc | apply Kd.R_drewN | apply Kd.R_drew)); exact Kd.R_mono HO622.out (fun _ hk => hk.1.2), zaB⟩
 ·rw [if_neg c2] at H
  exact absurd H (by simp)
end Go.Proofs.Ytmadjhmecfbcmaa.F
end
section
namespace Go.Proofs.Ytmadjhmecfbcmaa.F
open Go.RowKit Go.Proofs.YtmadjhmecfbcmaaW.PrintWords Go.Proofs.YtmadjhmecfbcmaaW.PrintLast Go.Proofs.YtmadjhmecfbcmaaW.PrintMore
attribute [local go_sem] max2_int min2_int max_two min_two max_three min_three max_four min_four
set_option linter.unusedVariables false
set_option linter.unusedSimpArgs false
set_option maxHeartbeats 8000000 in
set_option maxRecDepth 100000 in
theorem flyballref06_Sqrt.calls (k : Nat) (a0 : Int) (a1 : Int) (r1 : Int) (r2 : Int) (w : World) (h : flyballref06_Sqrt.f k a0 a1 = some (r1, r2)) :
  Calls Try.prog 30 #[.int .u64 a0, .int .u8 a1] w fun e w' => e = .returned (.tuple #[.int .u64 r1, .int .u8 r2]) ∧ Below w.heap.size w w' := by
 have HB := Aside0.mk (Below.refl w.heap.size w)
 have H : ((flyballref06_is.f k a0 4).bind fun t629 => (if t629 = true then (some (9221120237041090560, 0)) else ((flyballref06_is.f k a0 0).bind fun t630 => (if t630 = true then (some (a0, 0)) else ((flyballref06_neg.f a0).bind fun t631 => (if t631 = true then (some (9221120237041090560, 16)) else ((flyballref06_is.f k a0 3).bind fun t632 => (if t632 = true then (some (a0, 0)) else ((flyballref04_Split.f k a0).bind fun bt633 => ((flyballref06_bits.f k bt633.1).bind fun t635 => ((flyballref01_Len.f k t635).bind fun t638 => (if (Int.tmod (wrap64 (bt633.2 - (wrap64 (126 - t638)))) 2) = 0 then (flyballref06_Sqrt.j0 k a1 bt633.1 bt633.2 (wrap64 (126 - t638))) else (flyballref06_Sqrt.j0 k a1 bt633.1 bt633.2 (wrap64 ((wrap64 (126 - t638)) + 1))))))))))))))) = some (r1, r2) := h
 clear h
 obtain ⟨t629, A3, H⟩ := zbs H
 try dsimp only at H
 by_cases c4 : t629 = true
 ·subst c4
  have H1 : (some (9221120237041090560, 0)) = some (r1, r2) := by rw [if_pos rfl] at H; exact H
  clear H
  have H := H1
  clear H1
  simp only [Option.some.injEq, Prod.mk.injEq] at H
  obtain ⟨rfl, rfl⟩ := H
  go_enter Try.func30, Try.ntmps30
  go_wp2_with (first | ((with_reducible refine gate_callee (f := 87) rfl ?_); refine zgL 12 Try.func87 (flyballref06_is.calls k a0 4 true _ A3.out) (h := ?_); rintro w' ⟨nd, rfl⟩))
  go_ret2
  exact ⟨zaE, zaB⟩
 ·replace c4 := Bool.eq_false_iff.mpr c4
  subst c4
  have H1 : ((flyballref06_is.f k a0 0).bind fun t630 => (if t630 = true then (some (a0, 0)) else ((flyballref06_neg.f a0).bind fun t631 => (if t631 = true then (some (9221120237041090560, 16)) else ((flyballref06_is.f k a0 3).bind fun t632 => (if t632 = true then (some (a0, 0)) else ((flyballref04_Split.f k a0).bind fun bt633 => ((flyballref06_bits.f k bt633.1).bind fun t635 => ((flyballref01_Len.f k t635).bind fun t638 => (if (Int.tmod (wrap64 (bt633.2 - (wrap64 (126 - t638)))) 2) = 0 then (flyballref06_Sqrt.j0 k a1 bt633.1 bt633.2 (wrap64 (126 - t638))) else (flyballref06_Sqrt.j0 k a1 bt633.1 bt633.2 (wrap64 ((wrap64 (126 - t638)) + 1))))))))))))) = some (r1, r2) := by rw [if_neg (show ¬ (false = true) by decide)] at H; exact H
  clear H
  have H := H1
  clear H1
  obtain ⟨t630, A5, H⟩ := zbs H
  try dsimp only at H
  by_cases c6 : t630 = true
  ·subst c6
   have H1 : (some (a0, 0)) = some (r1, r2) := by rw [if_pos rfl] at H; exact H
   clear H
   have H := H1
   clear H1
   simp only [Option.some.injEq, Prod.mk.injEq] at H
   obtain ⟨rfl, rfl⟩ := H
   go_enter Try.func30, Try.ntmps30
   go_wp2_with (first | ((with_reducible refine gate_callee (f := 87) rfl ?_); refine zgL 12 Try.func87 (flyballref06_is.calls k a0 4 false _ A3.out) (h := ?_); rintro w' ⟨nd, rfl⟩) | ((with_reducible refine gate_callee (f := 87) rfl ?_); refine zgL 14 Try.func87 (flyballref06_is.calls k a0 0 true _ A5.out) (h := ?_); rintro w' ⟨nd, rfl⟩))
   go_ret2
   exact ⟨zaE, zaB⟩
  ·replace c6 := Bool.eq_false_iff.mpr c6
   subst c6
   have H1 : ((flyballref06_neg.f a0).bind fun t631 => (if t631 = true then (some (9221120237041090560, 16)) else ((flyballref06_is.f k a0 3).bind fun t632 => (if t632 = true then (some (a0, 0)) else ((flyballref04_Split.f k a0).bind fun bt633 => ((flyballref06_bits.f k bt633.1).bind fun t635 => ((flyballref01_Len.f k t635).bind fun t638 => (if (Int.tmod (wrap64 (bt633.2 - (wrap64 (126 - t638)))) 2) = 0 then (flyballref06_Sqrt.j0 k a1 bt633.1 bt633.2 (wrap64 (126 - t638))) else (flyballref06_Sqrt.j0 k a1 bt633.1 bt633.2 (wrap64 ((wrap64 (126 - t638)) + 1))))))))))) = some (r1, r2) := by rw [if_neg (show ¬ (false = true) by decide)] at H; exact H
   clear H
   have H := H1
   clear H1
   obtain ⟨t631, A7, H⟩ := zbs H
   try dsimp only at H
   by_cases c8 : t631 = true
   ·subst c8
    have H1 : (some (9221120237041090560, 16)) = some (r1, r2) := by rw [if_pos rfl] at H; exact H
    clear H
    have H := H1
    clear H1
    simp only [Option.some.injEq, Prod.mk.injEq] at H
    obtain ⟨rfl, rfl⟩ := H
    go_enter Try.func30, Try.ntmps30
    go_wp2_with (first | ((with_reducible refine gate_callee (f := 87) rfl ?_); refine zgL 12 Try.func87 (flyballref06_is.calls k a0 4 false _ A3.out) (h := ?_); rintro w' ⟨nd, rfl⟩) | ((with_reducible refine gate_callee (f := 87) rfl ?_); refine zgL 14 Try.func87 (flyballref06_is.calls k a0 0 false _ A5.out) (h := ?_); rintro w' ⟨nd, rfl⟩) | ((with_reducible refine gate_callee (f := 88) rfl ?_); refine zgL 17 Try.func88 (flyballref06_neg.calls a0 true _ A7.out) (h := ?_); rintro w' ⟨nd, rfl⟩))
    go_ret2
    exact ⟨zaE, zaB⟩
   ·replace c8 := Bool.eq_false_iff.mpr c8
    subst c8
    have H1 : ((flyballref06_is.f k a0 3).bind fun t632 => (if t632 = true then (some (a0, 0)) else ((flyballref04_Split.f k a0).bind fun bt633 => ((flyballref06_bits.f k bt633.1).bind fun t635 => ((flyballref01_Len.f k t635).bind fun t638 => (if (Int.tmod (wrap64 (bt633.2 - (wrap64 (126 - t638)))) 2) = 0 then (flyballref06_Sqrt.j0 k a1 bt633.1 bt633.2 (wrap64 (126 - t638))) else (flyballref06_Sqrt.j0 k a1 bt633.1 bt633.2 (wrap64 ((wrap64 (126 - t638)) + 1))))))))) = some (r1, r2) := by rw [if_neg (show ¬ (false = true) by decide)] at H; exact H
    clear H
    have H := H1
    clear H1
    obtain ⟨t632, A9, H⟩ := zbs H
    try dsimp only at H
    by_cases c10 : t632 = true
    ·subst c10
     have H1 : (some (a0, 0)) = some (r1, r2) := by rw [if_pos rfl] at H; exact H
     clear H
     have H := H1
     clear H1
     simp only [Option.some.injEq, Prod.mk.injEq] at H
     obtain ⟨rfl, rfl⟩ := H
     go_enter Try.func30, Try.ntmps30
     go_wp2_with (first | ((with_reducible refine gate_callee (f := 87) rfl ?_); refine zgL 12 Try.func87 (flyballref06_is.calls k a0 4 false _ A3.out) (h := ?_); rintro w' ⟨nd, rfl⟩) | ((with_reducible refine gate_callee (f := 87) rfl ?_); refine zgL 14 Try.func87 (flyballref06_is.calls k a0 0 false _ A5.out) (h := ?_); rintro w' ⟨nd, rfl⟩) | ((with_reducible refine gate_callee (f := 88) rfl ?_); refine zgL 17 Try.func88 (flyballref06_neg.calls a0 false _ A7.out) (h := ?_); rintro w' ⟨nd, rfl⟩) | ((with_reducible refine gate_callee (f := 87) rfl ?_); refine zgL 19 Try.func87 (flyballref06_is.calls k a0 3 true _ A9.out) (h := ?_); rintro w' ⟨nd, rfl⟩))
     go_ret2
     exact ⟨zaE, zaB⟩
    ·replace c10 := Bool.eq_false_iff.mpr c10
     subst c10
     have H1 : ((flyballref04_Split.f k a0).bind fun bt633 => ((flyballref06_bits.f k bt633.1).bind fun t635 => ((flyballref01_Len.f k t635).bind fun t638 => (if (Int.tmod (wrap64 (bt633.2 - (wrap64 (126 - t638)))) 2) = 0 then (flyballref06_Sqrt.j0 k a1 bt633.1 bt633.2 (wrap64 (126 - t638))) else (flyballref06_Sqrt.j0 k a1 bt633.1 bt633.2 (wrap64 ((wrap64 (126 - t638)) + 1))))))) = some (r1, r2) := by rw [if_neg (show ¬ (false = true) by decide)] at H; exact H
     clear H
     have H := H1
     clear H1
     obtain ⟨⟨t633, t634⟩, A11, H⟩ := zbs H
     try dsimp only at H
     obtain ⟨t635, A12, H⟩ := zbs H
     try dsimp only at H
     obtain ⟨t638, A13, H⟩ := zbs H
     try dsimp only at H
     have HC14 := Aside0.mk H
     clear H
     go_enter Try.func30, Try.ntmps30
     go_upto_if 34 with (first | ((with_reducible refine gate_callee (f := 87) rfl ?_); refine zgL 12 Try.func87 (flyballref06_is.calls k a0 4 false _ A3.out) (h := ?_); rintro w' ⟨nd, rfl⟩) | ((with_reducible refine gate_callee (f := 87) rfl ?_); refine zgL 14 Try.func87 (flyballref06_is.calls k a0 0 false _ A5.out) (h := ?_); rintro w' ⟨nd, rfl⟩) | ((with_reducible refine gate_callee (f := 88) rfl ?_); refine zgL 17 Try.func88 (flyballref06_neg.calls a0 false _ A7.out) (h := ?_); rintro w' ⟨nd, rfl⟩) | ((with_reducible refine gate_callee (f := 87) rfl ?_); refine zgL 19 Try.func87 (flyballref06_is.calls k a0 3 false _ A9.out) (h := ?_); rintro w' ⟨nd, rfl⟩) | ((with_reducible refine gate_callee (f := 89) rfl ?_); refine zgL 23 Try.func89 (flyballref04_Split.calls k a0 t633 t634 _ A11.out) (h := ?_); rintro w' ⟨nd, rfl⟩) | ((with_reducible refine gate_callee (f := 91) rfl ?_); refine goesL_ (some 27) rfl rfl Try.func91 (by kernel_rfl) rfl #[.int .u64 t633] rfl (by (try simp only [List.map_toArray, List.map_cons, List.map_nil]); first | done | rfl | (simp only [List.length_drop, List.length_take]; rfl)) ?_; (with_reducible refine (flyballref06_bits.calls k t633 t635 _ A12.out).mono ?_); rintro e w15 ⟨v636, rfl, ho0, hb⟩; refine ⟨_, rfl, ?_⟩; have HO637 := Aside0.mk (Kd.R_lower ho0 (below_size zaB)); replace HB := Aside0.mk (below_step zaB hb); (try clear hb); (try clear ho0); obtain ⟨Ao16, co16, eo16⟩ := Kd.R_slice HO637.out; subst eo16) | ((with_reducible refine gate_callee (f := 95) rfl ?_); refine goesL_ (some 28) rfl rfl Try.func95 (by kernel_rfl) rfl #[.slice Ao16 t635.length co16] rfl (by (try simp only [List.map_toArray, List.map_cons, List.map_nil]); first | done | rfl | (simp only [List.length_drop, List.length_take]; rfl)) ?_; (with_reducible refine (flyballref01_Len.calls k _ _ t635 t638 _ ?side1 ?side2 A13.out).mono ?_); (case side1 => repeat (first | exact (Kd.R_reads' HO637.out).2.2 | (with_reducible refine Kd.C_alloc ?_ _) | (with_reducible refine Kd.C_drewN ?_ _) | (with_reducible refine Kd.C_drew ?_))); (case side2 => exact (Kd.R_reads' HO637.out).2.1); rintro e w' ⟨rfl, ⟨nd, rfl⟩⟩; refine ⟨_, rfl, ?_⟩))
     (try simp only [Act.put, List.setIfInBounds_toArray, List.set_cons_zero, List.set_cons_succ])
     go_cut [8] (fun v8 wc => ∃ (kq : Nat) (x8_13 : Int), v8 = .int .i64 x8_13 ∧ Aside0 (flyballref06_Sqrt.j0 kq a1 t633 t634 x8_13 = some (r1, r2)) ∧ Aside0 (kq ≤ k) ∧ Aside0 (Below w.heap.size w wc))
     case first =>
      have H := HC14.out
      clear HC14
      by_cases c17 : (Int.tmod (wrap64 (t634 - (wrap64 (126 - t638)))) 2) = 0
      ·rw [if_pos c17] at H
       have c17b0 : ((Int.tmod (wrap64 (t634 - (wrap64 (126 - t638)))) 2) == 0) = true := beq_iff_eq.mpr c17
       have c17b1 : ((Int.tmod (wrap64 (t634 - (wrap64 (126 - t638)))) 2) != 0) = false := bne_eq_false_iff_eq.mpr c17
       clear c17
       (first | rw [c17b0] | (simp only [i64_w, i32_w]; rw [c17b0]) | skip)
       have H' := Aside0.mk H
       clear H
       go_wp2
       go_meet
       case rel => exact ⟨_, (wrap64 (126 - t638)), (by first | rfl | (simp; done) | (simp [*]; done)), H', ⟨by first | omega | exact Nat.le_refl _⟩, ⟨zaB⟩⟩
      ·rw [if_neg c17] at H
       have c17b0 : ((Int.tmod (wrap64 (t634 - (wrap64 (126 - t638)))) 2) == 0) = false := beq_eq_false_iff_ne.mpr c17
       have c17b1 : ((Int.tmod (wrap64 (t634 - (wrap64 (126 - t638)))) 2) != 0) = true := bne_iff_ne.mpr c17
       (first | rw [c17b0] | (simp only [i64_w, i32_w]; rw [c17b0]) | skip)
       have H' := Aside0.mk H
       clear H
       go_wp2
       go_meet
       case rel => exact ⟨_, (wrap64 ((wrap64 (126 - t638)) + 1)), (by first | rfl | (simp; done) | (simp [*]; done)), H', ⟨by first | omega | exact Nat.le_refl _⟩, ⟨zaB⟩⟩
     case rest =>
      clear HC14
      try clear c1
      try clear p2
      try clear c3
      try clear c4
      try clear c6
      try clear p6
      try clear c8
      try clear c9
      try clear c10
      try clear c17
      try clear c17b0
      try clear c17b1
      obtain ⟨kq, x8_13, rfl, HA, HJ13, HB⟩ := hcut
      cases kq with
      | zero => exact absurd HA.out (by simp [flyballref06_Sqrt.j0])
      | succ kj13 =>
       have H := HA.out
       clear HA
       simp only [flyballref06_Sqrt.j0] at H
       obtain ⟨t639, A18, H⟩ := zbs H
       try dsimp only at H
       obtain ⟨t642, A19, H⟩ := zbs H
       try dsimp only at H
       obtain ⟨⟨t645, t646⟩, A20, H⟩ := zbs H
       try dsimp only at H
       obtain ⟨t651, A21, H⟩ := zbs H
       try dsimp only at H
       obtain ⟨⟨t652, t653⟩, A22, H⟩ := zbs H
       try dsimp only at H
       simp only [Option.some.injEq, Prod.mk.injEq] at H
       obtain ⟨rfl, rfl⟩ := H
       go_wp2_with (first | ((with_reducible refine gate_callee (f := 91) rfl ?_); refine goesL_ (some 39) rfl rfl Try.func91 (by kernel_rfl) rfl #[.int .u64 t633] rfl (by (try simp only [List.map_toArray, List.map_cons, List.map_nil]); first | done | rfl | (simp only [List.length_drop, List.length_take]; rfl)) ?_; (with_reducible refine (flyballref06_bits.calls kj13 t633 t639 _ A18.out).mono ?_); rintro e w23 ⟨v640, rfl, ho0, hb⟩; refine ⟨_, rfl, ?_⟩; have HO641 := Aside0.mk (Kd.R_lower ho0 (below_size zaB)); replace HB := Aside0.mk (below_step zaB hb); (try clear hb); (try clear ho0); obtain ⟨Ao24, co24, eo24⟩ := Kd.R_slice HO641.out; subst eo24) | ((with_reducible refine gate_callee (f := 90) rfl ?_); refine goesL_ (some 41) rfl rfl Try.func90 (by kernel_rfl) rfl #[.slice Ao24 t639.length co24, .int .i64 x8_13] rfl (by (try simp only [List.map_toArray, List.map_cons, List.map_nil]); first | done | rfl | (simp only [List.length_drop, List.length_take]; rfl)) ?_; (with_reducible refine (flyballref01_Shl.calls kj13 _ _ t639 x8_13 t642 _ ?side1 ?side2 A19.out).mono ?_); (case side1 => repeat (first | exact (Kd.R_reads' HO641.out).2.2 | (with_reducible refine Kd.C_alloc ?_ _) | (with_reducible refine Kd.C_drewN ?_ _) | (with_reducible refine Kd.C_drew ?_))); (case side2 => exact (Kd.R_reads' HO641.out).2.1); rintro e w25 ⟨v643, rfl, ho0, hb⟩; refine ⟨_, rfl, ?_⟩; have HO644 := Aside0.mk (Kd.R_lower (Kd.R_new' ho0 (Kd.R_lt (by (with_reducible repeat (first | apply Kd.R_alloc | apply Kd.R_drewN | apply Kd.R_drew)); exact HO641.out))) (below_size zaB)); replace HO641 := Aside0.mk (Kd.R_elder' (by (with_reducible repeat (first | apply Kd.R_alloc | apply Kd.R_drewN | apply Kd.R_drew)); exact HO641.out) (Kd.R_base ho0) hb); replace HB := Aside0.mk (below_step zaB hb); (try clear hb); (try clear ho0); obtain ⟨Ao26, co26, eo26⟩ := Kd.R_slice HO644.out; subst eo26) | ((with_reducible refine gate_callee (f := 108) rfl ?_); refine goesL_ (some 42) rfl rfl Try.func108 (by kernel_rfl) rfl #[.slice Ao26 t642.length co26] rfl (by (try simp only [List.map_toArray, List.map_cons, List.map_nil]); first | done | rfl | (simp only [List.length_drop, List.length_take]; rfl)) ?_; (with_reducible refine (flyballref01_Sqrt.calls kj13 _ _ t642 t645 t646 _ ?side1 ?side2 A20.out).mono ?_); (case side1 => repeat (first | exact (Kd.R_reads' HO644.out).2.2 | (with_reducible refine Kd.C_alloc ?_ _) | (with_reducible refine Kd.C_drewN ?_ _) | (with_reducible refine Kd.C_drew ?_))); (case side2 => exact (Kd.R_reads' HO644.out).2.1); rintro e w27 ⟨v647, v649, rfl, ho0, ho1, hb⟩; refine ⟨_, rfl, ?_⟩; have HO648 := Aside0.mk (Kd.R_lower (Kd.R_new' (Kd.R_new' ho0 (Kd.R_lt (by (with_reducible repeat (first | apply Kd.R_alloc | apply Kd.R_drewN | apply Kd.R_drew)); exact HO641.out))) (Kd.R_lt (by (with_reducible repeat (first | apply Kd.R_alloc | apply Kd.R_drewN | apply Kd.R_drew)); exact HO644.out))) (below_size zaB)); have HO650 := Aside0.mk (Kd.R_lower (Kd.R_new' (Kd.R_new' ho1 (Kd.R_lt (by (with_reducible repeat (first | apply Kd.R_alloc | apply Kd.R_drewN | apply Kd.R_drew)); exact HO641.out))) (Kd.R_lt (by (with_reducible repeat (first | apply Kd.R_alloc | apply Kd.R_drewN | apply Kd.R_drew)); exact HO644.out))) (below_size zaB)); replace HO641 := Aside0.mk (Kd.R_mono (Kd.R_told (Kd.R_told (Kd.R_old (by (with_reducible repeat (first | apply Kd.R_alloc | apply Kd.R_drewN | apply Kd.R_drew)); exact HO641.out) hb) (Kd.R_base ho0)) (Kd.R_base ho1)) (fun _ h_ => h_.1)); replace HO644 := Aside0.mk (Kd.R_mono (Kd.R_told (Kd.R_told (Kd.R_old (by (with_reducible repeat (first | apply Kd.R_alloc | apply Kd.R_drewN | apply Kd.R_drew)); exact HO644.out) hb) (Kd.R_base ho0)) (Kd.R_base ho1)) (fun _ h_ => h_.1)); replace HB := Aside0.mk (below_step zaB hb); (try clear hb); (try clear ho0); (try clear ho1); obtain ⟨Ao28, co28, eo28⟩ := Kd.R_slice HO650.out; subst eo28) | ((with_reducible refine gate_callee (f := 95) rfl ?_); refine goesL_ (some 51) rfl rfl Try.func95 (by kernel_rfl) rfl #[.slice Ao28 t646.length co28] rfl (by (try simp only [List.map_toArray, List.map_cons, List.map_nil]); first | done | rfl | (simp only [List.length_drop, List.length_take]; rfl)) ?_; (with_reducible refine (flyballref01_Len.calls kj13 _ _ t646 t651 _ ?side1 ?side2 A21.out).mono ?_); (case side1 => repeat (first | exact (Kd.R_reads' HO650.out).2.2 | (with_reducible refine Kd.C_alloc ?_ _) | (with_reducible refine Kd.C_drewN ?_ _) | (with_reducible refine Kd.C_drew ?_))); (case side2 => exact (Kd.R_reads' HO650.out).2.1); rintro e w' ⟨rfl, ⟨nd, rfl⟩⟩; refine ⟨_, rfl, ?_⟩; obtain ⟨Ao29, co29, eo29⟩ := Kd.R_slice HO648.out; subst eo29) | ((with_reducible refine gate_callee (f := 97) rfl ?_); refine goesL_ (some 54) rfl rfl Try.func97 (by kernel_rfl) rfl #[.bool false, .slice Ao29 t645.length co29, .int .i64 (wrap64 (Int.tdiv (wrap64 (t634 - x8_13)) 2)), .bool (decide (t651 > 0)), .int .u8 a1] rfl (by (try simp only [List.map_toArray, List.map_cons, List.map_nil]); first | done | rfl | (simp only [List.length_drop, List.length_take]; rfl)) ?_; (with_reducible refine (flyballref05_Round.calls kj13 false _ _ t645 (wrap64 (Int.tdiv (wrap64 (t634 - x8_13)) 2)) (decide (t651 > 0)) a1 t652 t653 _ ?side1 ?side2 A22.out).mono ?_); (case side1 => repeat (first | exact (Kd.R_reads' HO648.out).2.2 | (with_reducible refine Kd.C_alloc ?_ _) | (with_reducible refine Kd.C_drewN ?_ _) | (with_reducible refine Kd.C_drew ?_))); (case side2 => exact (Kd.R_reads' HO648.out).2.1); rintro e w30 ⟨rfl, hb⟩; refine ⟨_, rfl, ?_⟩; replace HO641 := Aside0.mk (Kd.R_below (by (with_reducible repeat (first | apply Kd.R_alloc | apply Kd.R_drewN | apply Kd.R_drew)); exact HO641.out) hb); replace HO644 := Aside0.mk (Kd.R_below (by (with_reducible repeat (first | apply Kd.R_alloc | apply Kd.R_drewN | apply Kd.R_drew)); exact HO644.out) hb); replace HO648 := Aside0.mk (Kd.R_below (by (with_reducible repeat (first | apply Kd.R_alloc | apply Kd.R_drewN | apply Kd.R_drew)); exact HO648.out) hb); replace HO650 := Aside0.mk (Kd.R_below (by (with_reducible repeat (first | apply Kd.R_alloc | apply Kd.R_drewN | apply Kd.R_drew)); exact HO650.out) hb); replace HB := Aside0.mk (below_step zaB hb); (try clear hb)))
       go_ret2
       exact ⟨zaE, zaB⟩
end Go.Proofs.Ytmadjhmecfbcmaa.F
end
section
namespace Go.Proofs.Ytmadjhmecfbcmaa.F
open Go.RowKit Go.Proofs.YtmadjhmecfbcmaaW.PrintWords Go.Proofs.YtmadjhmecfbcmaaW.PrintLast Go.Proofs.YtmadjhmecfbcmaaW.PrintMore
attribute [local go_sem] max2_int min2_int max_two min_two max_three min_three max_four min_four
set_option linter.unusedVariables false
set_option linter.unusedSimpArgs false
set_option maxHeartbeats 8000000 in
set_option maxRecDepth 100000 in
theorem flyballlaw06_SoftRoots.calls (k : Nat) (a0 : Int) (a1 : Int) (r : Bool) (w : World) (h : flyballlaw06_SoftRoots.f k a0 a1 = some r) :
  Calls Try.prog 6 #[.int .u64 a0, .int .u8 a1] w fun e w' => e = .returned (.bool r) ∧ Below w.heap.size w w' := by
 have HB := Aside0.mk (Below.refl w.heap.size w)
 have H : ((flyballlaw06_works.f k).bind fun t654 => (if t654 = true then ((soft_Sqrt.f k a0 a1).bind fun bt655 => ((flyballref06_Sqrt.f k a0 a1).bind fun bt657 => (if bt655.1 = bt657.1 then (some (bt655.2 == bt657.2)) else (some false)))) else (some false))) = some r := h
 clear h
 obtain ⟨t654, A3, H⟩ := zbs H
 try dsimp only at H
 by_cases c4 : t654 = true
 ·subst c4
  have H1 : ((soft_Sqrt.f k a0 a1).bind fun bt655 => ((flyballref06_Sqrt.f k a0 a1).bind fun bt657 => (if bt655.1 = bt657.1 then (some (bt655.2 == bt657.2)) else (some false)))) = some r := by rw [if_pos rfl] at H; exact H
  clear H
  have H := H1
  clear H1
  obtain ⟨⟨t655, t656⟩, A5, H⟩ := zbs H
  try dsimp only at H
  obtain ⟨⟨t657, t658⟩, A6, H⟩ := zbs H
  try dsimp only at H
  by_cases c7 : t655 = t657
  ·rw [if_pos c7] at H
   have c7b0 : (t655 == t657) = true := beq_iff_eq.mpr c7
   have c7b1 : (t655 != t657) = false := bne_eq_false_iff_eq.mpr c7
   clear c7
   obtain rfl := Option.some.inj H
   go_enter Try.func6, Try.ntmps6
   go_wp2_with (first | ((with_reducible refine gate_callee (f := 20) rfl ?_); refine zgL 10 Try.func20 (flyballlaw06_works.calls k  true _ A3.out) (h := ?_); rintro w8 hb; replace HB := Aside0.mk (below_step zaB hb); (try clear hb)) | ((with_reducible refine gate_callee (f := 29) rfl ?_); refine zgL 16 Try.func29 (soft_Sqrt.calls k a0 a1 t655 t656 _ A5.out) (h := ?_); rintro w9 hb; replace HB := Aside0.mk (below_step zaB hb); (try clear hb)) | ((with_reducible refine gate_callee (f := 30) rfl ?_); refine zgL 22 Try.func30 (flyballref06_Sqrt.calls k a0 a1 t657 t658 _ A6.out) (h := ?_); rintro w10 hb; replace HB := Aside0.mk (below_step zaB hb); (try clear hb)))
   go_ret
   exact ⟨zaE, zaB⟩
  ·rw [if_neg c7] at H
   have c7b0 : (t655 == t657) = false := beq_eq_false_iff_ne.mpr c7
   have c7b1 : (t655 != t657) = true := bne_iff_ne.mpr c7
   obtain rfl := Option.some.inj H
   go_enter Try.func6, Try.ntmps6
   go_wp2_with (first | ((with_reducible refine gate_callee (f := 20) rfl ?_); refine zgL 10 Try.func20 (flyballlaw06_works.calls k  true _ A3.out) (h := ?_); rintro w11 hb; replace HB := Aside0.mk (below_step zaB hb); (try clear hb)) | ((with_reducible refine gate_callee (f := 29) rfl ?_); refine zgL 16 Try.func29 (soft_Sqrt.calls k a0 a1 t655 t656 _ A5.out) (h := ?_); rintro w12 hb; replace HB := Aside0.mk (below_step zaB hb); (try clear hb)) | ((with_reducible refine gate_callee (f := 30) rfl ?_); refine zgL 22 Try.func30 (flyballref06_Sqrt.calls k a0 a1 t657 t658 _ A6.out) (h := ?_); rintro w13 hb; replace HB := Aside0.mk (below_step zaB hb); (try clear hb)))
   go_ret
   exact ⟨zaE, zaB⟩
 ·replace c4 := Bool.eq_false_iff.mpr c4
  subst c4
  have H1 : (some false) = some r := by rw [if_neg (show ¬ (false = true) by decide)] at H; exact H
  clear H
  have H := H1
  clear H1
  obtain rfl := Option.some.inj H
  go_enter Try.func6, Try.ntmps6
  go_wp2_with (first | ((with_reducible refine gate_callee (f := 20) rfl ?_); refine zgL 10 Try.func20 (flyballlaw06_works.calls k  false _ A3.out) (h := ?_); rintro w14 hb; replace HB := Aside0.mk (below_step zaB hb); (try clear hb)))
  go_ret
  exact ⟨zaE, zaB⟩
theorem flyballlaw06_SoftRoots.walk (P : flyballlaw06_SoftRoots.Pure) (a0 : Int) (a1 : Int) (w : World) (w0 : (Lit.int .u64 a0).wf = true) (w1 : (Lit.int .u8 a1).wf = true) :
  Calls Try.prog 6 #[.int .u64 a0, .int .u8 a1] w fun e w' => e = .returned (.bool true) ∧ Below w.heap.size w w' := by
 obtain ⟨k, h⟩ := P a0 a1 w0 w1
 refine (flyballlaw06_SoftRoots.calls k a0 a1 true w h).mono ?_
 rintro e w' ⟨rfl, hd⟩
 exact ⟨rfl, hd⟩
end Go.Proofs.Ytmadjhmecfbcmaa.F
end
section
namespace Go.Proofs.Ytmadjhmecfbcmaa.M
open Go.RowKit Go.Proofs.YtmadjhmecfbcmaaW.PrintWords Go.Proofs.YtmadjhmecfbcmaaW.PrintLast Go.Proofs.YtmadjhmecfbcmaaW.PrintMore Go.Proofs.Ytmadjhmecfbcmaa.F
def sgn (a : Nat) : Bool := a / 9223372036854775808 == 1
def ex (a : Nat) : Nat := a / 4503599627370496 % 2048
def fr (a : Nat) : Nat := a % 4503599627370496
def cls (a : Nat) : Nat := if ex a = 2047 then (if fr a = 0 then 3 else 4) else if ex a = 0 then (if fr a = 0 then 0 else 1) else 2
def spm (a : Nat) : Nat := if cls a = 2 then 4503599627370496 + fr a else if cls a = 1 then fr a else 0
def spe (a : Nat) : Int := if cls a = 2 then (ex a : Int) - 1075 else if cls a = 1 then -1074 else 0
def key (a : Nat) : Nat := a % 9223372036854775808
def U (a : Nat) : Prop := a < 18446744073709551616
theorem sgn_cast (a : Nat) : ((a : Int) / 9223372036854775808 == 1) = sgn a := by
  unfold sgn
  rw [Bool.eq_iff_iff, beq_iff_eq, beq_iff_eq]; omega
theorem ex_lt (a : Nat) : ex a < 2048 := by unfold ex; omega
theorem fr_lt (a : Nat) : fr a < 4503599627370496 := by unfold fr; omega
theorem key_parts' (a : Nat) : key a = ex a * 4503599627370496 + fr a := by unfold key ex fr; omega
theorem a_parts (a : Nat) (h : U a) : a = sg (sgn a) + key a := by
  unfold sg sgn key U at *
  by_cases e : a / 9223372036854775808 = 1
  · rw [beq_iff_eq.2 e, if_pos rfl]; omega
  · rw [beq_eq_false_iff_ne.2 e, if_neg (by simp)]; omega
theorem Parts_ok (a : Nat) (h : U a) : pattern_Parts.f (a : Int) = some (sgn a, (ex a : Int), (fr a : Int)) := by
  unfold pattern_Parts.f U at *
  rw [sgn_cast, show (a : Int) / 4503599627370496 = ((a / 4503599627370496 : Nat) : Int) from by omega, and_2047 _ (by omega), and_52 _ h, w64 (by omega) (by omega)]
  rfl
theorem ref_Parts_ok (a : Nat) (h : U a) : flyballref04_Parts.f (a : Int) = some (sgn a, (ex a : Int), (fr a : Int)) := by
  unfold flyballref04_Parts.f U at *
  have e1 : Int.tdiv (a : Int) 9223372036854775808 = (a : Int) / 9223372036854775808 := Int.tdiv_eq_ediv_of_nonneg (by omega)
  have e2 : Int.tdiv (a : Int) 4503599627370496 = (a : Int) / 4503599627370496 := Int.tdiv_eq_ediv_of_nonneg (by omega)
  have e3 : Int.tmod (a : Int) 4503599627370496 = (a : Int) % 4503599627370496 := Int.tmod_eq_emod_of_nonneg (by omega)
  rw [e1, e2, e3, wu64 (by omega) (by omega), wu64 (by omega) (by omega), sgn_cast, Int.tmod_eq_emod_of_nonneg (by omega), w64 (by omega) (by omega)]
  unfold ex fr
  congr 3
theorem Class_ev (a : Nat) (h : U a) : Ev (fun k => pattern_Class.f k (a : Int)) (cls a : Int) := by
  refine Ev.later 2 fun k => ?_
  unfold pattern_Class.f
  rw [bind_of _ (Parts_ok a h)]
  dsimp only
  have e1 : ((fr a : Int) == 0) = decide (fr a = 0) := by rw [Bool.eq_iff_iff]; simp
  rw [e1]
  unfold cls
  by_cases c1 : ex a = 2047
  · rw [if_pos (by omega), if_pos c1]
    by_cases c2 : fr a = 0
    · simp [pattern_Class.j0, c2]
    · simp [pattern_Class.j0, c2, c1]
  · rw [if_neg (by omega), if_neg c1]
    by_cases c3 : ex a = 0
    · by_cases c2 : fr a = 0
      · simp [pattern_Class.j0, pattern_Class.j1, c2, c3]
      · simp [pattern_Class.j0, pattern_Class.j1, c2, c3]
    · have : ¬ ((ex a : Int) = 2047) := by omega
      simp [pattern_Class.j0, pattern_Class.j1, this, c3]
theorem ref_Class_ev (a : Nat) (h : U a) : Ev (fun k => flyballref04_Class.f k (a : Int)) (cls a : Int) := by
  refine Ev.later 2 fun k => ?_
  unfold flyballref04_Class.f
  rw [bind_of _ (ref_Parts_ok a h)]
  dsimp only
  have e1 : ((fr a : Int) == 0) = decide (fr a = 0) := by rw [Bool.eq_iff_iff]; simp
  rw [e1]
  unfold cls
  by_cases c1 : ex a = 2047
  · rw [if_pos (by omega), if_pos c1]
    by_cases c2 : fr a = 0
    · simp [flyballref04_Class.j0, c2]
    · simp [flyballref04_Class.j0, c2, c1]
  · rw [if_neg (by omega), if_neg c1]
    by_cases c3 : ex a = 0
    · by_cases c2 : fr a = 0
      · simp [flyballref04_Class.j0, flyballref04_Class.j1, c2, c3]
      · simp [flyballref04_Class.j0, flyballref04_Class.j1, c2, c3]
    · have : ¬ ((ex a : Int) = 2047) := by omega
      simp [flyballref04_Class.j0, flyballref04_Class.j1, this, c3]
theorem cls_le (a : Nat) : cls a ≤ 4 := by unfold cls; (repeat' split) <;> omega
theorem spm_lt (a : Nat) : spm a < 9007199254740992 := by have := fr_lt a; unfold spm; (repeat' split) <;> omega
theorem spe_bd (a : Nat) : -1074 ≤ spe a ∧ spe a ≤ 971 := by
  unfold spe
  split
  · rename_i h
    have := ex_lt a
    have : 1 ≤ ex a ∧ ex a ≠ 2047 := by unfold cls at h; (repeat' split at h) <;> first | omega | (refine ⟨by omega, by omega⟩)
    omega
  · split <;> omega
theorem split_mn (a : Nat) : (if (cls a : Int) = 2 then (some ((4503599627370496 : Int) + (fr a : Int), (ex a : Int) - 1075)) else (if (cls a : Int) = 1 then (some ((fr a : Int), (-1074 : Int))) else (some (0, 0)))) = some ((spm a : Int), spe a) := by
  unfold spm spe
  by_cases c1 : cls a = 2
  · simp only [c1, if_true]; rw [Int.natCast_add]; rfl
  · have h1 : ¬ (cls a : Int) = 2 := by omega
    by_cases c2 : cls a = 1
    · have h2 : (cls a : Int) = 1 := by omega
      rw [if_neg h1, if_pos h2, if_neg c1, if_neg c1, if_pos c2, if_pos c2]
    · have h2 : ¬ (cls a : Int) = 1 := by omega
      rw [if_neg h1, if_neg h2, if_neg c1, if_neg c1, if_neg c2, if_neg c2]; rfl
theorem Split_ev (a : Nat) (h : U a) : Ev (fun k => pattern_Split.f k (a : Int)) ((spm a : Int), spe a) := by
  unfold pattern_Split.f
  refine Ev.b _ (Ev.const (Parts_ok a h)) (Ev.b _ (Class_ev a h) (Ev.const ?_))
  dsimp only
  have h1 := fr_lt a
  have h2 := ex_lt a
  have e1 : bits .or .u64 4503599627370496 (fr a : Int) = 4503599627370496 + (fr a : Int) := by
    have := or_join 4503599627370496 (fr a) 52 (by decide) (by omega) (by decide) (by omega)
    rw [Int.natCast_add] at this; exact this
  have e2 : wrap64 ((ex a : Int) - 1075) = (ex a : Int) - 1075 := w64 (by omega) (by omega)
  refine Eq.trans ?_ (split_mn a)
  rw [e1, e2]
theorem ref_Split_ev (a : Nat) (h : U a) : Ev (fun k => flyballref04_Split.f k (a : Int)) ((spm a : Int), spe a) := by
  unfold flyballref04_Split.f
  refine Ev.b _ (Ev.const (ref_Parts_ok a h)) (Ev.b _ (ref_Class_ev a h) (Ev.const ?_))
  dsimp only
  have h1 := fr_lt a
  have h2 := ex_lt a
  have e1 : IntKind.u64.wrap (4503599627370496 + (fr a : Int)) = 4503599627370496 + (fr a : Int) := wu64 (by omega) (by omega)
  have e2 : wrap64 ((ex a : Int) - 1075) = (ex a : Int) - 1075 := w64 (by omega) (by omega)
  refine Eq.trans ?_ (split_mn a)
  rw [e1, e2]
theorem of_ev (a : Nat) (h : U a) : Ev (fun k => soft_of.f k (a : Int)) ((a : Int), (cls a : Int), sgn a, (spm a : Int), spe a) := by
  unfold soft_of.f
  refine Ev.b _ (Split_ev a h) (Ev.b _ (Class_ev a h) (Ev.const ?_))
  rw [sgn_cast]
def mk (neg : Bool) (e f : Nat) : Nat := sg neg + (e * 4503599627370496 + f)
theorem Make_ev (neg : Bool) (e f : Nat) (he : e ≤ 2047) (hf : f < 4503599627370496) : Ev (fun k => pattern_Make.f k neg (e : Int) (f : Int)) ((mk neg e f : Int), 0) := by
  refine Ev.later 1 fun k => ?_
  unfold pattern_Make.f
  rw [if_neg (by omega), if_neg (by omega), decide_eq_false (by omega)]
  simp only [pattern_Make.j0]
  rw [if_neg (by simp), wu64 (n := (e : Int)) (by omega) (by omega), wu64 (n := (e : Int) * 4503599627370496) (by omega) (by omega)]
  rw [show (e : Int) * 4503599627370496 = ((e * 4503599627370496 : Nat) : Int) from by omega]
  rw [or_join (e * 4503599627370496) f 52 (by omega) hf (by omega) (by omega)]
  unfold mk sg
  cases neg
  · rw [if_neg (by simp)]; simp
  · rw [if_pos rfl, show (9223372036854775808 : Int) = ((9223372036854775808 : Nat) : Int) from rfl, or_join' 9223372036854775808 _ 63 (by decide) (by omega) (by decide) (by omega)]
    simp
theorem ref_Make_ok (neg : Bool) (e f : Nat) (he : e ≤ 2047) (hf : f < 4503599627370496) : flyballref04_Make.f neg (e : Int) (f : Int) = some (mk neg e f : Int) := by
  unfold flyballref04_Make.f mk sg
  rw [wu64 (n := (e : Int)) (by omega) (by omega), wu64 (n := (e : Int) * 4503599627370496) (by omega) (by omega), wu64 (n := (e : Int) * 4503599627370496 + f) (by omega) (by omega)]
  cases neg
  · rw [if_neg (by simp)]; simp
  · rw [if_pos rfl, wu64 (by omega) (by omega)]; congr 1; simp; omega
theorem zero_ev (neg : Bool) : Ev (fun k => soft_zero.f k neg) (sg neg : Int) := by
  unfold soft_zero.f
  exact Ev.b _ (Make_ev neg 0 0 (by omega) (by omega)) (Ev.now _)
theorem Inf_ev (neg : Bool) : Ev (fun k => pattern_Inf.f k neg) ((sg neg + 9218868437227405312 : Nat) : Int) := by
  unfold pattern_Inf.f
  exact Ev.b _ (Make_ev neg 2047 0 (by omega) (by omega)) (Ev.now _)
theorem nan_ev (a : Nat) (h : U a) : Ev (fun k => pattern_nan.f k (a : Int)) (decide (cls a = 4)) := by
  unfold pattern_nan.f
  refine Ev.b _ (Class_ev a h) (Ev.const ?_)
  congr 1; rw [Bool.eq_iff_iff, beq_iff_eq, decide_eq_true_iff]; omega
theorem flip_U (a : Nat) (h : U a) : U (flip a) := by unfold U flip at *; split <;> omega
def ng (a : Nat) : Nat := if cls a = 4 then a else flip a
theorem ng_U (a : Nat) (h : U a) : U (ng a) := by unfold ng; split; exact h; exact flip_U a h
theorem Neg_ev (a : Nat) (h : U a) : Ev (fun k => pattern_Neg.f k (a : Int)) (ng a : Int) := by
  unfold pattern_Neg.f
  refine Ev.b _ (nan_ev a h) (Ev.const ?_)
  unfold ng
  by_cases c : cls a = 4
  · rw [decide_eq_true c, if_pos rfl, if_pos c]
  · rw [decide_eq_false c, if_neg (by simp), if_neg c, xor_sign a h]
theorem ref_is_ev (a c : Nat) (h : U a) : Ev (fun k => flyballref06_is.f k (a : Int) (c : Int)) (decide (cls a = c)) := by
  unfold flyballref06_is.f
  refine Ev.b _ (ref_Class_ev a h) (Ev.const ?_)
  congr 1; rw [Bool.eq_iff_iff, beq_iff_eq, decide_eq_true_iff]; omega
theorem ref_neg_ok (a : Nat) : flyballref06_neg.f (a : Int) = some (sgn a) := by unfold flyballref06_neg.f; rw [sgn_cast]
end Go.Proofs.Ytmadjhmecfbcmaa.M
end
section
namespace Go.Proofs.Ytmadjhmecfbcmaa.M
open Go.RowKit Go.Proofs.YtmadjhmecfbcmaaW.PrintWords Go.Proofs.YtmadjhmecfbcmaaW.PrintLast Go.Proofs.YtmadjhmecfbcmaaW.PrintMore Go.Proofs.Ytmadjhmecfbcmaa.F
theorem mod_mul_add (x B d : Nat) (hd : d < B) : (x * B + d) % (B * B) = x % B * B + d := by
  have h1 := Nat.div_add_mod x B
  have hB : 0 < B := by omega
  have h2 : x * B + d = (x % B * B + d) + (B * B) * (x / B) := by
    have : x * B = (B * (x / B) + x % B) * B := by rw [h1]
    rw [this, Nat.add_mul]; grind
  rw [h2, Nat.add_mul_mod_self_left]
  apply Nat.mod_eq_of_lt
  have : x % B + 1 ≤ B := Nat.mod_lt x hB
  have : (x % B + 1) * B ≤ B * B := Nat.mul_le_mul_right B this
  rw [Nat.add_mul] at this; omega
theorem mul_mod_join (hi c B P Q : Nat) (hPQ : P * Q = B) (hQ : 0 < Q) (hc : c < P) : (hi * P + c) % B = hi * P % B + c := by
  have e : hi * P % B = hi % Q * P := by
    rw [← hPQ, Nat.mul_comm hi P, Nat.mul_mod_mul_left, Nat.mul_comm]
  have h1 := Nat.div_add_mod hi Q
  have h2 : hi * P + c = (hi % Q * P + c) + B * (hi / Q) := by
    have : hi * P = (Q * (hi / Q) + hi % Q) * P := by rw [h1]
    rw [this, ← hPQ]; grind
  rw [h2, Nat.add_mul_mod_self_left, e]
  apply Nat.mod_eq_of_lt
  have : hi % Q + 1 ≤ Q := Nat.mod_lt hi hQ
  have : (hi % Q + 1) * P ≤ Q * P := Nat.mul_le_mul_right P this
  rw [Nat.add_mul, Nat.mul_comm Q P] at this; omega
def tw (V : Nat) : Int × Int := (((V / 18446744073709551616 : Nat) : Int), ((V % 18446744073709551616 : Nat) : Int))
theorem tw_join (q d : Nat) (h : d < 18446744073709551616) : tw (q * 18446744073709551616 + d) = ((q : Int), (d : Int)) := by
  rw [tw, show (q * 18446744073709551616 + d) / 18446744073709551616 = q by omega, show (q * 18446744073709551616 + d) % 18446744073709551616 = d by omega]
theorem shl_arith (hi lo n : Nat) (h1 : lo < 18446744073709551616) (hn : n < 64) :
    (hi * 18446744073709551616 + lo) * 2 ^ n % (18446744073709551616 * 18446744073709551616) =
      (hi * 2 ^ n % 18446744073709551616 + lo / 2 ^ (64 - n)) * 18446744073709551616 + lo * 2 ^ n % 18446744073709551616 := by
  have hPQ : 2 ^ n * 2 ^ (64 - n) = 18446744073709551616 := by rw [← Nat.pow_add, show n + (64 - n) = 64 by omega]
  have hc : lo * 2 ^ n / 18446744073709551616 = lo / 2 ^ (64 - n) := by
    rw [← hPQ, Nat.mul_comm lo, Nat.mul_div_mul_left _ _ (two_pos n)]
  have hc2 : lo / 2 ^ (64 - n) < 2 ^ n := by rw [Nat.div_lt_iff_lt_mul (two_pos _), hPQ]; exact h1
  have h2 := Nat.div_add_mod (lo * 2 ^ n) 18446744073709551616
  have e : (hi * 18446744073709551616 + lo) * 2 ^ n = (hi * 2 ^ n + lo / 2 ^ (64 - n)) * 18446744073709551616 + lo * 2 ^ n % 18446744073709551616 := by
    rw [← hc, Nat.add_mul, Nat.add_mul, Nat.mul_right_comm]; omega
  rw [e, mod_mul_add _ _ _ (Nat.mod_lt _ (by decide)), mul_mod_join _ _ _ _ _ hPQ (two_pos _) hc2]
theorem Shl_ev (n : Nat) : ∀ (hi lo : Nat), hi < 18446744073709551616 → lo < 18446744073709551616 → n < 1000000 →
    Ev (fun k => wide_U128_Shl.l0 k (n : Int) (hi : Int) (lo : Int)) (tw ((hi * 18446744073709551616 + lo) * 2 ^ n % (18446744073709551616 * 18446744073709551616))) := by
  induction n using Nat.strongRecOn with
  | _ n ih =>
  intro hi lo hhi hlo hn
  refine Ev.next ?_
  simp only [wide_U128_Shl.l0]
  by_cases c : 64 ≤ n
  · have hB : 2 ^ n = 18446744073709551616 * 2 ^ (n - 64) := by rw [← show 64 + (n - 64) = n by omega, Nat.pow_add, show 64 + (n - 64) - 64 = n - 64 by omega]
    have e : (hi * 18446744073709551616 + lo) * 2 ^ n % (18446744073709551616 * 18446744073709551616) = (lo * 18446744073709551616 + 0) * 2 ^ (n - 64) % (18446744073709551616 * 18446744073709551616) := by
      have : (hi * 18446744073709551616 + lo) * 2 ^ n = (lo * 18446744073709551616 + 0) * 2 ^ (n - 64) + (18446744073709551616 * 18446744073709551616) * (hi * 2 ^ (n - 64)) := by rw [hB]; grind
      rw [this, Nat.add_mul_mod_self_left]
    rw [e]
    by_cases z : lo = 0
    · subst z
      refine Ev.all fun k => ?_
      rw [if_pos (by omega), if_pos (by rfl)]
      simp [tw]
    · have := ih (n - 64) (by omega) lo 0 hlo (by omega) (by omega)
      refine Ev.congr (fun k => ?_) this
      have z' : ¬ ((lo : Int) == 0) = true := by rw [beq_iff_eq]; omega
      rw [if_pos (by omega), if_neg z', w64 (by omega) (by omega), show (n : Int) - 64 = ((n - 64 : Nat) : Int) from by omega]; rfl
  · refine Ev.all fun k => ?_
    rw [if_neg (by omega)]
    by_cases z : n = 0
    · subst z
      rw [if_pos (by omega)]
      have : (hi * 18446744073709551616 + lo) * 2 ^ 0 % (18446744073709551616 * 18446744073709551616) = hi * 18446744073709551616 + lo := by omega
      rw [this, tw, show (hi * 18446744073709551616 + lo) / 18446744073709551616 = hi by omega, show (hi * 18446744073709551616 + lo) % 18446744073709551616 = lo by omega]
    · rw [if_neg (by omega), if_pos (by omega), w64 (by omega) (by omega), if_pos (by omega), shl_arith hi lo n hlo (by omega)]
      rw [show (64 : Int) - (n : Int) = ((64 - n : Nat) : Int) from by omega, shl_nat _ _ (by omega), shl_nat _ _ (by omega), shr_nat _ _ (by omega)]
      have hPQ : 2 ^ n * 2 ^ (64 - n) = 18446744073709551616 := by rw [← Nat.pow_add, show n + (64 - n) = 64 by omega]
      have hc2 : lo / 2 ^ (64 - n) < 2 ^ n := by rw [Nat.div_lt_iff_lt_mul (two_pos _), hPQ]; exact hlo
      have hm : hi * 2 ^ n % 18446744073709551616 % 2 ^ n = 0 := by
        rw [← hPQ, Nat.mul_comm hi, Nat.mul_mod_mul_left, Nat.mul_mod_right]
      have hl : lo / 2 ^ (64 - n) ≤ lo := Nat.div_le_self _ _
      have hlt : hi * 2 ^ n % 18446744073709551616 + lo / 2 ^ (64 - n) < 18446744073709551616 := by
        have := mul_mod_join hi (lo / 2 ^ (64 - n)) 18446744073709551616 (2 ^ n) (2 ^ (64 - n)) hPQ (two_pos _) hc2
        rw [← this]; exact Nat.mod_lt _ (by decide)
      rw [or_join _ _ n (Nat.mod_lt _ (by decide)) hc2 hm (by omega)]
      have hd : lo * 2 ^ n % 18446744073709551616 < 18446744073709551616 := Nat.mod_lt _ (by decide)
      generalize lo * 2 ^ n % 18446744073709551616 = d at *
      generalize hi * 2 ^ n % 18446744073709551616 + lo / 2 ^ (64 - n) = q at *
      rw [tw_join q d hd]
theorem U128_Shl (hi lo n : Nat) (h1 : hi < 18446744073709551616) (h2 : lo < 18446744073709551616) (hn : n < 1000000) :
    Ev (fun k => wide_U128_Shl.f k (hi : Int) (lo : Int) (n : Int)) (tw ((hi * 18446744073709551616 + lo) * 2 ^ n % (18446744073709551616 * 18446744073709551616))) := Shl_ev n hi lo h1 h2 hn
theorem shr_arith (hi lo n : Nat) (hlo : lo < 18446744073709551616) (h0 : 0 < n) (hn : n < 64) :
    (hi * 18446744073709551616 + lo) / 2 ^ n = hi / 2 ^ n * 18446744073709551616 + (hi * 2 ^ (64 - n) % 18446744073709551616 + lo / 2 ^ n) ∧
    (hi * 18446744073709551616 + lo) % 2 ^ n = lo % 2 ^ n ∧ hi * 2 ^ (64 - n) % 18446744073709551616 % 2 ^ (64 - n) = 0 ∧ lo / 2 ^ n < 2 ^ (64 - n) ∧
    hi * 2 ^ (64 - n) % 18446744073709551616 + lo / 2 ^ n < 18446744073709551616 ∧ (lo * 2 ^ (64 - n) % 18446744073709551616 = 0 ↔ lo % 2 ^ n = 0) := by
  have hPQ : 2 ^ n * 2 ^ (64 - n) = 18446744073709551616 := by rw [← Nat.pow_add, show n + (64 - n) = 64 by omega]
  have hQP : 2 ^ (64 - n) * 2 ^ n = 18446744073709551616 := by rw [Nat.mul_comm]; exact hPQ
  have hc2 : lo / 2 ^ n < 2 ^ (64 - n) := by rw [Nat.div_lt_iff_lt_mul (two_pos _), hQP]; exact hlo
  have p1 := two_pos n
  have p2 := two_pos (64 - n)
  have h4 : hi * 2 ^ (64 - n) % 18446744073709551616 = hi % 2 ^ n * 2 ^ (64 - n) := by
    rw [← hQP, Nat.mul_comm hi, Nat.mul_mod_mul_left, Nat.mul_comm]
  have h5 : lo * 2 ^ (64 - n) % 18446744073709551616 = lo % 2 ^ n * 2 ^ (64 - n) := by
    rw [← hQP, Nat.mul_comm lo, Nat.mul_mod_mul_left, Nat.mul_comm]
  have hx : hi % 2 ^ n < 2 ^ n := Nat.mod_lt _ p1
  refine ⟨?_, ?_, ?_, hc2, ?_, ?_⟩
  · rw [h4]
    have e : hi * 18446744073709551616 + lo = lo + 2 ^ n * (hi * 2 ^ (64 - n)) := by rw [← hPQ]; grind
    rw [e, Nat.add_mul_div_left _ _ p1]
    have := Nat.div_add_mod hi (2 ^ n)
    have e2 : hi * 2 ^ (64 - n) = hi / 2 ^ n * 18446744073709551616 + hi % 2 ^ n * 2 ^ (64 - n) := by
      rw [← hPQ]
      have : hi * 2 ^ (64 - n) = (2 ^ n * (hi / 2 ^ n) + hi % 2 ^ n) * 2 ^ (64 - n) := by rw [this]
      rw [this]; grind
    rw [e2]; omega
  · have e : hi * 18446744073709551616 + lo = lo + 2 ^ n * (hi * 2 ^ (64 - n)) := by rw [← hPQ]; grind
    rw [e, Nat.add_mul_mod_self_left]
  · rw [h4, Nat.mul_mod_left]
  · rw [h4]
    have h6 : (hi % 2 ^ n + 1) * 2 ^ (64 - n) ≤ 2 ^ n * 2 ^ (64 - n) := Nat.mul_le_mul_right _ hx
    rw [hPQ, Nat.add_mul] at h6; omega
  · rw [h5]
    constructor
    · intro h; rcases Nat.mul_eq_zero.1 h with h | h <;> omega
    · intro h; rw [h, Nat.zero_mul]
theorem Shr_ev (n : Nat) : ∀ (hi lo : Nat) (lost : Bool), hi < 18446744073709551616 → lo < 18446744073709551616 → n < 1000000 →
    Ev (fun k => wide_U128_Shr.l0 k (n : Int) lost (hi : Int) (lo : Int)) ((tw ((hi * 18446744073709551616 + lo) / 2 ^ n)).1, (tw ((hi * 18446744073709551616 + lo) / 2 ^ n)).2, lost || decide ((hi * 18446744073709551616 + lo) % 2 ^ n ≠ 0)) := by
  induction n using Nat.strongRecOn with
  | _ n ih =>
  intro hi lo lost hhi hlo hn
  refine Ev.next ?_
  simp only [wide_U128_Shr.l0]
  by_cases c : 64 ≤ n
  · have hB : 2 ^ n = 18446744073709551616 * 2 ^ (n - 64) := by rw [← show 64 + (n - 64) = n by omega, Nat.pow_add, show 64 + (n - 64) - 64 = n - 64 by omega]
    have e : (hi * 18446744073709551616 + lo) / 2 ^ n = (0 * 18446744073709551616 + hi) / 2 ^ (n - 64) := by
      rw [hB, ← Nat.div_div_eq_div_mul]; congr 1; omega
    have e2 : (hi * 18446744073709551616 + lo) % 2 ^ n ≠ 0 ↔ lo ≠ 0 ∨ (0 * 18446744073709551616 + hi) % 2 ^ (n - 64) ≠ 0 := by
      rw [hB, Nat.mod_mul, show (hi * 18446744073709551616 + lo) % 18446744073709551616 = lo by omega, show (hi * 18446744073709551616 + lo) / 18446744073709551616 = 0 * 18446744073709551616 + hi by omega]
      have := two_pos (n - 64)
      constructor
      · intro h; by_cases z : lo = 0
        · right; intro h2; apply h; rw [h2, z]
        · exact .inl z
      · rintro (h | h) h2
        · omega
        · apply h; rcases Nat.eq_zero_of_add_eq_zero h2 with ⟨_, h3⟩
          rcases Nat.mul_eq_zero.1 h3 with h4 | h4
          · cases h4
          · exact h4
    have l1 : ((lo : Int) != 0) = decide (lo ≠ 0) := by rw [Bool.eq_iff_iff]; simp
    have e3 : (lost || decide ((hi * 18446744073709551616 + lo) % 2 ^ n ≠ 0)) = ((lost || decide (lo ≠ 0)) || decide ((0 * 18446744073709551616 + hi) % 2 ^ (n - 64) ≠ 0)) := by
      rw [Bool.eq_iff_iff]; simp only [Bool.or_eq_true, decide_eq_true_iff, e2]; grind
    rw [e, e3]
    by_cases z : hi = 0
    · subst z
      refine Ev.all fun k => ?_
      rw [if_pos (by omega)]
      cases lost
      · rw [if_neg (by simp), if_pos (by rfl), l1]; simp [tw]
      · rw [if_pos rfl, if_pos (by rfl)]; simp [tw]
    · have z' : ¬ ((hi : Int) == 0) = true := by rw [beq_iff_eq]; omega
      have hc : (n : Int) - 64 = ((n - 64 : Nat) : Int) := by omega
      cases lost
      · have := ih (n - 64) (by omega) 0 hi (decide (lo ≠ 0)) (by omega) hhi (by omega)
        refine Ev.congr (fun k => ?_) (by rw [Bool.false_or]; exact this)
        rw [if_pos (by omega), if_neg (by simp), if_neg z', w64 (by omega) (by omega), hc, l1]; rfl
      · have := ih (n - 64) (by omega) 0 hi true (by omega) hhi (by omega)
        refine Ev.congr (fun k => ?_) (by rw [Bool.true_or]; exact this)
        rw [if_pos (by omega), if_pos rfl, if_neg z', w64 (by omega) (by omega), hc]; rfl
  · refine Ev.all fun k => ?_
    rw [if_neg (by omega)]
    by_cases z : n = 0
    · subst z
      rw [if_pos (by omega)]
      have : (hi * 18446744073709551616 + lo) / 2 ^ 0 = hi * 18446744073709551616 + lo := by omega
      rw [this, tw, show (hi * 18446744073709551616 + lo) / 18446744073709551616 = hi by omega, show (hi * 18446744073709551616 + lo) % 18446744073709551616 = lo by omega]
      have : (hi * 18446744073709551616 + lo) % 2 ^ 0 = 0 := by omega
      rw [this]; simp
    · obtain ⟨a1, a2, a3, a4, a5, a6⟩ := shr_arith hi lo n hlo (by omega) (by omega)
      have hl : lo / 2 ^ n ≤ lo := Nat.div_le_self _ _
      have hd : hi / 2 ^ n ≤ hi := Nat.div_le_self _ _
      rw [if_neg (by omega), if_pos (by omega), w64 (by omega) (by omega), if_pos (by omega)]
      rw [show (64 : Int) - (n : Int) = ((64 - n : Nat) : Int) from by omega, shr_nat _ _ (by omega), shr_nat _ _ (by omega), shl_nat _ _ (by omega), shl_nat _ _ (by omega)]
      rw [or_join' _ _ (64 - n) (Nat.mod_lt _ (by decide)) a4 a3 (by omega), a1, a2]
      have l1 : (((lo * 2 ^ (64 - n) % 18446744073709551616 : Nat) : Int) != 0) = decide (lo % 2 ^ n ≠ 0) := by
        rw [Bool.eq_iff_iff]; simp only [bne_iff_ne, decide_eq_true_iff, Ne, ← a6]; omega
      generalize hi * 2 ^ (64 - n) % 18446744073709551616 + lo / 2 ^ n = d at *
      generalize hi / 2 ^ n = q at *
      rw [tw_join q d a5]
      cases lost
      · rw [if_neg (by simp), l1]; rfl
      · rw [if_pos rfl]; rfl
theorem U128_Shr (hi lo n : Nat) (h1 : hi < 18446744073709551616) (h2 : lo < 18446744073709551616) (hn : n < 1000000) :
    Ev (fun k => wide_U128_Shr.f k (hi : Int) (lo : Int) (n : Int)) ((tw ((hi * 18446744073709551616 + lo) / 2 ^ n)).1, (tw ((hi * 18446744073709551616 + lo) / 2 ^ n)).2, decide ((hi * 18446744073709551616 + lo) % 2 ^ n ≠ 0)) := by
  have := Shr_ev n hi lo false h1 h2 hn
  rw [Bool.false_or] at this; exact this
def bl (x : Nat) : Nat := if x = 0 then 0 else x.log2 + 1
theorem Len64_ok (x : Nat) (h : x < 18446744073709551616) : bits_Len64.f (x : Int) = some (bl x : Int) := by
  unfold bits_Len64.f bl
  rw [if_pos (by omega), Int.toNat_natCast]
  split
  · rename_i e; subst e; rfl
  · rename_i e; rw [bitLen_log2 x e h]
theorem log2_join (hi lo : Nat) (h : hi ≠ 0) (h2 : lo < 18446744073709551616) : (hi * 18446744073709551616 + lo).log2 = hi.log2 + 64 := by
  have a1 := Nat.log2_self_le h
  have a2 : hi < 2 ^ (hi.log2 + 1) := Nat.lt_log2_self
  have n0 : hi * 18446744073709551616 + lo ≠ 0 := by omega
  have b1 : hi.log2 + 64 ≤ (hi * 18446744073709551616 + lo).log2 := by
    rw [Nat.le_log2 n0, Nat.pow_add]; omega
  have b2 : (hi * 18446744073709551616 + lo).log2 < hi.log2 + 1 + 64 := by
    rw [Nat.log2_lt n0, Nat.pow_add]; omega
  omega
theorem bl_le {x n : Nat} (h : x < 2 ^ n) : bl x ≤ n := by
  unfold bl; split
  · omega
  · rename_i e; have := (Nat.log2_lt e).2 h; omega
theorem U128_Len (hi lo : Nat) (h1 : hi < 18446744073709551616) (h2 : lo < 18446744073709551616) :
    wide_U128_Len.f (hi : Int) (lo : Int) = some (bl (hi * 18446744073709551616 + lo) : Int) := by
  unfold wide_U128_Len.f
  by_cases c : hi = 0
  · subst c
    rw [if_neg (by omega), bind_of _ (Len64_ok lo h2), show 0 * 18446744073709551616 + lo = lo by omega]
  · rw [if_pos (by omega), bind_of _ (Len64_ok hi h1)]
    have := bl_le (x := hi) (n := 64) h1
    rw [w64 (by omega) (by omega)]
    unfold bl
    rw [if_neg c, if_neg (by omega), log2_join hi lo c h2]; congr 1; omega
end Go.Proofs.Ytmadjhmecfbcmaa.M
end
section
namespace Go.Proofs.Ytmadjhmecfbcmaa.M
open Go.RowKit Go.Proofs.YtmadjhmecfbcmaaW.PrintWords Go.Proofs.YtmadjhmecfbcmaaW.PrintLast Go.Proofs.YtmadjhmecfbcmaaW.PrintMore Go.Proofs.Ytmadjhmecfbcmaa.F
def FN (A : Nat) (e : Int) : Nat := A * 2 ^ (e + 1075).toNat
def FD (B : Nat) (e : Int) : Nat := B * 2 ^ (-(e + 1075)).toNat
def FX (A B : Nat) (e : Int) : Nat := FN A e / FD B e
def FS (A B : Nat) (e : Int) (rest : Bool) : Bool := rest || decide (FN A e % FD B e ≠ 0)
theorem shift_div (m p n : Nat) : m * 2 ^ p / 2 ^ n = if p ≤ n then m / 2 ^ (n - p) else m * 2 ^ (p - n) := by
  split
  · rename_i h
    have : 2 ^ n = 2 ^ p * 2 ^ (n - p) := by rw [← Nat.pow_add, show p + (n - p) = n by omega]
    rw [this, Nat.mul_comm m, Nat.mul_div_mul_left _ _ (two_pos p)]
  · rename_i h
    have : 2 ^ p = 2 ^ n * 2 ^ (p - n) := by rw [← Nat.pow_add, show n + (p - n) = p by omega]
    rw [this, Nat.mul_left_comm, Nat.mul_div_cancel_left _ (two_pos n)]
theorem shift_mod (m p n : Nat) : m * 2 ^ p % 2 ^ n = 0 ↔ n ≤ p ∨ m % 2 ^ (n - p) = 0 := by
  by_cases h : n ≤ p
  · have : 2 ^ p = 2 ^ n * 2 ^ (p - n) := by rw [← Nat.pow_add, show n + (p - n) = p by omega]
    rw [this, Nat.mul_left_comm, Nat.mul_mod_right]; simp [h]
  · have : 2 ^ n = 2 ^ p * 2 ^ (n - p) := by rw [← Nat.pow_add, show p + (n - p) = n by omega]
    rw [this, Nat.mul_comm m, Nat.mul_mod_mul_left, Nat.mul_eq_zero]
    have := two_pos p
    constructor
    · rintro (h2 | h2)
      · omega
      · exact .inr h2
    · rintro (h2 | h2)
      · omega
      · exact .inr h2
theorem FX_one (m : Nat) (e : Int) : FX m 1 e = m * 2 ^ (e + 1075).toNat / 2 ^ (-(e + 1075)).toNat := by unfold FX FN FD; rw [Nat.one_mul]
theorem FS_one (m : Nat) (e : Int) (r : Bool) : FS m 1 e r = (r || decide (m * 2 ^ (e + 1075).toNat % 2 ^ (-(e + 1075)).toNat ≠ 0)) := by unfold FS FN FD; rw [Nat.one_mul]
theorem bl_bd (m : Nat) (h : m ≠ 0) : 1 ≤ bl m ∧ 2 ^ (bl m - 1) ≤ m ∧ m < 2 ^ bl m := by
  unfold bl; rw [if_neg h]
  exact ⟨by omega, by rw [show m.log2 + 1 - 1 = m.log2 by omega]; exact Nat.log2_self_le h, Nat.lt_log2_self⟩
theorem FX_lt (m : Nat) (e : Int) (n : Nat) (h : (bl m : Int) + e + 1075 ≤ n) (h0 : m ≠ 0) : FX m 1 e < 2 ^ n := by
  have hb := bl_bd m h0
  rw [FX_one, Nat.div_lt_iff_lt_mul (two_pos _), ← Nat.pow_add]
  have h1 : m * 2 ^ (e + 1075).toNat < 2 ^ bl m * 2 ^ (e + 1075).toNat := Nat.mul_lt_mul_of_pos_right hb.2.2 (two_pos _)
  rw [← Nat.pow_add] at h1
  have h2 : 2 ^ (bl m + (e + 1075).toNat) ≤ 2 ^ (n + (-(e + 1075)).toNat) := pow_le (by omega)
  omega
theorem FX_ge (m : Nat) (e : Int) (n : Nat) (h : (n : Int) ≤ (bl m : Int) - 1 + e + 1075) (h0 : m ≠ 0) : 2 ^ n ≤ FX m 1 e := by
  have hb := bl_bd m h0
  rw [FX_one, Nat.le_div_iff_mul_le (two_pos _), ← Nat.pow_add]
  have h1 : 2 ^ (bl m - 1) * 2 ^ (e + 1075).toNat ≤ m * 2 ^ (e + 1075).toNat := Nat.mul_le_mul_right _ hb.2.1
  rw [← Nat.pow_add] at h1
  have h2 : 2 ^ (n + (-(e + 1075)).toNat) ≤ 2 ^ (bl m - 1 + (e + 1075).toNat) := pow_le (by omega)
  omega
theorem sh_FX (m : Nat) (e q : Int) (h0 : m ≠ 0) (hq : q = (bl m : Int) - 53 + e ∧ -1074 ≤ q ∨ q = -1074 ∧ (bl m : Int) - 53 + e ≤ -1074) : sh (FX m 1 e) = (q + 1075).toNat := by
  apply sh_unique
  by_cases c : q = -1074
  · left
    refine ⟨by omega, ?_⟩
    have := FX_lt m e 54 (by omega) h0
    omega
  · right
    refine ⟨by omega, ?_, ?_⟩
    · exact FX_ge m e _ (by omega) h0
    · exact FX_lt m e _ (by omega) h0
theorem keep_out (m : Nat) (e q : Int) (r : Bool) (h : -1074 ≤ q) (hs : sh (FX m 1 e) = (q + 1075).toNat) (hd : 0 < q - e) :
    wd (FX m 1 e) = m / 2 ^ (q - e).toNat ∧ hf (FX m 1 e) = (m / 2 ^ (q - e - 1).toNat % 2 == 1) ∧ rs (FX m 1 e) (FS m 1 e r) = (r || decide (m % 2 ^ (q - e - 1).toNat ≠ 0)) := by
  unfold wd hf rs
  rw [hs, FX_one, FS_one]
  have a1 : ∀ n, m * 2 ^ (e + 1075).toNat / 2 ^ (-(e + 1075)).toNat / 2 ^ n = m * 2 ^ (e + 1075).toNat / 2 ^ ((-(e + 1075)).toNat + n) := by
    intro n; rw [Nat.div_div_eq_div_mul, ← Nat.pow_add]
  refine ⟨?_, ?_, ?_⟩
  · rw [a1, shift_div, if_pos (by omega), show (-(e + 1075)).toNat + (q + 1075).toNat - (e + 1075).toNat = (q - e).toNat by omega]
  · rw [a1, shift_div, if_pos (by omega), show (-(e + 1075)).toNat + ((q + 1075).toNat - 1) - (e + 1075).toNat = (q - e - 1).toNat by omega]
  · rw [Bool.or_assoc]; congr 1
    rw [Bool.eq_iff_iff, Bool.or_eq_true, bne_iff_ne, decide_eq_true_iff, decide_eq_true_iff]
    have k : m * 2 ^ (e + 1075).toNat % 2 ^ ((-(e + 1075)).toNat + ((q + 1075).toNat - 1)) = 0 ↔ m * 2 ^ (e + 1075).toNat % 2 ^ (-(e + 1075)).toNat = 0 ∧ m * 2 ^ (e + 1075).toNat / 2 ^ (-(e + 1075)).toNat % 2 ^ ((q + 1075).toNat - 1) = 0 := by
      rw [Nat.pow_add, Nat.mod_mul]
      have := two_pos (-(e + 1075)).toNat
      constructor
      · intro h; obtain ⟨h1, h2⟩ := Nat.eq_zero_of_add_eq_zero h
        refine ⟨h1, ?_⟩
        rcases Nat.mul_eq_zero.1 h2 with h3 | h3
        · omega
        · exact h3
      · rintro ⟨h1, h2⟩; rw [h1, h2, Nat.mul_zero]
    rw [shift_mod, show (-(e + 1075)).toNat + ((q + 1075).toNat - 1) - (e + 1075).toNat = (q - e - 1).toNat by omega] at k
    constructor
    · intro h1 h2
      have := k.1 (.inr h2)
      rcases h1 with h1 | h1
      · exact h1 this.1
      · exact h1 this.2
    · intro h1
      by_cases c : m * 2 ^ (e + 1075).toNat % 2 ^ (-(e + 1075)).toNat = 0
      · right; intro h2
        rcases k.2 ⟨c, h2⟩ with h3 | h3
        · have : (q - e - 1).toNat = 0 := by omega
          rw [this] at h1; omega
        · exact h1 h3
      · exact .inl c
theorem keep_in (m : Nat) (e q : Int) (h : -1074 ≤ q) (hs : sh (FX m 1 e) = (q + 1075).toNat) (hd : q - e ≤ 0) :
    wd (FX m 1 e) = m * 2 ^ (e - q).toNat ∧ hf (FX m 1 e) = false ∧ rs (FX m 1 e) (FS m 1 e false) = false := by
  unfold wd hf rs
  have h0 : (-(e + 1075)).toNat = 0 := by omega
  rw [hs, FX_one, FS_one, h0]
  have e1 : 2 ^ (e + 1075).toNat = 2 ^ (q + 1075).toNat * 2 ^ (e - q).toNat := by rw [← Nat.pow_add]; congr 1; omega
  have e2 : 2 ^ (q + 1075).toNat = 2 ^ ((q + 1075).toNat - 1) * 2 := by rw [← Nat.pow_succ]; congr 1; omega
  rw [Nat.pow_zero, Nat.div_one]
  refine ⟨?_, ?_, ?_⟩
  · rw [e1, Nat.mul_left_comm, Nat.mul_div_cancel_left _ (two_pos _)]
  · rw [e1, e2, show m * (2 ^ ((q + 1075).toNat - 1) * 2 * 2 ^ (e - q).toNat) = 2 ^ ((q + 1075).toNat - 1) * (2 * (m * 2 ^ (e - q).toNat)) by grind, Nat.mul_div_cancel_left _ (two_pos _), beq_eq_false_iff_ne]
    omega
  · have : m * 2 ^ (e + 1075).toNat % 2 ^ ((q + 1075).toNat - 1) = 0 := by
      rw [e1, e2, show m * (2 ^ ((q + 1075).toNat - 1) * 2 * 2 ^ (e - q).toNat) = 2 ^ ((q + 1075).toNat - 1) * (2 * (m * 2 ^ (e - q).toNat)) by grind, Nat.mul_mod_right]
    rw [this]; simp [Nat.mod_one]
theorem up_ok (neg : Bool) (h l e : Int) (r0 : Bool) (mode : Nat) (odd half rest : Bool) :
    round_number_up.f neg h l e r0 (mode : Int) odd half rest = some (if dir neg mode = 1 then half || rest else if dir neg mode = 2 then false else half && (rest || odd)) := by
  unfold round_number_up.f round_number_away.f round_number_towards.f dir
  by_cases m1 : mode = 1
  · subst m1
    cases neg <;> cases half <;> cases rest <;> simp
  · by_cases m2 : mode = 2
    · subst m2
      cases neg <;> cases half <;> cases rest <;> simp
    · have c1 : ¬ (mode : Int) = 1 := by omega
      have c2 : ¬ (mode : Int) = 2 := by omega
      cases half <;> cases rest <;> simp [c1, c2, m1, m2]
theorem towards_ok (neg : Bool) (h l e : Int) (r0 : Bool) (mode : Nat) : round_number_towards.f neg h l e r0 (mode : Int) = some (decide (dir neg mode = 2)) := by
  unfold round_number_towards.f dir
  by_cases m1 : mode = 1
  · subst m1; cases neg <;> simp
  · by_cases m2 : mode = 2
    · subst m2; cases neg <;> simp
    · have c1 : ¬ (mode : Int) = 1 := by omega
      have c2 : ¬ (mode : Int) = 2 := by omega
      simp [c1, c2, m1, m2]
theorem over_ev (neg : Bool) (h l e : Int) (r0 : Bool) (mode : Nat) :
    Ev (fun k => round_number_over.f k neg h l e r0 (mode : Int)) (((sg neg + (if dir neg mode = 2 then 9218868437227405311 else 9218868437227405312) : Nat) : Int), 5) := by
  unfold round_number_over.f
  refine Ev.b _ (Inf_ev neg) (Ev.b _ (Ev.const (towards_ok neg h l e r0 mode)) (Ev.const ?_))
  by_cases c : dir neg mode = 2
  · rw [decide_eq_true c, if_pos rfl, if_pos c]
    cases neg <;> rfl
  · rw [decide_eq_false c, if_neg (by simp), if_neg c]
theorem bits_or_1_2 : bits .or .u8 1 2 = 3 := by decide
theorem j3_ev (neg : Bool) (h l e : Int) (r0 : Bool) (n q w : Nat) (inx : Bool) (hq : q ≤ 2045) (hw : w < 9007199254740992) (hn : n ≤ 1000) (he : -5000 ≤ e ∧ e ≤ 5000) :
    Ev (fun k => round_number_float.j3 k (n : Int) ((q : Int) - 1074) (w : Int) 0 inx neg h l e r0)
      (((sg neg + (if 4503599627370496 ≤ w then q * 4503599627370496 + w else w) : Nat) : Int), if inx then (if (n : Int) + e ≤ -1022 then 3 else 1) else 0) := by
  have hm : bits .and .u64 (w : Int) 4503599627370495 = ((w % 4503599627370496 : Nat) : Int) := and_52 w (by omega)
  have e1 : wrap64 (wrap64 ((q : Int) - 1074 - -1074) + 1) = ((q + 1 : Nat) : Int) := by rw [w64 (n := (q : Int) - 1074 - -1074) (by omega) (by omega), w64 (by omega) (by omega)]; omega
  have e2 : wrap64 ((n : Int) + e) = (n : Int) + e := w64 (by omega) (by omega)
  have mk1 : 4503599627370496 ≤ w → mk neg (q + 1) (w % 4503599627370496) = sg neg + (q * 4503599627370496 + w) := by intro hw2; unfold mk; omega
  have mk0 : w < 4503599627370496 → mk neg 0 (w % 4503599627370496) = sg neg + w := by intro hw2; unfold mk; omega
  refine Ev.next ?_
  simp only [round_number_float.j3]
  rw [hm, e1, e2, bits_or_1_2]
  by_cases c1 : 4503599627370496 ≤ w
  · have d1 : (w : Int) / 4503599627370496 = 1 := by omega
    have M := Make_ev neg (q + 1) (w % 4503599627370496) (by omega) (Nat.mod_lt _ (by decide))
    rw [mk1 c1] at M
    rw [if_pos c1]
    cases inx
    · exact Ev.congr (fun k => by rw [if_neg (by simp), if_pos d1]) (Ev.b (f := fun _ b => some (b.1, (0 : Int))) _ M (Ev.now _))
    · by_cases c2 : (n : Int) + e ≤ -1022
      · rw [if_pos rfl, if_pos c2]
        exact Ev.congr (fun k => by rw [if_pos rfl, if_pos c2, if_pos d1]) (Ev.b (f := fun _ b => some (b.1, (3 : Int))) _ M (Ev.now _))
      · rw [if_pos rfl, if_neg c2]
        exact Ev.congr (fun k => by rw [if_pos rfl, if_neg c2, if_pos d1]) (Ev.b (f := fun _ b => some (b.1, (1 : Int))) _ M (Ev.now _))
  · have d1 : ¬ (w : Int) / 4503599627370496 = 1 := by omega
    have M : Ev (fun k => pattern_Make.f k neg 0 ((w % 4503599627370496 : Nat) : Int)) ((mk neg 0 (w % 4503599627370496) : Int), 0) := Make_ev neg 0 (w % 4503599627370496) (by omega) (Nat.mod_lt _ (by decide))
    rw [mk0 (by omega)] at M
    rw [if_neg c1]
    cases inx
    · exact Ev.congr (fun k => by rw [if_neg (by simp), if_neg d1]) (Ev.b (f := fun _ b => some (b.1, (0 : Int))) _ M (Ev.now _))
    · by_cases c2 : (n : Int) + e ≤ -1022
      · rw [if_pos rfl, if_pos c2]
        exact Ev.congr (fun k => by rw [if_pos rfl, if_pos c2, if_neg d1]) (Ev.b (f := fun _ b => some (b.1, (3 : Int))) _ M (Ev.now _))
      · rw [if_pos rfl, if_neg c2]
        exact Ev.congr (fun k => by rw [if_pos rfl, if_neg c2, if_neg d1]) (Ev.b (f := fun _ b => some (b.1, (1 : Int))) _ M (Ev.now _))
theorem j1_ev (neg : Bool) (h l e : Int) (r0 : Bool) (mode n q w : Nat) (half rest : Bool) (hq : q ≤ 20000) (hw : w ≤ 9007199254740992) (hn : n ≤ 1000) (he : -5000 ≤ e ∧ e ≤ 5000)
    (hp : q = 0 ∨ 4503599627370496 ≤ w) :
    Ev (fun k => round_number_float.j1 k (mode : Int) (n : Int) ((q : Int) - 1074) half rest (w : Int) neg h l e r0)
      (if 9218868437227405312 ≤ q * 4503599627370496 + w then (((sg neg + (if dir neg mode = 2 then 9218868437227405311 else 9218868437227405312) : Nat) : Int), 5)
       else (((sg neg + (q * 4503599627370496 + w) : Nat) : Int), if half || rest then (if (n : Int) + e ≤ -1022 then 3 else 1) else 0)) := by
  have J2 : ∀ (q w : Nat), q ≤ 20001 → w < 9007199254740992 → (q = 0 ∨ 4503599627370496 ≤ w) →
      Ev (fun k => round_number_float.j2 k (mode : Int) (n : Int) ((q : Int) - 1074) half rest (w : Int) neg h l e r0)
      (if 9218868437227405312 ≤ q * 4503599627370496 + w then (((sg neg + (if dir neg mode = 2 then 9218868437227405311 else 9218868437227405312) : Nat) : Int), 5)
       else (((sg neg + (q * 4503599627370496 + w) : Nat) : Int), if half || rest then (if (n : Int) + e ≤ -1022 then 3 else 1) else 0)) := by
    intro q w hq hw hp
    refine Ev.next ?_
    simp only [round_number_float.j2]
    by_cases c : (q : Int) - 1074 > 971
    · rw [if_pos (by omega)]
      exact Ev.congr (fun k => by rw [if_pos c]) (Ev.b _ (over_ev neg h l e r0 mode) (Ev.now _))
    · rw [if_neg (by omega)]
      have J := j3_ev neg h l e r0 n q w (half || rest) (by omega) hw hn he
      have e1 : (if 4503599627370496 ≤ w then q * 4503599627370496 + w else w) = q * 4503599627370496 + w := by split <;> omega
      rw [e1] at J
      cases half
      · exact Ev.congr (fun k => by rw [if_neg c, if_neg (by simp)]; rfl) J
      · exact Ev.congr (fun k => by rw [if_neg c, if_pos rfl]; rfl) J
  refine Ev.next ?_
  simp only [round_number_float.j1]
  by_cases c : w = 9007199254740992
  · have e1 : wrap64 ((q : Int) - 1074 + 1) = ((q + 1 : Nat) : Int) - 1074 := by rw [w64 (by omega) (by omega)]; omega
    have e2 : (w : Int) / 2 = ((4503599627370496 : Nat) : Int) := by omega
    have J := J2 (q + 1) 4503599627370496 (by omega) (by omega) (by omega)
    rw [show (q + 1) * 4503599627370496 + 4503599627370496 = q * 4503599627370496 + w by omega] at J
    exact Ev.congr (fun k => by rw [if_pos (by omega), e1, e2]) J
  · exact Ev.congr (fun k => by rw [if_neg (by omega)]) (J2 q w (by omega) (by omega) hp)
def pr (r : Nat × Nat) : Int × Int := ((r.1 : Int), (r.2 : Int))
theorem tail_ev (neg : Bool) (m : Nat) (e : Int) (rest r0 : Bool) (mode : Nat) (h l hi lo : Int) (q : Nat) (w : Nat) (half rst : Bool) (hm : m ≠ 0) (hL : bl m ≤ 128) (he : -5000 ≤ e ∧ e ≤ 5000) (hq : q ≤ 10000)
    (hs : sh (FX m 1 e) = q + 1) (h1 : wd (FX m 1 e) = w) (h2 : hf (FX m 1 e) = half) (h3 : rs (FX m 1 e) (FS m 1 e rest) = rst) (hlo : lo = (w : Int)) :
    Ev (fun k => round_number_float.j0 k (mode : Int) (bl m : Int) ((q : Int) - 1074) half rst neg h l e r0 hi lo) (pr (RND neg (FX m 1 e) (FS m 1 e rest) mode)) := by
  subst hlo
  have hwl := wd_lt (FX m 1 e)
  rw [h1] at hwl
  have hwg : q = 0 ∨ 4503599627370496 ≤ w := by
    by_cases c : q = 0
    · exact .inl c
    · right; rw [← h1]; exact wd_ge _ (by omega)
  have hfk : fk (FX m 1 e) = q * 4503599627370496 + w := by unfold fk; rw [hs, h1]; congr 1
  have hX : FX m 1 e < 9007199254740992 ↔ (bl m : Int) + e ≤ -1022 := by
    constructor
    · intro hh
      by_cases c : (bl m : Int) + e ≤ -1022
      · exact c
      · have := FX_ge m e 53 (by omega) hm
        omega
    · intro hh
      have := FX_lt m e 53 (by omega) hm
      omega
  have hodd : FX m 1 e / 2 ^ sh (FX m 1 e) = w := h1
  refine Ev.next ?_
  simp only [round_number_float.j0]
  have hand : (bits .and .u64 (w : Int) 1 == 1) = (w % 2 == 1) := by
    rw [and_1 w (by omega), Bool.eq_iff_iff, beq_iff_eq, beq_iff_eq]; omega
  rw [hand]
  have hu := up_ok neg h l e r0 mode (w % 2 == 1) half rst
  refine Ev.b _ (Ev.const hu) ?_
  have hup : upw (FX m 1 e) (FS m 1 e rest) (dir neg mode) = (if dir neg mode = 1 then half || rst else if dir neg mode = 2 then false else half && (rst || (w % 2 == 1))) := by
    unfold upw; rw [h2, h3, hodd]
  rw [← hup]
  have key : ∀ (b : Bool), upw (FX m 1 e) (FS m 1 e rest) (dir neg mode) = b → (if 9218868437227405312 ≤ q * 4503599627370496 + (w + if b then 1 else 0) then (((sg neg + (if dir neg mode = 2 then 9218868437227405311 else 9218868437227405312) : Nat) : Int), 5)
       else (((sg neg + (q * 4503599627370496 + (w + if b then 1 else 0)) : Nat) : Int), if half || rst then (if (bl m : Int) + e ≤ -1022 then 3 else 1) else 0)) = pr (RND neg (FX m 1 e) (FS m 1 e rest) mode) := by
    intro b hb
    have hk : kk (FX m 1 e) (FS m 1 e rest) (dir neg mode) = q * 4503599627370496 + (w + if b = true then 1 else 0) := by
      unfold kk; rw [hb, hfk, Nat.add_assoc]
    by_cases c : 9218868437227405312 ≤ q * 4503599627370496 + (w + if b then 1 else 0)
    · rw [if_pos c, RND_over (by rw [hk]; exact c)]; rfl
    · rw [if_neg c, RND_in (by rw [hk]; exact c), hk, h2, h3]
      have e3 : (if (half || rst) = true then (if (bl m : Int) + e ≤ -1022 then (3 : Int) else 1) else 0) = ((if (half || rst) = true then (if FX m 1 e < 9007199254740992 then 3 else 1) else 0 : Nat) : Int) := by
        cases half || rst
        · rfl
        · by_cases c2 : (bl m : Int) + e ≤ -1022
          · rw [if_pos rfl, if_pos rfl, if_pos c2, if_pos (hX.2 c2)]; rfl
          · rw [if_pos rfl, if_pos rfl, if_neg c2, if_neg (fun hh => c2 (hX.1 hh))]; rfl
      rw [e3]; rfl
  cases hb : upw (FX m 1 e) (FS m 1 e rest) (dir neg mode)
  · have K := key false hb
    rw [show (w + if false = true then 1 else 0) = w from by simp] at K
    rw [← K]
    exact Ev.congr (fun k => by rw [if_neg (by simp)]) (j1_ev neg h l e r0 mode (bl m) q w half rst (by omega) (by omega) (by omega) he (by omega))
  · have K := key true hb
    rw [show (w + if true = true then 1 else 0) = w + 1 from by simp] at K
    rw [← K]
    have e1 : IntKind.u64.wrap ((w : Int) + 1) = ((w + 1 : Nat) : Int) := by rw [wu64 (by omega) (by omega)]; omega
    exact Ev.congr (fun k => by rw [if_pos rfl, e1]) (j1_ev neg h l e r0 mode (bl m) q (w + 1) half rst (by omega) (by omega) (by omega) he (by omega))
end Go.Proofs.Ytmadjhmecfbcmaa.M
end
section
namespace Go.Proofs.Ytmadjhmecfbcmaa.M
open Go.RowKit Go.Proofs.YtmadjhmecfbcmaaW.PrintWords Go.Proofs.YtmadjhmecfbcmaaW.PrintLast Go.Proofs.YtmadjhmecfbcmaaW.PrintMore Go.Proofs.Ytmadjhmecfbcmaa.F
theorem tw_lo (V : Nat) : (tw V).2 = ((V % 18446744073709551616 : Nat) : Int) := rfl
theorem words (m : Nat) : m / 18446744073709551616 * 18446744073709551616 + m % 18446744073709551616 = m := by omega
theorem word_lt (m : Nat) : m % 18446744073709551616 < 18446744073709551616 := Nat.mod_lt _ (by decide)
theorem word_hi_lt {m : Nat} (h : m < 340282366920938463463374607431768211456) : m / 18446744073709551616 < 18446744073709551616 := by omega
theorem bl_small {m n : Nat} (h : bl m ≤ n) : m < 2 ^ n := by
  by_cases c : m = 0
  · subst c; exact two_pos n
  · have := (bl_bd m c).2.2
    have : 2 ^ bl m ≤ 2 ^ n := pow_le h
    omega
theorem Shl_tw (m n : Nat) (hm : m < 340282366920938463463374607431768211456) (hn : n < 1000000) :
    Ev (fun k => wide_U128_Shl.f k (tw m).1 (tw m).2 (n : Int)) (tw (m * 2 ^ n % 340282366920938463463374607431768211456)) := by
  have := U128_Shl (m / 18446744073709551616) (m % 18446744073709551616) n (word_hi_lt hm) (word_lt m) hn
  rw [words] at this; exact this
theorem Shr_tw (m n : Nat) (hm : m < 340282366920938463463374607431768211456) (hn : n < 1000000) :
    Ev (fun k => wide_U128_Shr.f k (tw m).1 (tw m).2 (n : Int)) ((tw (m / 2 ^ n)).1, (tw (m / 2 ^ n)).2, decide (m % 2 ^ n ≠ 0)) := by
  have := U128_Shr (m / 18446744073709551616) (m % 18446744073709551616) n (word_hi_lt hm) (word_lt m) hn
  rw [words] at this; exact this
theorem Len_tw (m : Nat) (hm : m < 340282366920938463463374607431768211456) : wide_U128_Len.f (tw m).1 (tw m).2 = some (bl m : Int) := by
  have := U128_Len (m / 18446744073709551616) (m % 18446744073709551616) (word_hi_lt hm) (word_lt m)
  rw [words] at this; exact this
theorem mx_eq (a b : Int) : mx a b = max a b := by unfold mx; omega
theorem mn_eq (a b : Int) : mn a b = min a b := by unfold mn; omega
theorem float_ev (neg : Bool) (m : Nat) (e : Int) (rest : Bool) (mode : Nat) (hm : m ≠ 0) (hm2 : m < 340282366920938463463374607431768211456) (he : -5000 ≤ e ∧ e ≤ 5000) (hr : rest = true → 53 < bl m) :
    Ev (fun k => round_number_float.f k neg (tw m).1 (tw m).2 e rest (mode : Int)) (pr (RND neg (FX m 1 e) (FS m 1 e rest) mode)) := by
  have hL : bl m ≤ 128 := bl_le (n := 128) hm2
  have hL1 := (bl_bd m hm).1
  obtain ⟨q, hq⟩ : ∃ q : Nat, max ((bl m : Int) - 53 + e) (-1074) = (q : Int) - 1074 := ⟨(max ((bl m : Int) - 53 + e) (-1074) + 1074).toNat, by omega⟩
  have hsh : sh (FX m 1 e) = q + 1 := by
    rw [sh_FX m e ((q : Int) - 1074) hm (by omega)]; omega
  have hsh' : sh (FX m 1 e) = ((q : Int) - 1074 + 1075).toNat := by rw [hsh]; omega
  have w1 : wrap64 ((bl m : Int) - 53) = (bl m : Int) - 53 := w64 (by omega) (by omega)
  have w2 : wrap64 ((bl m : Int) - 53 + e) = (bl m : Int) - 53 + e := w64 (by omega) (by omega)
  have w3 : wrap64 ((q : Int) - 1074 - e) = (q : Int) - 1074 - e := w64 (by omega) (by omega)
  unfold round_number_float.f
  refine Ev.b _ (Ev.const (Len_tw m hm2)) ?_
  rw [w1, w2, mx_eq, hq, w3]
  by_cases c : (q : Int) - 1074 - e > 0
  · have w4 : wrap64 ((q : Int) - 1074 - e - 1) = (((q : Int) - 1074 - e - 1).toNat : Int) := by rw [w64 (by omega) (by omega)]; omega
    obtain ⟨k1, k2, k3⟩ := keep_out m e ((q : Int) - 1074) rest (by omega) hsh' c
    have S1 := Shr_tw m ((q : Int) - 1074 - e - 1).toNat hm2 (by omega)
    have hM : m / 2 ^ ((q : Int) - 1074 - e - 1).toNat ≤ m := Nat.div_le_self _ _
    have S2 := Shr_tw (m / 2 ^ ((q : Int) - 1074 - e - 1).toNat) 1 (by omega) (by omega)
    rw [show ((1 : Nat) : Int) = 1 from rfl] at S2
    have e1 : m / 2 ^ ((q : Int) - 1074 - e - 1).toNat / 2 ^ 1 = m / 2 ^ ((q : Int) - 1074 - e).toNat := by
      rw [Nat.div_div_eq_div_mul, ← Nat.pow_add]; congr 2; omega
    have hh : (bits .and .u64 (tw (m / 2 ^ ((q : Int) - 1074 - e - 1).toNat)).2 1 == 1) = (m / 2 ^ ((q : Int) - 1074 - e - 1).toNat % 2 == 1) := by
      rw [tw_lo, and_1 _ (word_lt _), Bool.eq_iff_iff, beq_iff_eq, beq_iff_eq]; omega
    have hw : m / 2 ^ ((q : Int) - 1074 - e).toNat < 18446744073709551616 := by
      rw [← k1]; have := wd_lt (FX m 1 e); omega
    refine Ev.congr (fun k => by rw [if_pos c, w4]) (Ev.b _ S1 ?_)
    dsimp only
    rw [hh]
    cases rest
    · refine Ev.congr (fun k => by rw [if_neg (by simp)]) (Ev.b _ S2 ?_)
      dsimp only
      exact tail_ev neg m e false false mode _ _ _ _ q _ _ _ hm hL he (by omega) hsh k1 k2 (by rw [k3, Bool.false_or]) (by rw [tw_lo, e1, Nat.mod_eq_of_lt hw])
    · refine Ev.congr (fun k => by rw [if_pos rfl]) (Ev.b _ S2 ?_)
      dsimp only
      exact tail_ev neg m e true true mode _ _ _ _ q _ _ _ hm hL he (by omega) hsh k1 k2 (by rw [k3, Bool.true_or]) (by rw [tw_lo, e1, Nat.mod_eq_of_lt hw])
  · have hr2 : rest = false := by
      cases rest
      · rfl
      · have := hr rfl; omega
    subst hr2
    obtain ⟨k1, k2, k3⟩ := keep_in m e ((q : Int) - 1074) (by omega) hsh' (by omega)
    have w4 : wrap64 (-((q : Int) - 1074 - e)) = ((e - ((q : Int) - 1074)).toNat : Int) := by rw [w64 (by omega) (by omega)]; omega
    have S1 := Shl_tw m (e - ((q : Int) - 1074)).toNat hm2 (by omega)
    have hw : m * 2 ^ (e - ((q : Int) - 1074)).toNat < 9007199254740992 := by rw [← k1]; exact wd_lt _
    rw [Nat.mod_eq_of_lt (by omega)] at S1
    refine Ev.congr (fun k => by rw [if_neg c, w4]) (Ev.b _ S1 ?_)
    exact tail_ev neg m e false false mode _ _ _ _ q _ _ _ hm hL he (by omega) hsh k1 k2 k3 (by rw [tw_lo, Nat.mod_eq_of_lt (by omega)])
def cl (e : Int) : Int := min (max e (-5000)) 5000
theorem Round_ev (neg : Bool) (m : Nat) (e : Int) (rest : Bool) (mode : Nat) (hm2 : m < 340282366920938463463374607431768211456) :
    Ev (fun k => round_Round.f k neg (tw m).1 (tw m).2 e rest (mode : Int))
      (if m = 0 then ((sg neg : Int), 0) else pr (RND neg (FX m 1 (cl e)) (FS m 1 (cl e) (rest && decide (53 < bl m))) mode)) := by
  unfold round_Round.f
  refine Ev.b _ (Ev.const (Len_tw m hm2)) ?_
  by_cases c : m = 0
  · rw [if_pos c]
    have : (bl m : Int) = 0 := by rw [c]; rfl
    refine Ev.congr (fun k => by rw [if_pos this]) (Ev.b (f := fun _ b => some (b.1, (0 : Int))) _ (show Ev (fun k => pattern_Make.f k neg 0 0) ((mk neg 0 0 : Int), 0) from Make_ev neg 0 0 (by omega) (by omega)) (Ev.now _))
  · rw [if_neg c]
    have h1 := (bl_bd m c).1
    have c2 : ¬ (bl m : Int) = 0 := by omega
    have e1 : mn (mx e (-5000)) 5000 = cl e := by rw [mx_eq, mn_eq]; rfl
    rw [e1]
    have hc : -5000 ≤ cl e ∧ cl e ≤ 5000 := by unfold cl; omega
    have e2 : decide ((bl m : Int) > 53) = decide (53 < bl m) := by rw [Bool.eq_iff_iff, decide_eq_true_iff, decide_eq_true_iff]; omega
    rw [e2]
    cases rest
    · exact Ev.congr (fun k => by rw [if_neg c2, if_neg (by simp)]) (Ev.b (f := fun _ b => some (b.1, b.2)) _ (float_ev neg m (cl e) false mode c hm2 hc (by simp)) (Ev.now _))
    · exact Ev.congr (fun k => by rw [if_neg c2, if_pos rfl]) (Ev.b (f := fun _ b => some (b.1, b.2)) _ (float_ev neg m (cl e) (decide (53 < bl m)) mode c hm2 hc (by simp)) (Ev.now _))
end Go.Proofs.Ytmadjhmecfbcmaa.M
end
section
namespace Go.Proofs.Ytmadjhmecfbcmaa.M
open Go.RowKit Go.Proofs.YtmadjhmecfbcmaaW.PrintWords Go.Proofs.YtmadjhmecfbcmaaW.PrintLast Go.Proofs.YtmadjhmecfbcmaaW.PrintMore Go.Proofs.Ytmadjhmecfbcmaa.F
def QN : Nat := 9221120237041090560
def INF : Nat := 9218868437227405312
def mg (a : Nat) : Nat := magk (key a)
def sv (a : Nat) : Int := if sgn a then -(mg a : Int) else mg a
theorem key_cls (a : Nat) : (cls a ≤ 2 ↔ key a < 9218868437227405312) ∧ (cls a = 3 ↔ key a = 9218868437227405312) ∧ (cls a = 4 ↔ 9218868437227405312 < key a) ∧ (cls a = 0 ↔ key a = 0) := by
  rw [key_parts' a]
  have h1 := ex_lt a
  have h2 := fr_lt a
  unfold cls
  refine ⟨?_, ?_, ?_, ?_⟩ <;> (repeat' split) <;> omega
theorem mg_split (a : Nat) (h : cls a ≤ 2) : mg a = spm a * 2 ^ (spe a + 1074).toNat := by
  have h2 := fr_lt a
  have e1 : key a / 4503599627370496 = ex a := by rw [key_parts' a]; omega
  have e2 : key a % 4503599627370496 = fr a := by rw [key_parts' a]; omega
  unfold mg magk
  rw [e1, e2]
  unfold spm spe
  unfold cls at h ⊢
  by_cases c1 : ex a = 2047
  · rw [if_pos c1] at h; split at h <;> omega
  · rw [if_neg c1]
    by_cases c2 : ex a = 0
    · rw [if_pos c2, if_pos c2]
      by_cases c3 : fr a = 0
      · rw [if_pos c3, c3, if_neg (by decide), if_neg (by decide), Nat.zero_mul]
      · rw [if_neg c3, if_neg (by decide), if_pos rfl, if_neg (by decide), if_pos rfl, show ((-1074 : Int) + 1074).toNat = 0 from rfl, Nat.pow_zero, Nat.mul_one]
    · rw [if_neg c2, if_neg c2, if_pos rfl, if_pos rfl, show ((ex a : Int) - 1075 + 1074).toNat = ex a - 1 by omega]
theorem mg_zero (a : Nat) : mg a = 0 ↔ cls a = 0 := by
  rw [(key_cls a).2.2.2]
  have h0 : magk 0 = 0 := by unfold magk; simp
  constructor
  · intro h; apply magk_inj; rw [h0]; exact h
  · intro h; unfold mg; rw [h, h0]
theorem spm_zero (a : Nat) (h : cls a ≤ 2) : spm a = 0 ↔ cls a = 0 := by
  rw [← mg_zero, mg_split a h, Nat.mul_eq_zero]
  have := two_pos (spe a + 1074).toNat
  omega
theorem fk_magk (k : Nat) : fk (2 * magk k) = k := by
  have h1 : k ≤ fk (2 * magk k) := (fk_iff _ _).1 (Nat.le_refl _)
  have h2 := fk_le (2 * magk k)
  have h3 := magk_le_iff.1 (show magk (fk (2 * magk k)) ≤ magk k by omega)
  omega
theorem RND_exact (neg : Bool) (k mode : Nat) (h : k < 9218868437227405312) : RND neg (2 * magk k) false mode = (sg neg + k, 0) := by
  have hx : (hf (2 * magk k) || rs (2 * magk k) false) = false := by rw [exact_iff, fk_magk]; exact ⟨rfl, rfl⟩
  have hu : upw (2 * magk k) false (dir neg mode) = false := by
    unfold upw
    rw [Bool.or_eq_false_iff] at hx
    rw [hx.1, hx.2]; simp
  have hk : kk (2 * magk k) false (dir neg mode) = k := by unfold kk; rw [hu, fk_magk]; rfl
  rw [RND_in (by rw [hk]; omega), hk, hx]; rfl
theorem RND_sticky (neg : Bool) (X Y g : Nat) (s : Bool) (mode : Nat) (h1 : X / 2 ^ g = Y / 2 ^ g) (h2 : X % 2 ^ g = 0) (h3 : 9007199254740992 ≤ X / 2 ^ g) (h4 : s = true ∨ Y % 2 ^ g ≠ 0) :
    RND neg X true mode = RND neg Y s mode := by
  by_cases g0 : g = 0
  · subst g0
    rw [Nat.pow_zero, Nat.div_one, Nat.div_one] at h1
    rw [Nat.pow_zero, Nat.mod_one] at h4
    have : s = true := by rcases h4 with h4 | h4; exact h4; exact absurd rfl h4
    rw [h1, this]
  have hz : X / 2 ^ g ≠ 0 := by omega
  have pg := two_pos g
  have hX := Nat.div_add_mod X (2 ^ g)
  have hY := Nat.div_add_mod Y (2 ^ g)
  have mX := Nat.mod_lt X pg
  have mY := Nat.mod_lt Y pg
  obtain ⟨Z, hZ⟩ : ∃ Z, X / 2 ^ g = Z := ⟨_, rfl⟩
  rw [← h1] at hY
  rw [hZ] at h1 h3 hz hX hY
  have zl := Nat.log2_self_le hz
  have zu : Z < 2 ^ (Z.log2 + 1) := Nat.lt_log2_self
  have z53 : 53 ≤ Z.log2 := by rw [Nat.le_log2 hz]; omega
  have lo : ∀ W, 2 ^ g * Z ≤ W → W < 2 ^ g * (Z + 1) → sh W = Z.log2 + g - 52 := by
    intro W w1 w2
    apply sh_unique
    right
    refine ⟨by omega, ?_, ?_⟩
    · have : 2 ^ g * 2 ^ Z.log2 ≤ 2 ^ g * Z := Nat.mul_le_mul_left _ zl
      rw [← Nat.pow_add, show g + Z.log2 = Z.log2 + g - 52 + 52 by omega] at this; exact Nat.le_trans this w1
    · have : 2 ^ g * (Z + 1) ≤ 2 ^ g * 2 ^ (Z.log2 + 1) := Nat.mul_le_mul_left _ zu
      rw [← Nat.pow_add, show g + (Z.log2 + 1) = Z.log2 + g - 52 + 53 by omega] at this; exact Nat.lt_of_lt_of_le w2 this
  have e0 : 2 ^ g * (Z + 1) = 2 ^ g * Z + 2 ^ g := by rw [Nat.mul_add, Nat.mul_one]
  have sX := lo X (by omega) (by omega)
  have sY := lo Y (by omega) (by omega)
  obtain ⟨v, hv⟩ : ∃ v, Z.log2 + g - 52 = g + (v + 1) := ⟨Z.log2 - 53, by omega⟩
  rw [hv] at sX sY
  have dX : ∀ n, X / 2 ^ (g + n) = Z / 2 ^ n := by intro n; rw [Nat.pow_add, ← Nat.div_div_eq_div_mul, hZ]
  have dY : ∀ n, Y / 2 ^ (g + n) = Z / 2 ^ n := by intro n; rw [Nat.pow_add, ← Nat.div_div_eq_div_mul, ← h1]
  have ew : wd X = wd Y := by unfold wd; rw [sX, sY, dX, dY]
  have eh : hf X = hf Y := by unfold hf; rw [sX, sY, show g + (v + 1) - 1 = g + v by omega, dX, dY]
  have er1 : rs X true = true := rfl
  have er2 : rs Y s = true := by
    unfold rs
    rcases h4 with h4 | h4
    · rw [h4]; rfl
    · have : Y % 2 ^ (sh Y - 1) ≠ 0 := by
        rw [sY, show g + (v + 1) - 1 = g + v by omega, Nat.pow_add, Nat.mod_mul]; omega
      rw [bne_iff_ne.2 this, Bool.or_true]
  have ef : fk X = fk Y := by unfold fk; rw [ew, sX, sY]
  have eu : upw X true (dir neg mode) = upw Y s (dir neg mode) := by unfold upw; rw [eh, er1, er2, sX, sY, dX, dY]
  have ek : kk X true (dir neg mode) = kk Y s (dir neg mode) := by unfold kk; rw [ef, eu]
  have gX : ¬ X < 9007199254740992 := by
    have : 1 * Z ≤ 2 ^ g * Z := Nat.mul_le_mul_right _ pg
    omega
  have gY : ¬ Y < 9007199254740992 := by
    have : 1 * Z ≤ 2 ^ g * Z := Nat.mul_le_mul_right _ pg
    omega
  unfold RND rnd
  rw [ek, eh, er1, er2, if_neg gX, if_neg gY]
theorem two_step (neg : Bool) (A B : Nat) (E : Int) (mode : Nat) (hB : 0 < B) (h : A % B = 0 ∨ 9007199254740992 ≤ A / B) :
    RND neg (FX (A / B) 1 E) (FS (A / B) 1 E (decide (A % B ≠ 0))) mode = RND neg (FX A B E) (FS A B E false) mode := by
  rw [FX_one, FS_one]
  unfold FX FS FN FD
  rw [Bool.false_or]
  have hAB := Nat.div_add_mod A B
  by_cases c : 0 ≤ E + 1075
  · have h0 : (-(E + 1075)).toNat = 0 := by omega
    rw [h0, Nat.pow_zero, Nat.div_one, Nat.mul_one]
    generalize (E + 1075).toNat = g at *
    have pg := two_pos g
    have hm1 : A / B * 2 ^ g % 1 = 0 := Nat.mod_one _
    rw [hm1]
    by_cases z : A % B = 0
    · have e1 : A * 2 ^ g = B * (A / B * 2 ^ g) := by rw [← Nat.mul_assoc]; congr 1; omega
      rw [e1, Nat.mul_div_cancel_left _ hB, Nat.mul_mod_right, z]; rfl
    · have hq : 9007199254740992 ≤ A / B := by omega
      rw [decide_eq_true z, Bool.true_or]
      have d1 : A / B * 2 ^ g / 2 ^ g = A / B := Nat.mul_div_cancel _ pg
      have d2 : A * 2 ^ g / B / 2 ^ g = A / B := by rw [Nat.div_div_eq_div_mul, Nat.mul_div_mul_right _ _ pg]
      apply RND_sticky neg _ _ g
      · rw [d1, d2]
      · exact Nat.mul_mod_left _ _
      · rw [d1]; exact hq
      · by_cases y : A * 2 ^ g % B = 0
        · right
          intro y2
          have k1 := Nat.div_add_mod (A * 2 ^ g) B
          have k2 := Nat.div_add_mod (A * 2 ^ g / B) (2 ^ g)
          rw [d2] at k2
          have k3 : A * 2 ^ g = B * (A / B) * 2 ^ g := by
            have : A * 2 ^ g / B = 2 ^ g * (A / B) := by omega
            rw [this] at k1
            have k4 : B * (2 ^ g * (A / B)) = B * (A / B) * 2 ^ g := by grind
            omega
          have := Nat.eq_of_mul_eq_mul_right pg k3
          omega
        · left; rw [decide_eq_true y]
  · have h0 : (E + 1075).toNat = 0 := by omega
    rw [h0, Nat.pow_zero, Nat.mul_one, Nat.mul_one]
    generalize (-(E + 1075)).toNat = r at *
    rw [Nat.div_div_eq_div_mul]
    congr 1
    rw [Bool.eq_iff_iff, Bool.or_eq_true, decide_eq_true_iff, decide_eq_true_iff, decide_eq_true_iff, Nat.mod_mul]
    constructor
    · rintro (h1 | h1) h2
      · omega
      · obtain ⟨_, h3⟩ := Nat.eq_zero_of_add_eq_zero h2
        rcases Nat.mul_eq_zero.1 h3 with h4 | h4
        · omega
        · exact h1 h4
    · intro h1
      by_cases y : A % B = 0
      · right; intro y2; apply h1; rw [y, y2, Nat.mul_zero]
      · exact .inl y
theorem FXS_scale (A B T : Nat) (E : Int) (r : Bool) : FX (A * 2 ^ T) B (E - T) = FX A B E ∧ FS (A * 2 ^ T) B (E - T) r = FS A B E r := by
  have key : ∃ u, FN (A * 2 ^ T) (E - T) = 2 ^ u * FN A E ∧ FD B (E - T) = 2 ^ u * FD B E := by
    refine ⟨T + (E - T + 1075).toNat - (E + 1075).toNat, ?_, ?_⟩
    · unfold FN
      rw [Nat.mul_assoc, ← Nat.pow_add, Nat.mul_left_comm, ← Nat.pow_add]; congr 2; omega
    · unfold FD
      rw [Nat.mul_left_comm, ← Nat.pow_add]; congr 2; omega
  obtain ⟨u, k1, k2⟩ := key
  unfold FX FS
  rw [k1, k2, Nat.mul_div_mul_left _ _ (two_pos u), Nat.mul_mod_mul_left]
  refine ⟨rfl, ?_⟩
  congr 2
  rw [Ne, Nat.mul_eq_zero, eq_iff_iff]
  have := two_pos u
  constructor
  · intro h1 h2; exact h1 (.inr h2)
  · rintro h1 (h2 | h2)
    · omega
    · exact h1 h2
def sAdd (a b mode : Nat) : Nat × Nat :=
  if cls a = 4 ∨ cls b = 4 then (QN, 0)
  else if cls a = 3 ∧ cls b = 3 ∧ sgn a ≠ sgn b then (QN, 16)
  else if cls a = 3 then (a, 0)
  else if cls b = 3 then (b, 0)
  else if sv a + sv b = 0 then (sg (if sgn a = sgn b then sgn a else decide (mode = 2)), 0)
  else RND (decide (sv a + sv b < 0)) (2 * (sv a + sv b).natAbs) false mode
def sMul (a b mode : Nat) : Nat × Nat :=
  if cls a = 4 ∨ cls b = 4 then (QN, 0)
  else if cls a = 3 ∧ cls b = 0 ∨ cls a = 0 ∧ cls b = 3 then (QN, 16)
  else if cls a = 3 ∨ cls b = 3 then (sg (sgn a != sgn b) + INF, 0)
  else if spm a * spm b = 0 then (sg (sgn a != sgn b), 0)
  else RND (sgn a != sgn b) (FX (spm a * spm b) 1 (spe a + spe b)) (FS (spm a * spm b) 1 (spe a + spe b) false) mode
def sDiv (a b mode : Nat) : Nat × Nat :=
  if cls a = 4 ∨ cls b = 4 then (QN, 0)
  else if cls a = 3 ∧ cls b = 3 ∨ cls a = 0 ∧ cls b = 0 then (QN, 16)
  else if cls a = 3 then (sg (sgn a != sgn b) + INF, 0)
  else if cls b = 0 then (sg (sgn a != sgn b) + INF, 8)
  else if cls a = 0 ∨ cls b = 3 then (sg (sgn a != sgn b), 0)
  else RND (sgn a != sgn b) (FX (spm a) (spm b) (spe a - spe b)) (FS (spm a) (spm b) (spe a - spe b) false) mode
end Go.Proofs.Ytmadjhmecfbcmaa.M
end
section
namespace Go.Proofs.Ytmadjhmecfbcmaa.M
open Go.RowKit Go.Proofs.YtmadjhmecfbcmaaW.PrintWords Go.Proofs.YtmadjhmecfbcmaaW.PrintLast Go.Proofs.YtmadjhmecfbcmaaW.PrintMore Go.Proofs.Ytmadjhmecfbcmaa.F
theorem tw_word {m : Nat} (h : m < 18446744073709551616) : tw m = (0, (m : Int)) := by
  unfold tw; rw [Nat.div_eq_of_lt h, Nat.mod_eq_of_lt h]; rfl
theorem U128_Add (p q : Nat) (h : p + q < 340282366920938463463374607431768211456) :
    wide_U128_Add.f (tw p).1 (tw p).2 (tw q).1 (tw q).2 = some ((tw (p + q)).1, (tw (p + q)).2, 0) := by
  unfold wide_U128_Add.f tw
  dsimp only
  rw [if_pos (by omega)]
  congr 1
  ext <;> dsimp only <;> omega
theorem U128_Sub (p q : Nat) (_hp : p < 340282366920938463463374607431768211456) (h : q ≤ p) :
    wide_U128_Sub.f (tw p).1 (tw p).2 (tw q).1 (tw q).2 = some ((tw (p - q)).1, (tw (p - q)).2, 0) := by
  unfold wide_U128_Sub.f tw
  dsimp only
  rw [if_pos (by omega)]
  congr 1
  by_cases c : p % 18446744073709551616 < q % 18446744073709551616
  · rw [if_pos (by omega)]
    ext <;> dsimp only <;> (try split) <;> omega
  · rw [if_neg (by omega)]
    ext <;> dsimp only <;> (try split) <;> omega
theorem tw_eq_zero (p : Nat) (_hp : p < 340282366920938463463374607431768211456) : ((tw p).1 == 0 && ((tw p).2 == 0)) = decide (p = 0) := by
  unfold tw
  rw [Bool.eq_iff_iff, Bool.and_eq_true, beq_iff_eq, beq_iff_eq, decide_eq_true_iff]; dsimp only; omega
theorem cl_id {e : Int} (h : -5000 ≤ e) (h2 : e ≤ 5000) : cl e = e := by unfold cl; omega
theorem exact_scale (N d : Nat) (ea eb : Int) (he : ea = eb + d) (hb : -1074 ≤ eb) : FX N (2 ^ d) ea = 2 * (N * 2 ^ (eb + 1074).toNat) ∧ FS N (2 ^ d) ea false = false := by
  have h0 : (-(ea + 1075)).toNat = 0 := by omega
  have e1 : N * 2 ^ (ea + 1075).toNat = 2 ^ d * (2 * (N * 2 ^ (eb + 1074).toNat)) := by
    have : 2 ^ (ea + 1075).toNat = 2 ^ d * (2 ^ (eb + 1074).toNat * 2) := by rw [← Nat.pow_succ, ← Nat.pow_add]; congr 1; omega
    rw [this]; grind
  unfold FX FS FN FD
  rw [h0, Nat.pow_zero, Nat.mul_one, e1, Nat.mul_div_cancel_left _ (two_pos d), Nat.mul_mod_right]
  exact ⟨rfl, rfl⟩
theorem ar1 {n m P Q r : Nat} (h1 : n + m = P) (h2 : Q + r = m) (h3 : r = 0) : n = P - Q := by omega
theorem ar3 {m D : Nat} (h1 : m < 9007199254740992) (h2 : 2 ^ 71 ≤ D) : m * 1180591620717411303424 < 9007199254740992 * D := by
  have h3 : 2361183241434822606848 ≤ D := h2
  have := Nat.mul_le_mul_left 9007199254740992 h3; omega
theorem ar2 {n m P Q r D : Nat} (h1 : n + m = P) (h2 : Q + r = m) (h3 : Q + D ≤ P) (h4 : r < D) : n = (D - r) + (P - Q - D) := by omega
theorem num_add_ev (fa fb ca cb : Int) (na nb : Bool) (ma mb : Nat) (ea eb : Int) (mode : Nat) (h1 : 1 ≤ ma) (h2 : ma < 9007199254740992) (h3 : 1 ≤ mb) (h4 : mb < 9007199254740992)
    (h5 : -1074 ≤ eb) (h6 : eb ≤ ea) (h7 : ea ≤ 971) (h8 : ea = eb → mb ≤ ma) (h9 : -1074 < ea → 4503599627370496 ≤ ma) :
    mb ≤ ma * 2 ^ (ea - eb).toNat ∧
    Ev (fun k => soft_num_add.f k fa ca na (ma : Int) ea fb cb nb (mb : Int) eb (mode : Int))
      (if na = nb then pr (RND na (2 * ((ma * 2 ^ (ea - eb).toNat + mb) * 2 ^ (eb + 1074).toNat)) false mode)
       else if ma * 2 ^ (ea - eb).toNat = mb then ((sg (decide (mode = 2)) : Int), 0)
       else pr (RND na (2 * ((ma * 2 ^ (ea - eb).toNat - mb) * 2 ^ (eb + 1074).toNat)) false mode)) := by
  obtain ⟨d, hd⟩ : ∃ d : Nat, ea - eb = d := ⟨(ea - eb).toNat, by omega⟩
  rw [show (ea - eb).toNat = d by omega]
  have pd := two_pos d
  have hge : mb ≤ ma * 2 ^ d := by
    by_cases c : d = 0
    · subst c; have := h8 (by omega); omega
    · have := h9 (by omega)
      obtain ⟨u, rfl⟩ : ∃ u, d = u + 1 := ⟨d - 1, by omega⟩
      have pu := two_pos u
      have : ma * 1 ≤ ma * 2 ^ u := Nat.mul_le_mul_left _ pu
      rw [Nat.pow_succ, ← Nat.mul_assoc]; omega
  refine ⟨hge, ?_⟩
  have S1 : Ev (fun k => wide_U128_Shl.f k 0 (ma : Int) 70) (tw (ma * 1180591620717411303424)) := by
    have := Shl_tw ma 70 (by omega) (by omega)
    rw [tw_word (by omega), show (2 : Nat) ^ 70 = 1180591620717411303424 from rfl, Nat.mod_eq_of_lt (by omega)] at this; exact this
  have S2 : Ev (fun k => wide_U128_Shl.f k 0 (mb : Int) 70) (tw (mb * 1180591620717411303424)) := by
    have := Shl_tw mb 70 (by omega) (by omega)
    rw [tw_word (by omega), show (2 : Nat) ^ 70 = 1180591620717411303424 from rfl, Nat.mod_eq_of_lt (by omega)] at this; exact this
  have S3 := Shr_tw (mb * 1180591620717411303424) d (by omega) (by omega)
  have w1 : wrap64 (ea - eb) = (d : Int) := by rw [w64 (by omega) (by omega)]; omega
  have w2 : wrap64 (ea - 70) = ea - 70 := w64 (by omega) (by omega)
  have hc : cl (ea - 70) = ea - 70 := cl_id (by omega) (by omega)
  have hqd := Nat.div_add_mod (mb * 1180591620717411303424) (2 ^ d)
  have hqm := Nat.mod_lt (mb * 1180591620717411303424) pd
  have hql : mb * 1180591620717411303424 / 2 ^ d ≤ mb * 1180591620717411303424 := Nat.div_le_self _ _
  have hqp : mb * 1180591620717411303424 / 2 ^ d ≤ ma * 1180591620717411303424 := by
    have h10 : mb * 1180591620717411303424 ≤ 2 ^ d * (ma * 1180591620717411303424) := by
      have : mb * 1180591620717411303424 ≤ ma * 2 ^ d * 1180591620717411303424 := Nat.mul_le_mul_right _ hge
      rw [show ma * 2 ^ d * 1180591620717411303424 = 2 ^ d * (ma * 1180591620717411303424) by grind] at this; exact this
    exact Nat.div_le_of_le_mul h10
  have hlostd : mb * 1180591620717411303424 % 2 ^ d ≠ 0 → 71 ≤ d := by
    intro hne
    by_cases c : d ≤ 70
    · exfalso; apply hne
      have : (1180591620717411303424 : Nat) = 2 ^ d * 2 ^ (70 - d) := by rw [← Nat.pow_add, show d + (70 - d) = 70 by omega]
      rw [this, Nat.mul_left_comm, Nat.mul_mod_right]
    · omega
  have fin : ∀ (N s : Nat) (lost : Bool), N ≠ 0 → s < 340282366920938463463374607431768211456 → N * 1180591620717411303424 / 2 ^ d = s → lost = decide (N * 1180591620717411303424 % 2 ^ d ≠ 0) → s ≠ 0 →
      (lost = true → 9007199254740992 ≤ s) →
      Ev (fun k => round_Round.f k na (tw s).1 (tw s).2 (ea - 70) lost (mode : Int)) (pr (RND na (2 * (N * 2 ^ (eb + 1074).toNat)) false mode)) := by
    intro N s lost hN hs e1 e2 hs0 hl
    have R := Round_ev na s (ea - 70) lost mode hs
    rw [if_neg hs0, hc] at R
    have e3 : (lost && decide (53 < bl s)) = lost := by
      cases lost
      · rfl
      · rw [Bool.true_and, decide_eq_true_iff]
        have h11 := hl rfl
        by_cases c : bl s ≤ 53
        · have := bl_small c; omega
        · omega
    rw [e3] at R
    have T := two_step na (N * 1180591620717411303424) (2 ^ d) (ea - 70) mode pd (by
      by_cases c : N * 1180591620717411303424 % 2 ^ d = 0
      · exact .inl c
      · right; rw [e1]; apply hl; rw [e2, decide_eq_true c])
    rw [e1, ← e2] at T
    have K := FXS_scale N (2 ^ d) 70 ea false
    rw [show (2 : Nat) ^ 70 = 1180591620717411303424 from rfl, show ((70 : Nat) : Int) = 70 from rfl] at K
    have X := exact_scale N d ea eb (by omega) h5
    rw [K.1, K.2, X.1, X.2] at T
    rw [T] at R
    exact R
  unfold soft_num_add.f
  refine Ev.b _ S1 (Ev.b _ S2 ?_)
  rw [w1]
  refine Ev.b _ S3 ?_
  dsimp only
  rw [w2]
  by_cases hs : na = nb
  · rw [if_pos hs]
    have hs' : (na == nb) = true := by rw [beq_iff_eq]; exact hs
    have hq : (ma * 2 ^ d + mb) * 1180591620717411303424 / 2 ^ d = ma * 1180591620717411303424 + mb * 1180591620717411303424 / 2 ^ d := by
      rw [show (ma * 2 ^ d + mb) * 1180591620717411303424 = mb * 1180591620717411303424 + 2 ^ d * (ma * 1180591620717411303424) by grind, Nat.add_mul_div_left _ _ pd]; omega
    have hm : (ma * 2 ^ d + mb) * 1180591620717411303424 % 2 ^ d = mb * 1180591620717411303424 % 2 ^ d := by
      rw [show (ma * 2 ^ d + mb) * 1180591620717411303424 = mb * 1180591620717411303424 + 2 ^ d * (ma * 1180591620717411303424) by grind, Nat.add_mul_mod_self_left]
    have g1 : ma * 1180591620717411303424 + mb * 1180591620717411303424 / 2 ^ d < 340282366920938463463374607431768211456 := by omega
    have g2 : 9007199254740992 ≤ ma * 1180591620717411303424 + mb * 1180591620717411303424 / 2 ^ d := Nat.le_trans (by omega) (Nat.le_add_right _ _)
    have F := fin (ma * 2 ^ d + mb) _ (decide (mb * 1180591620717411303424 % 2 ^ d ≠ 0)) (by omega) g1 hq (by rw [hm]) (Nat.ne_of_gt (Nat.lt_of_lt_of_le (by decide) g2)) (fun _ => g2)
    have UA := U128_Add _ _ g1
    refine Ev.congr (fun k => by rw [if_pos hs']) (Ev.b _ (Ev.const UA) ?_)
    dsimp only
    exact Ev.b (f := fun _ b => some (b.1, b.2)) _ F (Ev.now _)
  · rw [if_neg hs]
    have hs' : ¬ (na == nb) = true := by rw [beq_iff_eq]; exact hs
    have g0 : ma * 1180591620717411303424 < 340282366920938463463374607431768211456 := by omega
    have US := U128_Sub _ _ g0 hqp
    refine Ev.congr (fun k => by rw [if_neg hs']) (Ev.b _ (Ev.const US) ?_)
    dsimp only
    rw [tw_eq_zero _ (Nat.lt_of_le_of_lt (Nat.sub_le _ _) g0)]
    by_cases hz : ma * 2 ^ d = mb
    · rw [if_pos hz]
      have z : ma * 1180591620717411303424 - mb * 1180591620717411303424 / 2 ^ d = 0 := by
        rw [← hz, show ma * 2 ^ d * 1180591620717411303424 = 2 ^ d * (ma * 1180591620717411303424) by grind, Nat.mul_div_cancel_left _ pd]; omega
      have hmz : ((mode : Int) == 2) = decide (mode = 2) := by rw [Bool.eq_iff_iff, beq_iff_eq, decide_eq_true_iff]; omega
      rw [decide_eq_true z]
      refine Ev.congr (fun k => by rw [if_pos rfl, hmz]) (Ev.b (f := fun _ b => some (b, (0 : Int))) _ (zero_ev _) (Ev.now _))
    · rw [if_neg hz]
      have hlt : mb < ma * 2 ^ d := by omega
      have hA : (ma * 2 ^ d - mb) * 1180591620717411303424 + mb * 1180591620717411303424 = 2 ^ d * (ma * 1180591620717411303424) := by
        rw [← Nat.add_mul, Nat.sub_add_cancel hge]; grind
      have hqlt : mb * 1180591620717411303424 / 2 ^ d < ma * 1180591620717411303424 := by
        rw [Nat.div_lt_iff_lt_mul pd, Nat.mul_right_comm]
        exact Nat.mul_lt_mul_of_pos_right hlt (by decide)
      have hN : ma * 2 ^ d - mb ≠ 0 := by omega
      obtain ⟨N, hNN⟩ : ∃ N, ma * 2 ^ d - mb = N := ⟨_, rfl⟩
      obtain ⟨p, hpp⟩ : ∃ p, ma * 1180591620717411303424 = p := ⟨_, rfl⟩
      obtain ⟨q, hqq⟩ : ∃ q, mb * 1180591620717411303424 / 2 ^ d = q := ⟨_, rfl⟩
      obtain ⟨r, hrr⟩ : ∃ r, mb * 1180591620717411303424 % 2 ^ d = r := ⟨_, rfl⟩
      rw [hNN, hpp] at hA
      rw [hpp, hqq] at hqlt hqp
      rw [hqq, hrr] at hqd
      rw [hrr] at hlostd hqm
      rw [hNN] at hN
      rw [hNN, hpp, hqq, hrr]
      have z : ¬ p - q = 0 := Nat.sub_ne_zero_of_lt hqlt
      rw [decide_eq_false z]
      by_cases hr : r = 0
      · have hA2 : N * 1180591620717411303424 = 2 ^ d * (p - q) := by rw [Nat.mul_sub]; exact ar1 hA hqd hr
        have F := fin N (p - q) false hN (by omega) (by rw [hA2, Nat.mul_div_cancel_left _ pd]) (by rw [hA2, Nat.mul_mod_right]; rfl) z (by simp)
        rw [decide_eq_false (show ¬ r ≠ 0 by omega)]
        exact Ev.congr (fun k => by rw [if_neg (by simp), if_neg (by simp)]) (Ev.b (f := fun _ b => some (b.1, b.2)) _ F (Ev.now _))
      · have h71 := hlostd hr
        have hma := h9 (by omega)
        have hA2 : N * 1180591620717411303424 = (2 ^ d - r) + 2 ^ d * (p - q - 1) := by
          rw [Nat.mul_sub, Nat.mul_sub, Nat.mul_one]
          have h12 : 2 ^ d * q + 2 ^ d ≤ 2 ^ d * p := by
            have : 2 ^ d * (q + 1) ≤ 2 ^ d * p := Nat.mul_le_mul_left _ hqlt
            rw [Nat.mul_add, Nat.mul_one] at this; exact this
          exact ar2 hA hqd h12 hqm
        have hdq : N * 1180591620717411303424 / 2 ^ d = p - q - 1 := by
          rw [hA2, Nat.add_mul_div_left _ _ pd, Nat.div_eq_of_lt (by omega)]; omega
        have hdm : N * 1180591620717411303424 % 2 ^ d = 2 ^ d - r := by
          rw [hA2, Nat.add_mul_mod_self_left, Nat.mod_eq_of_lt (by omega)]
        have hqs : q < 9007199254740992 := by
          rw [← hqq, Nat.div_lt_iff_lt_mul pd]
          exact ar3 h4 (pow_le h71)
        have F := fin N (p - q - 1) true hN (by omega) hdq (by rw [hdm, decide_eq_true (show 2 ^ d - r ≠ 0 by omega)]) (by omega) (by intro _; omega)
        rw [decide_eq_true (show r ≠ 0 from hr)]
        have U := U128_Sub (p - q) 1 (by omega) (by omega)
        rw [tw_word (show 1 < 18446744073709551616 by decide), show ((1 : Nat) : Int) = 1 from rfl] at U
        dsimp only at U
        refine Ev.congr (fun k => by rw [if_neg (by simp), if_pos rfl]) (Ev.b _ (Ev.const U) ?_)
        dsimp only
        exact Ev.b (f := fun _ b => some (b.1, b.2)) _ F (Ev.now _)
end Go.Proofs.Ytmadjhmecfbcmaa.M
end
section
namespace Go.Proofs.Ytmadjhmecfbcmaa.M
open Go.RowKit Go.Proofs.YtmadjhmecfbcmaaW.PrintWords Go.Proofs.YtmadjhmecfbcmaaW.PrintLast Go.Proofs.YtmadjhmecfbcmaaW.PrintMore Go.Proofs.Ytmadjhmecfbcmaa.F
theorem either_ok (x0 : Int) (cx : Nat) (x2 : Bool) (x3 x4 y0 : Int) (cy : Nat) (y2 : Bool) (y3 y4 : Int) (c : Nat) :
    soft_either.f x0 (cx : Int) x2 x3 x4 y0 (cy : Int) y2 y3 y4 (c : Int) = some (decide (cx = c ∨ cy = c)) := by
  unfold soft_either.f
  by_cases h : cx = c
  · rw [if_pos (by omega), decide_eq_true (.inl h)]
  · rw [if_neg (by omega)]; congr 1; rw [Bool.eq_iff_iff, beq_iff_eq, decide_eq_true_iff]; omega
theorem eq_nat (a b : Nat) : ((a : Int) == (b : Int)) = decide (a = b) := by rw [Bool.eq_iff_iff, beq_iff_eq, decide_eq_true_iff]; omega
theorem sgn_zero {a : Nat} (h : U a) (hz : cls a = 0) : a = sg (sgn a) := by
  have h1 := a_parts a h
  have h2 := (key_cls a).2.2.2.1 hz
  omega
theorem sv_eq (a : Nat) : sv a = if sgn a then -(mg a : Int) else mg a := rfl
theorem RND_self (a mode : Nat) (h : U a) (hf : cls a ≤ 2) : RND (sgn a) (2 * mg a) false mode = (a, 0) := by
  unfold mg
  rw [RND_exact _ _ _ ((key_cls a).1.1 hf), ← a_parts a h]
theorem sAdd_fin {a b : Nat} (mode : Nat) (ca : cls a ≤ 2) (cb : cls b ≤ 2) :
    sAdd a b mode = if sv a + sv b = 0 then (sg (if sgn a = sgn b then sgn a else decide (mode = 2)), 0) else RND (decide (sv a + sv b < 0)) (2 * (sv a + sv b).natAbs) false mode := by
  have c1 : ¬ (cls a = 4 ∨ cls b = 4) := by omega
  have c2 : ¬ (cls a = 3 ∧ cls b = 3 ∧ sgn a ≠ sgn b) := fun h => by have := h.1; omega
  have c3 : ¬ cls a = 3 := by omega
  have c4 : ¬ cls b = 3 := by omega
  unfold sAdd
  rw [if_neg c1, if_neg c2, if_neg c3, if_neg c4]
theorem sAdd_zero_left (a b mode : Nat) (hb : U b) (ca : cls a = 0) (cb : cls b ≤ 2) (cb0 : cls b ≠ 0) : sAdd a b mode = (b, 0) := by
  have m0 : mg a = 0 := (mg_zero a).2 ca
  have mb : mg b ≠ 0 := fun h => cb0 ((mg_zero b).1 h)
  have ha0 : sv a = 0 := by rw [sv_eq, m0]; split <;> rfl
  rw [sAdd_fin mode (by omega) cb, ha0, Int.zero_add, if_neg (by rw [sv_eq]; split <;> omega)]
  rw [← RND_self b mode hb cb]
  have e1 : decide (sv b < 0) = sgn b := by
    rw [sv_eq]; cases sgn b
    · rw [decide_eq_false]; simp
    · rw [decide_eq_true]; simp; omega
  have e2 : (sv b).natAbs = mg b := by rw [sv_eq]; split <;> omega
  rw [e1, e2]
theorem sAdd_zero_right (a b mode : Nat) (ha : U a) (cb : cls b = 0) (ca : cls a ≤ 2) (ca0 : cls a ≠ 0) : sAdd a b mode = (a, 0) := by
  have m0 : mg b = 0 := (mg_zero b).2 cb
  have ma : mg a ≠ 0 := fun h => ca0 ((mg_zero a).1 h)
  have hb0 : sv b = 0 := by rw [sv_eq, m0]; split <;> rfl
  rw [sAdd_fin mode ca (by omega), hb0, Int.add_zero, if_neg (by rw [sv_eq]; split <;> omega)]
  rw [← RND_self a mode ha ca]
  have e1 : decide (sv a < 0) = sgn a := by
    rw [sv_eq]; cases sgn a
    · rw [decide_eq_false]; simp
    · rw [decide_eq_true]; simp; omega
  have e2 : (sv a).natAbs = mg a := by rw [sv_eq]; split <;> omega
  rw [e1, e2]
theorem big_small (a b mode : Nat) (ca : cls a ≤ 2) (ca0 : cls a ≠ 0) (cb : cls b ≤ 2) (cb0 : cls b ≠ 0) (he : spe b ≤ spe a) (hge : spm b ≤ spm a * 2 ^ (spe a - spe b).toNat) :
    (if sgn a = sgn b then pr (RND (sgn a) (2 * ((spm a * 2 ^ (spe a - spe b).toNat + spm b) * 2 ^ (spe b + 1074).toNat)) false mode)
       else if spm a * 2 ^ (spe a - spe b).toNat = spm b then ((sg (decide (mode = 2)) : Int), 0)
       else pr (RND (sgn a) (2 * ((spm a * 2 ^ (spe a - spe b).toNat - spm b) * 2 ^ (spe b + 1074).toNat)) false mode)) = pr (sAdd a b mode) ∧
    sAdd a b mode = sAdd b a mode := by
  have hb := spe_bd b
  have h1 := mg_split a ca
  have h2 := mg_split b cb
  have ma : mg a ≠ 0 := fun h => ca0 ((mg_zero a).1 h)
  have mb : mg b ≠ 0 := fun h => cb0 ((mg_zero b).1 h)
  have e1 : 2 ^ (spe a + 1074).toNat = 2 ^ (spe a - spe b).toNat * 2 ^ (spe b + 1074).toNat := by rw [← Nat.pow_add]; congr 1; omega
  have h3 : mg a = spm a * 2 ^ (spe a - spe b).toNat * 2 ^ (spe b + 1074).toNat := by rw [h1, e1, Nat.mul_assoc]
  have pp := two_pos (spe b + 1074).toNat
  generalize 2 ^ (spe b + 1074).toNat = P at *
  generalize spm a * 2 ^ (spe a - spe b).toNat = A at *
  generalize spm b = B at *
  have hle : mg b ≤ mg a := by rw [h2, h3]; exact Nat.mul_le_mul_right _ hge
  have hadd : (A + B) * P = mg a + mg b := by rw [Nat.add_mul, h2, h3]
  have hsub : (A - B) * P = mg a - mg b := by rw [Nat.sub_mul, h2, h3]
  have heq : A = B ↔ mg a = mg b := by
    rw [h2, h3]
    exact ⟨fun h => by rw [h], fun h => Nat.eq_of_mul_eq_mul_right pp h⟩
  have swap : sAdd a b mode = sAdd b a mode := by
    rw [sAdd_fin mode ca cb, sAdd_fin mode cb ca, Int.add_comm (sv b)]
    have : (if sgn a = sgn b then sgn a else decide (mode = 2)) = (if sgn b = sgn a then sgn b else decide (mode = 2)) := by
      by_cases h : sgn a = sgn b
      · rw [if_pos h, if_pos h.symm, h]
      · rw [if_neg h, if_neg (Ne.symm h)]
    rw [this]
  refine ⟨?_, swap⟩
  rw [hadd, hsub, sAdd_fin mode ca cb]
  by_cases hs : sgn a = sgn b
  · have hsv : sv a + sv b = if sgn a then -((mg a + mg b : Nat) : Int) else ((mg a + mg b : Nat) : Int) := by
      rw [sv_eq, sv_eq, ← hs]; split <;> omega
    have hne : ¬ sv a + sv b = 0 := by rw [hsv]; split <;> omega
    rw [if_pos hs, if_neg hne]
    have e1 : decide (sv a + sv b < 0) = sgn a := by
      rw [hsv]; cases sgn a
      · rw [decide_eq_false]; simp; omega
      · rw [decide_eq_true]; simp; omega
    have e2 : (sv a + sv b).natAbs = mg a + mg b := by rw [hsv]; split <;> omega
    rw [e1, e2]
  · have hb2 : sgn b = !sgn a := by revert hs; cases sgn a <;> cases sgn b <;> simp
    have hsv : sv a + sv b = if sgn a then -((mg a - mg b : Nat) : Int) else ((mg a - mg b : Nat) : Int) := by
      rw [sv_eq, sv_eq, hb2]; cases sgn a <;> simp <;> omega
    rw [if_neg hs]
    by_cases hz : A = B
    · have hz' := heq.1 hz
      rw [if_pos hz, if_pos (by rw [hsv, hz']; split <;> omega), if_neg hs]; rfl
    · have hz' : ¬ mg a = mg b := fun h => hz (heq.2 h)
      have hne : ¬ sv a + sv b = 0 := by rw [hsv]; split <;> omega
      rw [if_neg hz, if_neg hne]
      have e1 : decide (sv a + sv b < 0) = sgn a := by
        rw [hsv]; cases sgn a
        · rw [decide_eq_false]; simp
        · rw [decide_eq_true]; simp; omega
      have e2 : (sv a + sv b).natAbs = mg a - mg b := by rw [hsv]; split <;> omega
      rw [e1, e2]
theorem spe_cls (a : Nat) (h : cls a ≤ 2) (h2 : -1074 < spe a) (h0 : cls a ≠ 0) : 4503599627370496 ≤ spm a := by
  unfold spe at h2; unfold spm
  split
  · omega
  · rename_i c; rw [if_neg c] at h2; split at h2 <;> omega
theorem add_big (a b mode : Nat) (k0 : cls a ≤ 2) (ca0 : cls a ≠ 0) (cb : cls b ≤ 2) (cb0 : cls b ≠ 0) (h : spe b < spe a ∨ spe a = spe b ∧ spm b ≤ spm a) (fa fb xa xb : Int) :
    Ev (fun k => soft_num_add.f k fa xa (sgn a) (spm a : Int) (spe a) fb xb (sgn b) (spm b : Int) (spe b) (mode : Int)) (pr (sAdd a b mode)) ∧ sAdd a b mode = sAdd b a mode := by
  have ha := spe_bd a
  have hb := spe_bd b
  have ma : spm a ≠ 0 := fun h => ca0 ((spm_zero a k0).1 h)
  have mb : spm b ≠ 0 := fun h => cb0 ((spm_zero b cb).1 h)
  have N := num_add_ev fa fb xa xb (sgn a) (sgn b) (spm a) (spm b) (spe a) (spe b) mode (by omega) (spm_lt a) (by omega) (spm_lt b) hb.1 (by omega) ha.2 (by omega) (fun h => spe_cls a k0 h ca0)
  have B := big_small a b mode k0 ca0 cb cb0 (by omega) N.1
  rw [B.1] at N
  exact ⟨N.2, B.2⟩
theorem Add_ev (a b mode : Nat) (ha : U a) (hb : U b) : Ev (fun k => soft_Add.f k (a : Int) (b : Int) (mode : Int)) (pr (sAdd a b mode)) := by
  have la := cls_le a
  have lb := cls_le b
  have m2 : ((mode : Int) == 2) = decide (mode = 2) := eq_nat mode 2
  have ne : (sgn a != sgn b) = decide (sgn a ≠ sgn b) := by rw [Bool.eq_iff_iff, bne_iff_ne, decide_eq_true_iff]
  have za : ((spm a : Int) == 0) = decide (spm a = 0) := eq_nat _ 0
  have zb : ((spm b : Int) == 0) = decide (spm b = 0) := eq_nat _ 0
  unfold soft_Add.f
  refine Ev.b _ (of_ev a ha) (Ev.b _ (of_ev b hb) ?_)
  dsimp only
  have E4 := either_ok (a : Int) (cls a) (sgn a) (spm a : Int) (spe a) (b : Int) (cls b) (sgn b) (spm b : Int) (spe b) 4
  refine Ev.b _ (Ev.const E4) ?_
  by_cases c4 : cls a = 4 ∨ cls b = 4
  · have hS : sAdd a b mode = (QN, 0) := by unfold sAdd; rw [if_pos c4]
    rw [hS, decide_eq_true c4]
    exact Ev.congr (fun k => by rw [if_pos rfl]) (Ev.b (f := fun _ x => some (x, (0 : Int))) _ (Ev.const (show pattern_Quiet.f = some (QN : Int) from rfl)) (Ev.now _))
  rw [decide_eq_false c4]
  have J2 : cls a ≤ 2 → cls b ≤ 2 → ¬ (cls a = 0 ∧ cls b = 0 ∧ sgn a = sgn b) → Ev (fun k => soft_Add.j2 k (a : Int) (b : Int) (mode : Int) (if spm a = 0 then decide (spm b = 0) else false) (a : Int) (cls a : Int) (sgn a) (spm a : Int) (spe a) (b : Int) (cls b : Int) (sgn b) (spm b : Int) (spe b)) (pr (sAdd a b mode)) := by
    intro ka kb hn
    have sa := spm_zero a ka
    have sb := spm_zero b kb
    refine Ev.next ?_
    simp only [soft_Add.j2]
    rw [m2]
    by_cases a0 : cls a = 0
    · by_cases b0 : cls b = 0
      · have hS : sAdd a b mode = (sg (decide (mode = 2)), 0) := by
          have m0 : mg a = 0 := (mg_zero a).2 a0
          have m1 : mg b = 0 := (mg_zero b).2 b0
          rw [sAdd_fin mode ka kb, if_pos (by rw [sv_eq, sv_eq, m0, m1]; split <;> split <;> rfl), if_neg (fun h => hn ⟨a0, b0, h⟩)]
        rw [hS, if_pos (sa.2 a0), decide_eq_true (sb.2 b0)]
        exact Ev.congr (fun k => by rw [if_pos rfl]) (Ev.b (f := fun _ x => some (x, (0 : Int))) _ (zero_ev _) (Ev.now _))
      · have sb' : ¬ spm b = 0 := fun h => b0 (sb.1 h)
        rw [sAdd_zero_left a b mode hb a0 kb b0, if_pos (sa.2 a0), decide_eq_false sb']
        have : (spm a : Int) = 0 := by rw [sa.2 a0]; rfl
        exact Ev.all fun k => by rw [if_neg (by simp), if_pos this]; rfl
    · have sa' : ¬ spm a = 0 := fun h => a0 (sa.1 h)
      have sa2 : ¬ (spm a : Int) = 0 := by omega
      rw [if_neg sa']
      by_cases b0 : cls b = 0
      · have : (spm b : Int) = 0 := by rw [sb.2 b0]; rfl
        rw [sAdd_zero_right a b mode ha b0 ka a0]
        exact Ev.all fun k => by rw [if_neg (by simp), if_neg sa2, if_pos this]; rfl
      · have sb2 : ¬ (spm b : Int) = 0 := by have : ¬ spm b = 0 := fun h => b0 (sb.1 h); omega
        by_cases h1 : spe a < spe b
        · have A := add_big b a mode kb b0 ka a0 (.inl h1) (b : Int) (a : Int) (cls b : Int) (cls a : Int)
          rw [A.2] at A
          exact Ev.congr (fun k => by rw [if_neg (by simp), if_neg sa2, if_neg sb2, if_pos h1]) (Ev.b (f := fun _ x => some (x.1, x.2)) _ A.1 (Ev.now _))
        · by_cases h2 : spe a = spe b
          · by_cases h3 : (spm a : Int) < (spm b : Int)
            · have A := add_big b a mode kb b0 ka a0 (.inr ⟨h2.symm, by omega⟩) (b : Int) (a : Int) (cls b : Int) (cls a : Int)
              rw [A.2] at A
              exact Ev.congr (fun k => by rw [if_neg (by simp), if_neg sa2, if_neg sb2, if_neg h1, if_pos h2, if_pos h3]) (Ev.b (f := fun _ x => some (x.1, x.2)) _ A.1 (Ev.now _))
            · have A := add_big a b mode ka a0 kb b0 (.inr ⟨h2, by omega⟩) (a : Int) (b : Int) (cls a : Int) (cls b : Int)
              exact Ev.congr (fun k => by rw [if_neg (by simp), if_neg sa2, if_neg sb2, if_neg h1, if_pos h2, if_neg h3]) (Ev.b (f := fun _ x => some (x.1, x.2)) _ A.1 (Ev.now _))
          · have A := add_big a b mode ka a0 kb b0 (.inl (by omega)) (a : Int) (b : Int) (cls a : Int) (cls b : Int)
            exact Ev.congr (fun k => by rw [if_neg (by simp), if_neg sa2, if_neg sb2, if_neg h1, if_neg h2]) (Ev.b (f := fun _ x => some (x.1, x.2)) _ A.1 (Ev.now _))
  have J1 : cls a ≤ 2 → cls b ≤ 2 → Ev (fun k => soft_Add.j1 k (a : Int) (b : Int) (mode : Int) (if spm a = 0 then (if spm b = 0 then sgn a == sgn b else false) else false) (a : Int) (cls a : Int) (sgn a) (spm a : Int) (spe a) (b : Int) (cls b : Int) (sgn b) (spm b : Int) (spe b)) (pr (sAdd a b mode)) := by
    intro ka kb
    have sa := spm_zero a ka
    have sb := spm_zero b kb
    refine Ev.next ?_
    simp only [soft_Add.j1]
    by_cases z : cls a = 0 ∧ cls b = 0 ∧ sgn a = sgn b
    · obtain ⟨z1, z2, z3⟩ := z
      have hS : sAdd a b mode = (a, 0) := by
        have m0 : mg a = 0 := (mg_zero a).2 z1
        have m1 : mg b = 0 := (mg_zero b).2 z2
        rw [sAdd_fin mode ka kb, if_pos (by rw [sv_eq, sv_eq, m0, m1]; split <;> split <;> rfl), if_pos z3, ← sgn_zero ha z1]
      rw [hS, if_pos (sa.2 z1), if_pos (sb.2 z2), beq_iff_eq.2 z3]
      exact Ev.all fun k => by rw [if_pos rfl]; rfl
    · have hb0 : (if spm a = 0 then (if spm b = 0 then sgn a == sgn b else false) else false) = false := by
        split
        · split
          · rw [beq_eq_false_iff_ne]; intro h; exact z ⟨sa.1 (by assumption), sb.1 (by assumption), h⟩
          · rfl
        · rfl
      rw [hb0]
      have J := J2 ka kb z
      rw [zb]
      by_cases a0 : spm a = 0
      · rw [if_pos a0] at J
        exact Ev.congr (fun k => by rw [if_neg (by simp), if_pos (by omega)]) J
      · rw [if_neg a0] at J
        exact Ev.congr (fun k => by rw [if_neg (by simp), if_neg (by omega)]) J
  have J0 : Ev (fun k => soft_Add.j0 k (a : Int) (b : Int) (mode : Int) (if cls a = 3 then (if cls b = 3 then sgn a != sgn b else false) else false) (a : Int) (cls a : Int) (sgn a) (spm a : Int) (spe a) (b : Int) (cls b : Int) (sgn b) (spm b : Int) (spe b)) (pr (sAdd a b mode)) := by
    refine Ev.next ?_
    simp only [soft_Add.j0]
    by_cases a3 : cls a = 3
    · rw [if_pos a3]
      by_cases b3 : cls b = 3
      · rw [if_pos b3, ne]
        by_cases hs : sgn a = sgn b
        · have hS : sAdd a b mode = (a, 0) := by unfold sAdd; rw [if_neg c4, if_neg (by intro h; exact h.2.2 hs), if_pos a3]
          rw [hS, decide_eq_false (by intro h; exact h hs)]
          exact Ev.all fun k => by rw [if_neg (by simp), if_pos (by omega)]; rfl
        · have hS : sAdd a b mode = (QN, 16) := by unfold sAdd; rw [if_neg c4, if_pos ⟨a3, b3, hs⟩]
          rw [hS, decide_eq_true hs]
          exact Ev.all fun k => by rw [if_pos rfl]; rfl
      · have hS : sAdd a b mode = (a, 0) := by unfold sAdd; rw [if_neg c4, if_neg (by omega), if_pos a3]
        rw [hS, if_neg b3]
        exact Ev.all fun k => by rw [if_neg (by simp), if_pos (by omega)]; rfl
    · rw [if_neg a3]
      by_cases b3 : cls b = 3
      · have hS : sAdd a b mode = (b, 0) := by unfold sAdd; rw [if_neg c4, if_neg (by omega), if_neg a3, if_pos b3]
        rw [hS]
        exact Ev.all fun k => by rw [if_neg (by simp), if_neg (by omega), if_pos (by omega)]; rfl
      · have J := J1 (by omega) (by omega)
        by_cases a0 : spm a = 0
        · rw [if_pos a0] at J
          by_cases b0 : spm b = 0
          · rw [if_pos b0] at J
            exact Ev.congr (fun k => by rw [if_neg (by simp), if_neg (by omega), if_neg (by omega), if_pos (by omega), if_pos (by omega)]) J
          · rw [if_neg b0] at J
            exact Ev.congr (fun k => by rw [if_neg (by simp), if_neg (by omega), if_neg (by omega), if_pos (by omega), if_neg (by omega)]) J
        · rw [if_neg a0] at J
          exact Ev.congr (fun k => by rw [if_neg (by simp), if_neg (by omega), if_neg (by omega), if_neg (by omega)]) J
  by_cases a3 : cls a = 3
  · rw [if_pos a3] at J0
    by_cases b3 : cls b = 3
    · rw [if_pos b3] at J0
      exact Ev.congr (fun k => by rw [if_neg (by simp), if_pos (by omega), if_pos (by omega)]) J0
    · rw [if_neg b3] at J0
      exact Ev.congr (fun k => by rw [if_neg (by simp), if_pos (by omega), if_neg (by omega)]) J0
  · rw [if_neg a3] at J0
    exact Ev.congr (fun k => by rw [if_neg (by simp), if_neg (by omega)]) J0
theorem Sub_ev (a b mode : Nat) (ha : U a) (hb : U b) : Ev (fun k => soft_Sub.f k (a : Int) (b : Int) (mode : Int)) (pr (sAdd a (ng b) mode)) := by
  unfold soft_Sub.f
  exact Ev.b _ (Neg_ev b hb) (Ev.b (f := fun _ x => some (x.1, x.2)) _ (Add_ev a (ng b) mode ha (ng_U b hb)) (Ev.now _))
end Go.Proofs.Ytmadjhmecfbcmaa.M
end
section
namespace Go.Proofs.Ytmadjhmecfbcmaa.M
open Go.RowKit Go.Proofs.YtmadjhmecfbcmaaW.PrintWords Go.Proofs.YtmadjhmecfbcmaaW.PrintLast Go.Proofs.YtmadjhmecfbcmaaW.PrintMore Go.Proofs.Ytmadjhmecfbcmaa.F
theorem Quiet_ok : pattern_Quiet.f = some (QN : Int) := rfl
theorem invalid_ok : soft_invalid.f = some ((QN : Int), 16) := rfl
theorem wMul_ok (x y : Nat) (hx : x < 18446744073709551616) (hy : y < 18446744073709551616) : wide_Mul.f (x : Int) (y : Int) = some ((tw (x * y)).1, (tw (x * y)).2) := by
  unfold wide_Mul.f bits_Mul64.f
  rw [if_pos (by omega)]
  unfold tw
  simp only [Option.bind_some]
  rw [← Int.natCast_mul]
  congr 1
theorem Mul_ev (a b mode : Nat) (ha : U a) (hb : U b) : Ev (fun k => soft_Mul.f k (a : Int) (b : Int) (mode : Int)) (pr (sMul a b mode)) := by
  unfold soft_Mul.f
  refine Ev.b _ (of_ev a ha) (Ev.b _ (of_ev b hb) ?_)
  dsimp only
  have E := fun c => either_ok (a : Int) (cls a) (sgn a) (spm a : Int) (spe a) (b : Int) (cls b) (sgn b) (spm b : Int) (spe b) c
  have E4 := E 4
  have E3 := E 3
  have E0 := E 0
  rw [show ((4 : Nat) : Int) = 4 from rfl] at E4
  rw [show ((3 : Nat) : Int) = 3 from rfl] at E3
  rw [show ((0 : Nat) : Int) = 0 from rfl] at E0
  refine Ev.b _ (Ev.const E4) ?_
  by_cases c4 : cls a = 4 ∨ cls b = 4
  · have hS : sMul a b mode = (QN, 0) := by unfold sMul; rw [if_pos c4]
    rw [hS, decide_eq_true c4]
    exact Ev.congr (fun k => by rw [if_pos rfl]) (Ev.b (f := fun _ x => some (x, (0 : Int))) _ (Ev.const Quiet_ok) (Ev.now _))
  rw [decide_eq_false c4]
  have J : Ev (fun k => soft_Mul.j0 k (mode : Int) (sgn a != sgn b) (if cls a = 3 ∨ cls b = 3 then decide (cls a = 0 ∨ cls b = 0) else false) (a : Int) (cls a : Int) (sgn a) (spm a : Int) (spe a) (b : Int) (cls b : Int) (sgn b) (spm b : Int) (spe b)) (pr (sMul a b mode)) := by
    refine Ev.next ?_
    simp only [soft_Mul.j0]
    by_cases c3 : cls a = 3 ∨ cls b = 3
    · rw [if_pos c3]
      by_cases c0 : cls a = 0 ∨ cls b = 0
      · have hS : sMul a b mode = (QN, 16) := by unfold sMul; rw [if_neg c4, if_pos (show cls a = 3 ∧ cls b = 0 ∨ cls a = 0 ∧ cls b = 3 by omega)]
        rw [hS, decide_eq_true c0]
        exact Ev.congr (fun k => by rw [if_pos rfl]) (Ev.b (f := fun _ x => some (x.1, x.2)) _ (Ev.const invalid_ok) (Ev.now _))
      · have hS : sMul a b mode = (sg (sgn a != sgn b) + INF, 0) := by unfold sMul; rw [if_neg c4, if_neg (show ¬ (cls a = 3 ∧ cls b = 0 ∨ cls a = 0 ∧ cls b = 3) by omega), if_pos c3]
        rw [hS, decide_eq_false c0]
        refine Ev.congr (fun k => by rw [if_neg (by simp)]) (Ev.b _ (Ev.const E3) ?_)
        rw [decide_eq_true c3]
        exact Ev.congr (fun k => by rw [if_pos rfl]) (Ev.b (f := fun _ x => some (x, (0 : Int))) _ (Inf_ev _) (Ev.now _))
    · have c0 : ¬ (cls a = 3 ∧ cls b = 0 ∨ cls a = 0 ∧ cls b = 3) := by omega
      have la := spm_lt a
      have lb := spm_lt b
      have ea := spe_bd a
      have eb := spe_bd b
      have hM : spm a * spm b < 340282366920938463463374607431768211456 := by
        have h1 : spm a * spm b ≤ 9007199254740992 * spm b := Nat.mul_le_mul_right _ (by omega)
        have h2 : 9007199254740992 * spm b ≤ 9007199254740992 * 9007199254740992 := Nat.mul_le_mul_left _ (by omega)
        omega
      have R := Round_ev (sgn a != sgn b) (spm a * spm b) (spe a + spe b) false mode hM
      rw [cl_id (by omega) (by omega), Bool.false_and] at R
      have hS : (if spm a * spm b = 0 then ((sg (sgn a != sgn b) : Int), (0 : Int)) else pr (RND (sgn a != sgn b) (FX (spm a * spm b) 1 (spe a + spe b)) (FS (spm a * spm b) 1 (spe a + spe b) false) mode)) = pr (sMul a b mode) := by
        unfold sMul; rw [if_neg c4, if_neg c0, if_neg c3]
        by_cases z : spm a * spm b = 0
        · rw [if_pos z, if_pos z]; rfl
        · rw [if_neg z, if_neg z]
      rw [hS] at R
      have w1 : wrap64 (spe a + spe b) = spe a + spe b := w64 (by omega) (by omega)
      rw [if_neg c3]
      refine Ev.congr (fun k => by rw [if_neg (by simp)]) (Ev.b _ (Ev.const E3) ?_)
      rw [decide_eq_false c3]
      refine Ev.congr (fun k => by rw [if_neg (by simp)]) (Ev.b _ (Ev.const (wMul_ok _ _ (by omega) (by omega))) ?_)
      dsimp only
      rw [w1]
      exact Ev.b (f := fun _ x => some (x.1, x.2)) _ R (Ev.now _)
  refine Ev.congr (fun k => by rw [if_neg (by simp)]) (Ev.b _ (Ev.const E3) ?_)
  by_cases c3 : cls a = 3 ∨ cls b = 3
  · rw [if_pos c3] at J
    rw [decide_eq_true c3]
    refine Ev.congr (fun k => by rw [if_pos rfl]) (Ev.b _ (Ev.const E0) ?_)
    exact J
  · rw [if_neg c3] at J
    rw [decide_eq_false c3]
    exact Ev.congr (fun k => by rw [if_neg (by simp)]) J
theorem Div64_ok (x y z : Nat) (h1 : x < z) (h2 : z < 18446744073709551616) (h3 : y < 18446744073709551616) :
    bits_Div64.f (x : Int) (y : Int) (z : Int) = some ((((x * 18446744073709551616 + y) / z : Nat) : Int), (((x * 18446744073709551616 + y) % z : Nat) : Int)) := by
  unfold bits_Div64.f
  rw [if_pos (by omega), Int.natCast_ediv, Int.natCast_emod, Int.natCast_add, Int.natCast_mul]; rfl
theorem U128_Div (hi z : Nat) (h1 : hi < 18446744073709551616) (hz : 0 < z) (h2 : z < 18446744073709551616) :
    wide_U128_Div.f (hi : Int) 0 (z : Int) = some ((tw (hi * 18446744073709551616 / z)).1, (tw (hi * 18446744073709551616 / z)).2, ((hi * 18446744073709551616 % z : Nat) : Int)) := by
  have hm := Nat.mod_lt hi hz
  have hl : hi % z * 18446744073709551616 / z < 18446744073709551616 := by
    rw [Nat.div_lt_iff_lt_mul hz, Nat.mul_comm 18446744073709551616]
    exact Nat.mul_lt_mul_of_pos_right hm (by decide)
  have e : hi * 18446744073709551616 = hi % z * 18446744073709551616 + z * (hi / z * 18446744073709551616) := by
    have := Nat.div_add_mod hi z
    have h4 : hi * 18446744073709551616 = (z * (hi / z) + hi % z) * 18446744073709551616 := by rw [this]
    rw [h4, Nat.add_mul]; grind
  have eq : hi * 18446744073709551616 / z = hi / z * 18446744073709551616 + hi % z * 18446744073709551616 / z := by
    rw [e, Nat.add_mul_div_left _ _ hz, Nat.add_comm]
  have er : hi * 18446744073709551616 % z = hi % z * 18446744073709551616 % z := by
    rw [e, Nat.add_mul_mod_self_left]
  unfold wide_U128_Div.f
  have D1 := Div64_ok 0 hi z hz h2 h1
  rw [Nat.zero_mul, Nat.zero_add] at D1
  have D2 := Div64_ok (hi % z) 0 z hm h2 (by decide)
  rw [Nat.add_zero] at D2
  rw [if_neg (by omega), bind_of _ (show bits_Div64.f 0 (hi : Int) (z : Int) = _ from D1)]
  dsimp only
  rw [bind_of _ (show bits_Div64.f ((hi % z : Nat) : Int) 0 (z : Int) = _ from D2), eq, er, tw_join _ _ hl]
theorem dv1 {b x : Nat} (h1 : b < 9007199254740992) (h2 : 9223372036854775808 ≤ x) : 9007199254740992 * b ≤ x * 18446744073709551616 := by omega
theorem Div_ev (a b mode : Nat) (ha : U a) (hb : U b) : Ev (fun k => soft_Div.f k (a : Int) (b : Int) (mode : Int)) (pr (sDiv a b mode)) := by
  unfold soft_Div.f
  refine Ev.b _ (of_ev a ha) (Ev.b _ (of_ev b hb) ?_)
  dsimp only
  have E4 := either_ok (a : Int) (cls a) (sgn a) (spm a : Int) (spe a) (b : Int) (cls b) (sgn b) (spm b : Int) (spe b) 4
  rw [show ((4 : Nat) : Int) = 4 from rfl] at E4
  refine Ev.b _ (Ev.const E4) ?_
  have a0e : ((cls a : Int) == 0) = decide (cls a = 0) := eq_nat _ 0
  have b3e : ((cls b : Int) == 3) = decide (cls b = 3) := eq_nat _ 3
  by_cases c4 : cls a = 4 ∨ cls b = 4
  · have hS : sDiv a b mode = (QN, 0) := by unfold sDiv; rw [if_pos c4]
    rw [hS, decide_eq_true c4]
    exact Ev.congr (fun k => by rw [if_pos rfl]) (Ev.b (f := fun _ x => some (x, (0 : Int))) _ (Ev.const Quiet_ok) (Ev.now _))
  rw [decide_eq_false c4, a0e]
  have J1 : ¬ (cls a = 3 ∧ cls b = 3 ∨ cls a = 0 ∧ cls b = 0) → ¬ cls a = 3 → ¬ cls b = 0 → Ev (fun k => soft_Div.j1 k (mode : Int) (sgn a != sgn b) (decide (cls a = 0 ∨ cls b = 3)) (a : Int) (cls a : Int) (sgn a) (spm a : Int) (spe a) (b : Int) (cls b : Int) (sgn b) (spm b : Int) (spe b)) (pr (sDiv a b mode)) := by
    intro n1 n2 n3
    refine Ev.next ?_
    simp only [soft_Div.j1]
    by_cases c : cls a = 0 ∨ cls b = 3
    · have hS : sDiv a b mode = (sg (sgn a != sgn b), 0) := by unfold sDiv; rw [if_neg c4, if_neg n1, if_neg n2, if_neg n3, if_pos c]
      rw [hS, decide_eq_true c]
      exact Ev.congr (fun k => by rw [if_pos rfl]) (Ev.b (f := fun _ x => some (x, (0 : Int))) _ (zero_ev _) (Ev.now _))
    · have ka : cls a ≤ 2 := by have := cls_le a; omega
      have kb : cls b ≤ 2 := by have := cls_le b; omega
      have za : spm a ≠ 0 := fun h => by have := (spm_zero a ka).1 h; omega
      have zb : spm b ≠ 0 := fun h => by have := (spm_zero b kb).1 h; omega
      have la := spm_lt a
      have lb := spm_lt b
      have ea := spe_bd a
      have eb := spe_bd b
      have hbl := bl_bd (spm a) za
      have hbl2 : bl (spm a) ≤ 53 := bl_le (n := 53) la
      have L : wide_U128_Len.f 0 (spm a : Int) = some (bl (spm a) : Int) := by
        have := Len_tw (spm a) (by omega)
        rw [tw_word (by omega)] at this; exact this
      obtain ⟨sh', hsh⟩ : ∃ n : Nat, n = 64 - bl (spm a) := ⟨_, rfl⟩
      have w1 : wrap64 (64 - (bl (spm a) : Int)) = (sh' : Int) := by rw [w64 (by omega) (by omega)]; omega
      have hx : spm a * 2 ^ sh' < 18446744073709551616 := by
        have : spm a * 2 ^ sh' < 2 ^ bl (spm a) * 2 ^ sh' := Nat.mul_lt_mul_of_pos_right hbl.2.2 (two_pos _)
        rw [← Nat.pow_add, show bl (spm a) + sh' = 64 by omega] at this; exact this
      have hx2 : 9223372036854775808 ≤ spm a * 2 ^ sh' := by
        have : 2 ^ (bl (spm a) - 1) * 2 ^ sh' ≤ spm a * 2 ^ sh' := Nat.mul_le_mul_right _ hbl.2.1
        rw [← Nat.pow_add, show bl (spm a) - 1 + sh' = 63 by omega] at this; exact this
      have S : shl .u64 (spm a : Int) (sh' : Int) = ((spm a * 2 ^ sh' : Nat) : Int) := by rw [shl_nat _ _ (by omega), Nat.mod_eq_of_lt hx]
      have D := U128_Div (spm a * 2 ^ sh') (spm b) hx (by omega) (by omega)
      have hA : spm a * 2 ^ sh' * 18446744073709551616 = spm a * 2 ^ (sh' + 64) := by rw [Nat.pow_add, Nat.mul_assoc]
      have hq1 : 9007199254740992 ≤ spm a * 2 ^ sh' * 18446744073709551616 / spm b := by
        rw [Nat.le_div_iff_mul_le (by omega)]
        exact dv1 lb hx2
      have hq2 : spm a * 2 ^ sh' * 18446744073709551616 / spm b < 340282366920938463463374607431768211456 := by
        exact Nat.lt_of_le_of_lt (Nat.div_le_self _ _) (Nat.mul_lt_mul_of_pos_right hx (by decide))
      obtain ⟨A, hAA⟩ : ∃ A, spm a * 2 ^ sh' * 18446744073709551616 = A := ⟨_, rfl⟩
      rw [hAA] at D hA hq1 hq2
      have w2 : wrap64 (wrap64 (wrap64 (spe a - (sh' : Int)) - 64) - spe b) = spe a - spe b - (sh' + 64 : Nat) := by
        rw [w64 (n := spe a - (sh' : Int)) (by omega) (by omega), w64 (n := spe a - (sh' : Int) - 64) (by omega) (by omega), w64 (by omega) (by omega)]; omega
      have hbl54 : 53 < bl (A / spm b) := by
        by_cases c9 : bl (A / spm b) ≤ 53
        · have := bl_small c9; omega
        · omega
      have hl : (((A % spm b : Nat) : Int) != 0) = decide (A % spm b ≠ 0) := by rw [Bool.eq_iff_iff, bne_iff_ne, decide_eq_true_iff]; omega
      have R := Round_ev (sgn a != sgn b) (A / spm b) (spe a - spe b - (sh' + 64 : Nat)) (decide (A % spm b ≠ 0)) mode hq2
      rw [if_neg (by omega), cl_id (by omega) (by omega), decide_eq_true hbl54, Bool.and_true] at R
      have T := two_step (sgn a != sgn b) A (spm b) (spe a - spe b - (sh' + 64 : Nat)) mode (by omega) (.inr hq1)
      have K := FXS_scale (spm a) (spm b) (sh' + 64) (spe a - spe b) false
      rw [← hA] at K
      rw [T, K.1, K.2] at R
      have hS : RND (sgn a != sgn b) (FX (spm a) (spm b) (spe a - spe b)) (FS (spm a) (spm b) (spe a - spe b) false) mode = sDiv a b mode := by
        unfold sDiv; rw [if_neg c4, if_neg n1, if_neg n2, if_neg n3, if_neg c]
      rw [hS] at R
      rw [decide_eq_false c]
      refine Ev.congr (fun k => by rw [if_neg (by simp)]) (Ev.b _ (Ev.const L) ?_)
      rw [w1, S]
      refine Ev.congr (fun k => by rw [if_pos (by omega)]) (Ev.b _ (Ev.const D) ?_)
      dsimp only
      rw [w2, hl]
      exact Ev.b (f := fun _ x => some (x.1, x.2)) _ R (Ev.now _)
  have J0 : Ev (fun k => soft_Div.j0 k (mode : Int) (sgn a != sgn b) (decide (cls a = 3 ∧ cls b = 3 ∨ cls a = 0 ∧ cls b = 0)) (a : Int) (cls a : Int) (sgn a) (spm a : Int) (spe a) (b : Int) (cls b : Int) (sgn b) (spm b : Int) (spe b)) (pr (sDiv a b mode)) := by
    refine Ev.next ?_
    simp only [soft_Div.j0]
    rw [a0e, b3e]
    by_cases n1 : cls a = 3 ∧ cls b = 3 ∨ cls a = 0 ∧ cls b = 0
    · have hS : sDiv a b mode = (QN, 16) := by unfold sDiv; rw [if_neg c4, if_pos n1]
      rw [hS, decide_eq_true n1]
      exact Ev.congr (fun k => by rw [if_pos rfl]) (Ev.b (f := fun _ x => some (x.1, x.2)) _ (Ev.const invalid_ok) (Ev.now _))
    rw [decide_eq_false n1]
    by_cases n2 : cls a = 3
    · have hS : sDiv a b mode = (sg (sgn a != sgn b) + INF, 0) := by unfold sDiv; rw [if_neg c4, if_neg n1, if_pos n2]
      rw [hS]
      exact Ev.congr (fun k => by rw [if_neg (by simp), if_pos (by omega)]) (Ev.b (f := fun _ x => some (x, (0 : Int))) _ (Inf_ev _) (Ev.now _))
    by_cases n3 : cls b = 0
    · have hS : sDiv a b mode = (sg (sgn a != sgn b) + INF, 8) := by unfold sDiv; rw [if_neg c4, if_neg n1, if_neg n2, if_pos n3]
      rw [hS]
      exact Ev.congr (fun k => by rw [if_neg (by simp), if_neg (by omega), if_pos (by omega)]) (Ev.b (f := fun _ x => some (x, (8 : Int))) _ (Inf_ev _) (Ev.now _))
    have J := J1 n1 n2 n3
    by_cases a0 : cls a = 0
    · rw [decide_eq_true (.inl a0)] at J
      rw [decide_eq_true a0]
      exact Ev.congr (fun k => by rw [if_neg (by simp), if_neg (by omega), if_neg (by omega), if_pos (by omega)]) J
    · rw [show decide (cls a = 0 ∨ cls b = 3) = decide (cls b = 3) by rw [Bool.eq_iff_iff, decide_eq_true_iff, decide_eq_true_iff]; omega] at J
      exact Ev.congr (fun k => by rw [if_neg (by simp), if_neg (by omega), if_neg (by omega), if_neg (by omega)]) J
  by_cases h1 : cls a = cls b
  · by_cases h2 : cls a = 3
    · rw [decide_eq_true (show cls a = 3 ∧ cls b = 3 ∨ cls a = 0 ∧ cls b = 0 by omega)] at J0
      exact Ev.congr (fun k => by rw [if_neg (by simp), if_pos (by omega), if_pos (by omega)]) J0
    · rw [show decide (cls a = 3 ∧ cls b = 3 ∨ cls a = 0 ∧ cls b = 0) = decide (cls a = 0) by rw [Bool.eq_iff_iff, decide_eq_true_iff, decide_eq_true_iff]; omega] at J0
      exact Ev.congr (fun k => by rw [if_neg (by simp), if_pos (by omega), if_neg (by omega)]) J0
  · rw [decide_eq_false (show ¬ (cls a = 3 ∧ cls b = 3 ∨ cls a = 0 ∧ cls b = 0) by omega)] at J0
    exact Ev.congr (fun k => by rw [if_neg (by simp), if_neg (by omega)]) J0
end Go.Proofs.Ytmadjhmecfbcmaa.M
end
