/- The walk of the law SoftSums and what it computes, part 5 of 6: no conditions. -/
import Derived.Test.YtmadjhmecfbcmaaASoftSums4
set_option linter.unusedVariables false
set_option linter.unusedSimpArgs false
section
namespace Go.Proofs.Ytmadjhmecfbcmaa.F
open Go.RowKit Go.Proofs.YtmadjhmecfbcmaaW.PrintWords Go.Proofs.YtmadjhmecfbcmaaW.PrintLast Go.Proofs.YtmadjhmecfbcmaaW.PrintMore
attribute [local go_sem] max2_int min2_int max_two min_two max_three min_three max_four min_four
set_option linter.unusedVariables false
set_option linter.unusedSimpArgs false
set_option maxHeartbeats 8000000 in
set_option maxRecDepth 100000 in
theorem flyballref05_cmp.calls (k : Nat) (A0_0 : Option Addr) (c0_0 : Nat) (l0_0 : List Bool) (A0_1 : Option Addr) (c0_1 : Nat) (l0_1 : List Bool) (a0_2 : Int) (a0_3 : Bool) (A1 : Option Addr) (c1 : Nat) (l1 : List Bool) (a2 : Int) (r : Int) (w : World) (hr0_0 : Kd.C Kd.bool w A0_0 l0_0.length l0_0) (hc0_0 : l0_0.length ≤ c0_0) (hr0_1 : Kd.C Kd.bool w A0_1 l0_1.length l0_1) (hc0_1 : l0_1.length ≤ c0_1) (hr1 : Kd.C Kd.bool w A1 l1.length l1) (hc1 : l1.length ≤ c1) (h : flyballref05_cmp.f k l0_0 l0_1 a0_2 a0_3 l1 a2 = some r) :
  Calls Try.prog 189 #[.agg #[.slice A0_0 l0_0.length c0_0, .slice A0_1 l0_1.length c0_1, .int .i64 a0_2, .bool a0_3], .slice A1 l1.length c1, .int .i64 a2] w fun e w' => e = .returned (.int .i64 r) ∧ Below w.heap.size w w' := by
 have hu115 := Try.underlying115
 have HR0_0 := Aside0.mk hr0_0
 have HC0_0 := Aside0.mk hc0_0
 clear hr0_0 hc0_0
 have HR0_1 := Aside0.mk hr0_1
 have HC0_1 := Aside0.mk hc0_1
 clear hr0_1 hc0_1
 have HR1 := Aside0.mk hr1
 have HC1 := Aside0.mk hc1
 clear hr1 hc1
 have HB := Aside0.mk (Below.refl w.heap.size w)
 have H : ((flyballref01_Shl.f k l0_0 (wrap64 (a0_2 - (mn a0_2 a2)))).bind fun t415 => ((flyballref01_Mul.f k l1 l0_1).bind fun t418 => ((flyballref01_Shl.f k t418 (wrap64 (a2 - (mn a0_2 a2)))).bind fun t421 => ((flyballref01_Cmp.f k t415 t421).bind fun t424 => (if t424 = 0 then (if a0_3 = true then (some 1) else (some t424)) else (some t424)))))) = some r := h
 clear h
 obtain ⟨ji4, hji4⟩ : ∃ j_ : Int, (mn a0_2 a2) = j_ := ⟨_, rfl⟩
 replace H : ((flyballref01_Shl.f k l0_0 (wrap64 (a0_2 - (ji4)))).bind fun t415 => ((flyballref01_Mul.f k l1 l0_1).bind fun t418 => ((flyballref01_Shl.f k t418 (wrap64 (a2 - (ji4)))).bind fun t421 => ((flyballref01_Cmp.f k t415 t421).bind fun t424 => (if t424 = 0 then (if a0_3 = true then (some 1) else (some t424)) else (some t424)))))) = some r := by first | (rw [hji4] at H; exact H) | (simp only [hji4] at H ⊢; exact H)
 have hji4_ : (if a2 < a0_2 then a2 else a0_2) = ji4 := hji4
 (try (have hji4n := hji4_; simp only [Int.ofNat_lt] at hji4n))
 obtain ⟨t415, A5, H⟩ := zbs H
 try dsimp only at H
 obtain ⟨t418, A6, H⟩ := zbs H
 try dsimp only at H
 obtain ⟨t421, A7, H⟩ := zbs H
 try dsimp only at H
 obtain ⟨t424, A8, H⟩ := zbs H
 try dsimp only at H
 by_cases c9 : t424 = 0
 ·rw [if_pos c9] at H
  have c9b0 : (t424 == 0) = true := beq_iff_eq.mpr c9
  have c9b1 : (t424 != 0) = false := bne_eq_false_iff_eq.mpr c9
  clear c9
  by_cases c10 : a0_3 = true
  ·subst c10
   have H1 : (some 1) = some r := by rw [if_pos rfl] at H; exact H
   clear H
   have H := H1
   clear H1
   obtain rfl := Option.some.inj H
   go_enter Try.func189, Try.ntmps189
   go_wp2_with (first | ((with_reducible refine gate_dst (N := 3) rfl ?_); refine zbx 3 #[.slice A0_0 l0_0.length c0_0, .slice A0_1 l0_1.length c0_1, .int .i64 a0_2, .bool true] 115 (h := ?_); intro gb414 hg w11 hbox hb; have GW414 := zkZ hg (zaB (p := Below w.heap.size w _)); have GE414 := GW414; replace HB := Aside0.mk (below_step zaB hb); have BK414 := Aside0.mk (hbox); clear hb hbox hg; have hcz12_0 := zc0 BK414; have hcz12_1 := zc1 BK414; have hcz12_2 := zc2 BK414; have hcz12_3 := zc3 BK414; have hfz12_0 := blk_frozen BK414.out 0; have hfz12_1 := blk_frozen BK414.out 1; have hfz12_2 := blk_frozen BK414.out 2; have hfz12_3 := blk_frozen BK414.out 3) | ((with_reducible refine gate_callee (f := 90) rfl ?_); refine goesL_ (some 21) rfl rfl Try.func90 (by kernel_rfl) rfl #[.slice A0_0 l0_0.length c0_0, .int .i64 (wrap64 (a0_2 - (ji4)))] rfl (by (try simp only [List.map_toArray, List.map_cons, List.map_nil]); first | done | (simp only [hji4]; rfl) | rfl | (simp only [List.length_drop, List.length_take]; rfl)) ?_; (with_reducible refine (flyballref01_Shl.calls k _ _ l0_0 (wrap64 (a0_2 - (ji4))) t415 _ ?side1 ?side2 A5.out).mono ?_); (case side1 => repeat (first | exact (Kd.C_below HR0_0.out HB.out) | (with_reducible refine Kd.C_alloc ?_ _) | (with_reducible refine Kd.C_drewN ?_ _) | (with_reducible refine Kd.C_drew ?_))); (case side2 => exact HC0_0.out); rintro e w13 ⟨v416, rfl, ho0, hb⟩; refine ⟨_, rfl, ?_⟩; have HO417 := Aside0.mk (Kd.R_lower ho0 (below_size zaB)); replace BK414 := zkb BK414 hb; replace HB := zkB HB hb; (try clear hb); (try clear ho0); have hcz14_0 := zc0 BK414; have hcz14_1 := zc1 BK414; have hcz14_2 := zc2 BK414; have hcz14_3 := zc3 BK414; have hfz14_0 := blk_frozen BK414.out 0; have hfz14_1 := blk_frozen BK414.out 1; have hfz14_2 := blk_frozen BK414.out 2; have hfz14_3 := blk_frozen BK414.out 3) | ((with_reducible refine gate_callee (f := 102) rfl ?_); refine goesL_ (some 25) rfl rfl Try.func102 (by kernel_rfl) rfl #[.slice A1 l1.length c1, .slice A0_1 l0_1.length c0_1] rfl (by (try simp only [List.map_toArray, List.map_cons, List.map_nil]); first | done | rfl | (simp only [List.length_drop, List.length_take]; rfl)) ?_; (with_reducible refine (flyballref01_Mul.calls k _ _ l1 _ _ l0_1 t418 _ ?side1 ?side2 ?side3 ?side4 A6.out).mono ?_); (case side1 => repeat (first | exact (Kd.C_below HR1.out HB.out) | (with_reducible refine Kd.C_alloc ?_ _) | (with_reducible refine Kd.C_drewN ?_ _) | (with_reducible refine Kd.C_drew ?_))); (case side2 => exact HC1.out); (case side3 => repeat (first | exact (Kd.C_below HR0_1.out HB.out) | (with_reducible refine Kd.C_alloc ?_ _) | (with_reducible refine Kd.C_drewN ?_ _) | (with_reducible refine Kd.C_drew ?_))); (case side4 => exact HC0_1.out); rintro e w15 ⟨v419, rfl, ho0, hb⟩; refine ⟨_, rfl, ?_⟩; have HO420 := Aside0.mk (Kd.R_lower (Kd.R_new' ho0 (Kd.R_lt (by (with_reducible repeat (first | apply Kd.R_alloc | apply Kd.R_drewN | apply Kd.R_drew)); exact HO417.out))) (below_size zaB)); replace HO417 := Aside0.mk (Kd.R_elder' (by (with_reducible repeat (first | apply Kd.R_alloc | apply Kd.R_drewN | apply Kd.R_drew)); exact HO417.out) (Kd.R_base ho0) hb); replace BK414 := zkb BK414 hb; replace HB := zkB HB hb; (try clear hb); (try clear ho0); obtain ⟨Ao16, co16, eo16⟩ := Kd.R_slice HO420.out; subst eo16) | ((with_reducible refine gate_callee (f := 90) rfl ?_); refine goesL_ (some 30) rfl rfl Try.func90 (by kernel_rfl) rfl #[.slice Ao16 t418.length co16, .int .i64 (wrap64 (a2 - (ji4)))] rfl (by (try simp only [List.map_toArray, List.map_cons, List.map_nil]); first | done | (simp only [hji4]; rfl) | rfl | (simp only [List.length_drop, List.length_take]; rfl)) ?_; (with_reducible refine (flyballref01_Shl.calls k _ _ t418 (wrap64 (a2 - (ji4))) t421 _ ?side1 ?side2 A7.out).mono ?_); (case side1 => repeat (first | exact (Kd.R_reads' HO420.out).2.2 | (with_reducible refine Kd.C_alloc ?_ _) | (with_reducible refine Kd.C_drewN ?_ _) | (with_reducible refine Kd.C_drew ?_))); (case side2 => exact (Kd.R_reads' HO420.out).2.1); rintro e w17 ⟨v422, rfl, ho0, hb⟩; refine ⟨_, rfl, ?_⟩; have HO423 := Aside0.mk (Kd.R_lower (Kd.R_new' (Kd.R_new' ho0 (Kd.R_lt (by (with_reducible repeat (first | apply Kd.R_alloc | apply Kd.R_drewN | apply Kd.R_drew)); exact HO417.out))) (Kd.R_lt (by (with_reducible repeat (first | apply Kd.R_alloc | apply Kd.R_drewN | apply Kd.R_drew)); exact HO420.out))) (below_size zaB)); replace HO417 := Aside0.mk (Kd.R_elder' (by (with_reducible repeat (first | apply Kd.R_alloc | apply Kd.R_drewN | apply Kd.R_drew)); exact HO417.out) (Kd.R_base ho0) hb); replace HO420 := Aside0.mk (Kd.R_elder' (by (with_reducible repeat (first | apply Kd.R_alloc | apply Kd.R_drewN | apply Kd.R_drew)); exact HO420.out) (Kd.R_base ho0) hb); replace BK414 := zkb BK414 hb; replace HB := zkB HB hb; (try clear hb); (try clear ho0); obtain ⟨Ao18, co18, eo18⟩ := Kd.R_slice HO417.out; subst eo18; obtain ⟨Ao19, co19, eo19⟩ := Kd.R_slice HO423.out; subst eo19) | ((with_reducible refine gate_callee (f := 93) rfl ?_); refine goesL_ (some 33) rfl rfl Try.func93 (by kernel_rfl) rfl #[.slice Ao18 t415.length co18, .slice Ao19 t421.length co19] rfl (by (try simp only [List.map_toArray, List.map_cons, List.map_nil]); first | done | rfl | (simp only [List.length_drop, List.length_take]; rfl)) ?_; (with_reducible refine (flyballref01_Cmp.calls k _ _ t415 _ _ t421 t424 _ ?side1 ?side2 ?side3 ?side4 A8.out).mono ?_); (case side1 => repeat (first | exact (Kd.R_reads' HO417.out).2.2 | (with_reducible refine Kd.C_alloc ?_ _) | (with_reducible refine Kd.C_drewN ?_ _) | (with_reducible refine Kd.C_drew ?_))); (case side2 => exact (Kd.R_reads' HO417.out).2.1); (case side3 => repeat (first | exact (Kd.R_reads' HO423.out).2.2 | (with_reducible refine Kd.C_alloc ?_ _) | (with_reducible refine Kd.C_drewN ?_ _) | (with_reducible refine Kd.C_drew ?_))); (case side4 => exact (Kd.R_reads' HO423.out).2.1); rintro e w20 ⟨rfl, hb⟩; refine ⟨_, rfl, ?_⟩; replace HO417 := Aside0.mk (Kd.R_below (by (with_reducible repeat (first | apply Kd.R_alloc | apply Kd.R_drewN | apply Kd.R_drew)); exact HO417.out) hb); replace HO420 := Aside0.mk (Kd.R_below (by (with_reducible repeat (first | apply Kd.R_alloc | apply Kd.R_drewN | apply Kd.R_drew)); exact HO420.out) hb); replace HO423 := Aside0.mk (Kd.R_below (by (with_reducible repeat (first | apply Kd.R_alloc | apply Kd.R_drewN | apply Kd.R_drew)); exact HO423.out) hb); replace BK414 := zkb BK414 hb; replace HB := zkB HB hb; (try clear hb); have hcz21_0 := zc0 BK414; have hcz21_1 := zc1 BK414; have hcz21_2 := zc2 BK414; have hcz21_3 := zc3 BK414; have hfz21_0 := blk_frozen BK414.out 0; have hfz21_1 := blk_frozen BK414.out 1; have hfz21_2 := blk_frozen BK414.out 2; have hfz21_3 := blk_frozen BK414.out 3))
   go_ret
   exact ⟨by first | rfl | (simp [errW_none, errW_some] <;> rfl) | (simp only [← hji4]; first | rfl | (simp [errW_none, errW_some] <;> rfl)) | (simp [*, errW_none, errW_some] <;> rfl), zaB⟩
  ·replace c10 := Bool.eq_false_iff.mpr c10
   subst c10
   have H1 : (some t424) = some r := by rw [if_neg (show ¬ (false = true) by decide)] at H; exact H
   clear H
   have H := H1
   clear H1
   obtain rfl := Option.some.inj H
   go_enter Try.func189, Try.ntmps189
   go_wp2_with (first | ((with_reducible refine gate_dst (N := 3) rfl ?_); refine zbx 3 #[.slice A0_0 l0_0.length c0_0, .slice A0_1 l0_1.length c0_1, .int .i64 a0_2, .bool false] 115 (h := ?_); intro gb414 hg w22 hbox hb; have GW414 := zkZ hg (zaB (p := Below w.heap.size w _)); have GE414 := GW414; replace HB := Aside0.mk (below_step zaB hb); have BK414 := Aside0.mk (hbox); clear hb hbox hg; have hcz23_0 := zc0 BK414; have hcz23_1 := zc1 BK414; have hcz23_2 := zc2 BK414; have hcz23_3 := zc3 BK414; have hfz23_0 := blk_frozen BK414.out 0; have hfz23_1 := blk_frozen BK414.out 1; have hfz23_2 := blk_frozen BK414.out 2; have hfz23_3 := blk_frozen BK414.out 3) | ((with_reducible refine gate_callee (f := 90) rfl ?_); refine goesL_ (some 21) rfl rfl Try.func90 (by kernel_rfl) rfl #[.slice A0_0 l0_0.length c0_0, .int .i64 (wrap64 (a0_2 - (ji4)))] rfl (by (try simp only [List.map_toArray, List.map_cons, List.map_nil]); first | done | (simp only [hji4]; rfl) | rfl | (simp only [List.length_drop, List.length_take]; rfl)) ?_; (with_reducible refine (flyballref01_Shl.calls k _ _ l0_0 (wrap64 (a0_2 - (ji4))) t415 _ ?side1 ?side2 A5.out).mono ?_); (case side1 => repeat (first | exact (Kd.C_below HR0_0.out HB.out) | (with_reducible refine Kd.C_alloc ?_ _) | (with_reducible refine Kd.C_drewN ?_ _) | (with_reducible refine Kd.C_drew ?_))); (case side2 => exact HC0_0.out); rintro e w24 ⟨v416, rfl, ho0, hb⟩; refine ⟨_, rfl, ?_⟩; have HO417 := Aside0.mk (Kd.R_lower ho0 (below_size zaB)); replace BK414 := zkb BK414 hb; replace HB := zkB HB hb; (try clear hb); (try clear ho0); have hcz25_0 := zc0 BK414; have hcz25_1 := zc1 BK414; have hcz25_2 := zc2 BK414; have hcz25_3 := zc3 BK414; have hfz25_0 := blk_frozen BK414.out 0; have hfz25_1 := blk_frozen BK414.out 1; have hfz25_2 := blk_frozen BK414.out 2; have hfz25_3 := blk_frozen BK414.out 3) | ((with_reducible refine gate_callee (f := 102) rfl ?_); refine goesL_ (some 25) rfl rfl Try.func102 (by kernel_rfl) rfl #[.slice A1 l1.length c1, .slice A0_1 l0_1.length c0_1] rfl (by (try simp only [List.map_toArray, List.map_cons, List.map_nil]); first | done | rfl | (simp only [List.length_drop, List.length_take]; rfl)) ?_; (with_reducible refine (flyballref01_Mul.calls k _ _ l1 _ _ l0_1 t418 _ ?side1 ?side2 ?side3 ?side4 A6.out).mono ?_); (case side1 => repeat (first | exact (Kd.C_below HR1.out HB.out) | (with_reducible refine Kd.C_alloc ?_ _) | (with_reducible refine Kd.C_drewN ?_ _) | (with_reducible refine Kd.C_drew ?_))); (case side2 => exact HC1.out); (case side3 => repeat (first | exact (Kd.C_below HR0_1.out HB.out) | (with_reducible refine Kd.C_alloc ?_ _) | (with_reducible refine Kd.C_drewN ?_ _) | (with_reducible refine Kd.C_drew ?_))); (case side4 => exact HC0_1.out); rintro e w26 ⟨v419, rfl, ho0, hb⟩; refine ⟨_, rfl, ?_⟩; have HO420 := Aside0.mk (Kd.R_lower (Kd.R_new' ho0 (Kd.R_lt (by (with_reducible repeat (first | apply Kd.R_alloc | apply Kd.R_drewN | apply Kd.R_drew)); exact HO417.out))) (below_size zaB)); replace HO417 := Aside0.mk (Kd.R_elder' (by (with_reducible repeat (first | apply Kd.R_alloc | apply Kd.R_drewN | apply Kd.R_drew)); exact HO417.out) (Kd.R_base ho0) hb); replace BK414 := zkb BK414 hb; replace HB := zkB HB hb; (try clear hb); (try clear ho0); obtain ⟨Ao27, co27, eo27⟩ := Kd.R_slice HO420.out; subst eo27) | ((with_reducible refine gate_callee (f := 90) rfl ?_); refine goesL_ (some 30) rfl rfl Try.func90 (by kernel_rfl) rfl #[.slice Ao27 t418.length co27, .int .i64 (wrap64 (a2 - (ji4)))] rfl (by (try simp only [List.map_toArray, List.map_cons, List.map_nil]); first | done | (simp only [hji4]; rfl) | rfl | (simp only [List.length_drop, List.length_take]; rfl)) ?_; (with_reducible refine (flyballref01_Shl.calls k _ _ t418 (wrap64 (a2 - (ji4))) t421 _ ?side1 ?side2 A7.out).mono ?_); (case side1 => repeat (first | exact (Kd.R_reads' HO420.out).2.2 | (with_reducible refine Kd.C_alloc ?_ _) | (with_reducible refine Kd.C_drewN ?_ _) | (with_reducible refine Kd.C_drew ?_))); (case side2 => exact (Kd.R_reads' HO420.out).2.1); rintro e w28 ⟨v422, rfl, ho0, hb⟩; refine ⟨_, rfl, ?_⟩; have HO423 := Aside0.mk (Kd.R_lower (Kd.R_new' (Kd.R_new' ho0 (Kd.R_lt (by (with_reducible repeat (first | apply Kd.R_alloc | apply Kd.R_drewN | apply Kd.R_drew)); exact HO417.out))) (Kd.R_lt (by (with_reducible repeat (first | apply Kd.R_alloc | apply Kd.R_drewN | apply Kd.R_drew)); exact HO420.out))) (below_size zaB)); replace HO417 := Aside0.mk (Kd.R_elder' (by (with_reducible repeat (first | apply Kd.R_alloc | apply Kd.R_drewN | apply Kd.R_drew)); exact HO417.out) (Kd.R_base ho0) hb); replace HO420 := Aside0.mk (Kd.R_elder' (by (with_reducible repeat (first | apply Kd.R_alloc | apply Kd.R_drewN | apply Kd.R_drew)); exact HO420.out) (Kd.R_base ho0) hb); replace BK414 := zkb BK414 hb; replace HB := zkB HB hb; (try clear hb); (try clear ho0); obtain ⟨Ao29, co29, eo29⟩ := Kd.R_slice HO417.out; subst eo29; obtain ⟨Ao30, co30, eo30⟩ := Kd.R_slice HO423.out; subst eo30) | ((with_reducible refine gate_callee (f := 93) rfl ?_); refine goesL_ (some 33) rfl rfl Try.func93 (by kernel_rfl) rfl #[.slice Ao29 t415.length co29, .slice Ao30 t421.length co30] rfl (by (try simp only [List.map_toArray, List.map_cons, List.map_nil]); first | done | rfl | (simp only [List.length_drop, List.length_take]; rfl)) ?_; (with_reducible refine (flyballref01_Cmp.calls k _ _ t415 _ _ t421 t424 _ ?side1 ?side2 ?side3 ?side4 A8.out).mono ?_); (case side1 => repeat (first | exact (Kd.R_reads' HO417.out).2.2 | (with_reducible refine Kd.C_alloc ?_ _) | (with_reducible refine Kd.C_drewN ?_ _) | (with_reducible refine Kd.C_drew ?_))); (case side2 => exact (Kd.R_reads' HO417.out).2.1); (case side3 => repeat (first | exact (Kd.R_reads' HO423.out).2.2 | (with_reducible refine Kd.C_alloc ?_ _) | (with_reducible refine Kd.C_drewN ?_ _) | (with_reducible refine Kd.C_drew ?_))); (case side4 => exact (Kd.R_reads' HO423.out).2.1); rintro e w31 ⟨rfl, hb⟩; refine ⟨_, rfl, ?_⟩; replace HO417 := Aside0.mk (Kd.R_below (by (with_reducible repeat (first | apply Kd.R_alloc | apply Kd.R_drewN | apply Kd.R_drew)); exact HO417.out) hb); replace HO420 := Aside0.mk (Kd.R_below (by (with_reducible repeat (first | apply Kd.R_alloc | apply Kd.R_drewN | apply Kd.R_drew)); exact HO420.out) hb); replace HO423 := Aside0.mk (Kd.R_below (by (with_reducible repeat (first | apply Kd.R_alloc | apply Kd.R_drewN | apply Kd.R_drew)); exact HO423.out) hb); replace BK414 := zkb BK414 hb; replace HB := zkB HB hb; (try clear hb); have hcz32_0 := zc0 BK414; have hcz32_1 := zc1 BK414; have hcz32_2 := zc2 BK414; have hcz32_3 := zc3 BK414; have hfz32_0 := blk_frozen BK414.out 0; have hfz32_1 := blk_frozen BK414.out 1; have hfz32_2 := blk_frozen BK414.out 2; have hfz32_3 := blk_frozen BK414.out 3))
   go_ret
   exact ⟨by first | rfl | (simp [errW_none, errW_some] <;> rfl) | (simp only [← hji4]; first | rfl | (simp [errW_none, errW_some] <;> rfl)) | (simp [*, errW_none, errW_some] <;> rfl), zaB⟩
 ·rw [if_neg c9] at H
  have c9b0 : (t424 == 0) = false := beq_eq_false_iff_ne.mpr c9
  have c9b1 : (t424 != 0) = true := bne_iff_ne.mpr c9
  obtain rfl := Option.some.inj H
  go_enter Try.func189, Try.ntmps189
  go_wp2_with (first | ((with_reducible refine gate_dst (N := 3) rfl ?_); refine zbx 3 #[.slice A0_0 l0_0.length c0_0, .slice A0_1 l0_1.length c0_1, .int .i64 a0_2, .bool a0_3] 115 (h := ?_); intro gb414 hg w33 hbox hb; have GW414 := zkZ hg (zaB (p := Below w.heap.size w _)); have GE414 := GW414; replace HB := Aside0.mk (below_step zaB hb); have BK414 := Aside0.mk (hbox); clear hb hbox hg; have hcz34_0 := zc0 BK414; have hcz34_1 := zc1 BK414; have hcz34_2 := zc2 BK414; have hcz34_3 := zc3 BK414; have hfz34_0 := blk_frozen BK414.out 0; have hfz34_1 := blk_frozen BK414.out 1; have hfz34_2 := blk_frozen BK414.out 2; have hfz34_3 := blk_frozen BK414.out 3) | ((with_reducible refine gate_callee (f := 90) rfl ?_); refine goesL_ (some 21) rfl rfl Try.func90 (by kernel_rfl) rfl #[.slice A0_0 l0_0.length c0_0, .int .i64 (wrap64 (a0_2 - (ji4)))] rfl (by (try simp only [List.map_toArray, List.map_cons, List.map_nil]); first | done | (simp only [hji4]; rfl) | rfl | (simp only [List.length_drop, List.length_take]; rfl)) ?_; (with_reducible refine (flyballref01_Shl.calls k _ _ l0_0 (wrap64 (a0_2 - (ji4))) t415 _ ?side1 ?side2 A5.out).mono ?_); (case side1 => repeat (first | exact (Kd.C_below HR0_0.out HB.out) | (with_reducible refine Kd.C_alloc ?_ _) | (with_reducible refine Kd.C_drewN ?_ _) | (with_reducible refine Kd.C_drew ?_))); (case side2 => exact HC0_0.out); rintro e w35 ⟨v416, rfl, ho0, hb⟩; refine ⟨_, rfl, ?_⟩; have HO417 := Aside0.mk (Kd.R_lower ho0 (below_size zaB)); replace BK414 := zkb BK414 hb; replace HB := zkB HB hb; (try clear hb); (try clear ho0); have hcz36_0 := zc0 BK414; have hcz36_1 := zc1 BK414; have hcz36_2 := zc2 BK414; have hcz36_3 := zc3 BK414; have hfz36_0 := blk_frozen BK414.out 0; have hfz36_1 := blk_frozen BK414.out 1; have hfz36_2 := blk_frozen BK414.out 2; have hfz36_3 := blk_frozen BK414.out 3) | ((with_reducible refine gate_callee (f := 102) rfl ?_); refine goesL_ (some 25) rfl rfl Try.func102 (by kernel_rfl) rfl #[.slice A1 l1.length c1, .slice A0_1 l0_1.length c0_1] rfl (by (try simp only [List.map_toArray, List.map_cons, List.map_nil]); first | done | rfl | (simp only [List.length_drop, List.length_take]; rfl)) ?_; (with_reducible refine (flyballref01_Mul.calls k _ _ l1 _ _ l0_1 t418 _ ?side1 ?side2 ?side3 ?side4 A6.out).mono ?_); (case side1 => repeat (first | exact (Kd.C_below HR1.out HB.out) | (with_reducible refine Kd.C_alloc ?_ _) | (with_reducible refine Kd.C_drewN ?_ _) | (with_reducible refine Kd.C_drew ?_))); (case side2 => exact HC1.out); (case side3 => repeat (first | exact (Kd.C_below HR0_1.out HB.out) | (with_reducible refine Kd.C_alloc ?_ _) | (with_reducible refine Kd.C_drewN ?_ _) | (with_reducible refine Kd.C_drew ?_))); (case side4 => exact HC0_1.out); rintro e w37 ⟨v419, rfl, ho0, hb⟩; refine ⟨_, rfl, ?_⟩; have HO420 := Aside0.mk (Kd.R_lower (Kd.R_new' ho0 (Kd.R_lt (by (with_reducible repeat (first | apply Kd.R_alloc | apply Kd.R_drewN | apply Kd.R_drew)); exact HO417.out))) (below_size zaB)); replace HO417 := Aside0.mk (Kd.R_elder' (by (with_reducible repeat (first | apply Kd.R_alloc | apply Kd.R_drewN | apply Kd.R_drew)); exact HO417.out) (Kd.R_base ho0) hb); replace BK414 := zkb BK414 hb; replace HB := zkB HB hb; (try clear hb); (try clear ho0); obtain ⟨Ao38, co38, eo38⟩ := Kd.R_slice HO420.out; subst eo38) | ((with_reducible refine gate_callee (f := 90) rfl ?_); refine goesL_ (some 30) rfl rfl Try.func90 (by kernel_rfl) rfl #[.slice Ao38 t418.length co38, .int .i64 (wrap64 (a2 - (ji4)))] rfl (by (try simp only [List.map_toArray, List.map_cons, List.map_nil]); first | done | (simp only [hji4]; rfl) | rfl | (simp only [List.length_drop, List.length_take]; rfl)) ?_; (with_reducible refine (flyballref01_Shl.calls k _ _ t418 (wrap64 (a2 - (ji4))) t421 _ ?side1 ?side2 A7.out).mono ?_); (case side1 => repeat (first | exact (Kd.R_reads' HO420.out).2.2 | (with_reducible refine Kd.C_alloc ?_ _) | (with_reducible refine Kd.C_drewN ?_ _) | (with_reducible refine Kd.C_drew ?_))); (case side2 => exact (Kd.R_reads' HO420.out).2.1); rintro e w39 ⟨v422, rfl, ho0, hb⟩; refine ⟨_, rfl, ?_⟩; have HO423 := Aside0.mk (Kd.R_lower (Kd.R_new' (Kd.R_new' ho0 (Kd.R_lt (by (with_reducible repeat (first | apply Kd.R_alloc | apply Kd.R_drewN | apply Kd.R_drew)); exact HO417.out))) (Kd.R_lt (by (with_reducible repeat (first | apply Kd.R_alloc | apply Kd.R_drewN | apply Kd.R_drew)); exact HO420.out))) (below_size zaB)); replace HO417 := Aside0.mk (Kd.R_elder' (by (with_reducible repeat (first | apply Kd.R_alloc | apply Kd.R_drewN | apply Kd.R_drew)); exact HO417.out) (Kd.R_base ho0) hb); replace HO420 := Aside0.mk (Kd.R_elder' (by (with_reducible repeat (first | apply Kd.R_alloc | apply Kd.R_drewN | apply Kd.R_drew)); exact HO420.out) (Kd.R_base ho0) hb); replace BK414 := zkb BK414 hb; replace HB := zkB HB hb; (try clear hb); (try clear ho0); obtain ⟨Ao40, co40, eo40⟩ := Kd.R_slice HO417.out; subst eo40; obtain ⟨Ao41, co41, eo41⟩ := Kd.R_slice HO423.out; subst eo41) | ((with_reducible refine gate_callee (f := 93) rfl ?_); refine goesL_ (some 33) rfl rfl Try.func93 (by kernel_rfl) rfl #[.slice Ao40 t415.length co40, .slice Ao41 t421.length co41] rfl (by (try simp only [List.map_toArray, List.map_cons, List.map_nil]); first | done | rfl | (simp only [List.length_drop, List.length_take]; rfl)) ?_; (with_reducible refine (flyballref01_Cmp.calls k _ _ t415 _ _ t421 t424 _ ?side1 ?side2 ?side3 ?side4 A8.out).mono ?_); (case side1 => repeat (first | exact (Kd.R_reads' HO417.out).2.2 | (with_reducible refine Kd.C_alloc ?_ _) | (with_reducible refine Kd.C_drewN ?_ _) | (with_reducible refine Kd.C_drew ?_))); (case side2 => exact (Kd.R_reads' HO417.out).2.1); (case side3 => repeat (first | exact (Kd.R_reads' HO423.out).2.2 | (with_reducible refine Kd.C_alloc ?_ _) | (with_reducible refine Kd.C_drewN ?_ _) | (with_reducible refine Kd.C_drew ?_))); (case side4 => exact (Kd.R_reads' HO423.out).2.1); rintro e w42 ⟨rfl, hb⟩; refine ⟨_, rfl, ?_⟩; replace HO417 := Aside0.mk (Kd.R_below (by (with_reducible repeat (first | apply Kd.R_alloc | apply Kd.R_drewN | apply Kd.R_drew)); exact HO417.out) hb); replace HO420 := Aside0.mk (Kd.R_below (by (with_reducible repeat (first | apply Kd.R_alloc | apply Kd.R_drewN | apply Kd.R_drew)); exact HO420.out) hb); replace HO423 := Aside0.mk (Kd.R_below (by (with_reducible repeat (first | apply Kd.R_alloc | apply Kd.R_drewN | apply Kd.R_drew)); exact HO423.out) hb); replace BK414 := zkb BK414 hb; replace HB := zkB HB hb; (try clear hb)))
  go_ret
  exact ⟨by first | rfl | (simp [errW_none, errW_some] <;> rfl) | (simp only [← hji4]; first | rfl | (simp [errW_none, errW_some] <;> rfl)) | (simp [*, errW_none, errW_some] <;> rfl), zaB⟩
end Go.Proofs.Ytmadjhmecfbcmaa.F
end
section
namespace Go.Proofs.Ytmadjhmecfbcmaa.F
open Go.RowKit Go.Proofs.YtmadjhmecfbcmaaW.PrintWords Go.Proofs.YtmadjhmecfbcmaaW.PrintLast Go.Proofs.YtmadjhmecfbcmaaW.PrintMore
attribute [local go_sem] max2_int min2_int max_two min_two max_three min_three max_four min_four
set_option linter.unusedVariables false
set_option linter.unusedSimpArgs false
set_option maxHeartbeats 8000000 in
set_option maxRecDepth 100000 in
theorem flyballref05_floor.calls (k : Nat) (A0_0 : Option Addr) (c0_0 : Nat) (l0_0 : List Bool) (A0_1 : Option Addr) (c0_1 : Nat) (l0_1 : List Bool) (a0_2 : Int) (a0_3 : Bool) (r : Int) (w : World) (hr0_0 : Kd.C Kd.bool w A0_0 l0_0.length l0_0) (hc0_0 : l0_0.length ≤ c0_0) (hr0_1 : Kd.C Kd.bool w A0_1 l0_1.length l0_1) (hc0_1 : l0_1.length ≤ c0_1) (h : flyballref05_floor.f k l0_0 l0_1 a0_2 a0_3 = some r) :
  Calls Try.prog 187 #[.agg #[.slice A0_0 l0_0.length c0_0, .slice A0_1 l0_1.length c0_1, .int .i64 a0_2, .bool a0_3]] w fun e w' => e = .returned (.int .i64 r) ∧ Below w.heap.size w w' := by
 have hu115 := Try.underlying115
 have HR0_0 := Aside0.mk hr0_0
 have HC0_0 := Aside0.mk hc0_0
 clear hr0_0 hc0_0
 have HR0_1 := Aside0.mk hr0_1
 have HC0_1 := Aside0.mk hc0_1
 clear hr0_1 hc0_1
 have HB := Aside0.mk (Below.refl w.heap.size w)
 have H : (flyballref05_floor.l0 k 0 9218868437227405312 l0_0 l0_1 a0_2 a0_3) = some r := h
 clear h
 have H' := Aside0.mk H
 clear H
 go_enter Try.func187, Try.ntmps187
 go_wp2_with (first | ((with_reducible refine gate_dst (N := 1) rfl ?_); refine zbx 1 #[.slice A0_0 l0_0.length c0_0, .slice A0_1 l0_1.length c0_1, .int .i64 a0_2, .bool a0_3] 115 (h := ?_); intro gb425 hg w2 hbox hb; have GW425 := zkZ hg (zaB (p := Below w.heap.size w _)); have GE425 := GW425; replace HB := Aside0.mk (below_step zaB hb); have BK425 := Aside0.mk (hbox); clear hb hbox hg))
 (try simp only [Act.put, List.setIfInBounds_toArray, List.set_cons_zero, List.set_cons_succ])
 go_loopg [3, 4] k (fun kq v3 v4 w' => ∃ (x3_1 : Int) (x4_1 : Int), v3 = .int .i64 x3_1 ∧ v4 = .int .i64 x4_1 ∧ Aside0 (flyballref05_floor.l0 kq x3_1 x4_1 l0_0 l0_1 a0_2 a0_3 = some r) ∧ Aside0 (kq ≤ k) ∧ Aside0 (w'.heap[gb425]? = some (.cells #[(.slice A0_0 l0_0.length c0_0), (.slice A0_1 l0_1.length c0_1), .int .i64 a0_2, .bool a0_3] 115 (0, 0))) ∧ Aside0 (Below w.heap.size w w'))
 case atStart => exact ⟨(0), (9218868437227405312), (by first | rfl | (simp; done) | (simp [*]; done)), (by first | rfl | (simp; done) | (simp [*]; done)), H', ⟨Nat.le_refl _⟩, ⟨(zkq BK425)⟩, ⟨zaB⟩⟩
 case round =>
  clear H'
  try clear c1
  try clear p2
  obtain ⟨x3_1, x4_1, rfl, rfl, HA, HK1, BK425, HB⟩ := hrel
  cases gk with
  | zero => exact absurd HA.out (by simp [flyballref05_floor.l0])
  | succ k1 =>
   have H := HA.out
   clear HA
   simp only [flyballref05_floor.l0] at H
   by_cases c3 : x3_1 < x4_1
   ·rw [if_pos c3] at H
    have c3b0 : decide (x3_1 < x4_1) = true := decide_eq_true c3
    clear c3
    obtain ⟨⟨t426, t427⟩, A4, H⟩ := zbs H
    try dsimp only at H
    obtain ⟨t430, A5, H⟩ := zbs H
    try dsimp only at H
    by_cases c6 : t430 ≥ 0
    ·rw [if_pos c6] at H
     have c6b0 : decide (0 ≤ t430) = true := decide_eq_true c6
     clear c6
     have H' := Aside0.mk H
     clear H
     go_wp2_with (first | ((with_reducible refine gate_callee (f := 188) rfl ?_); refine goesL_ (some 19) rfl rfl Try.func188 (by kernel_rfl) rfl #[.int .i64 (wrap64 (x4_1 - (wrap64 (Int.tdiv (wrap64 (x4_1 - x3_1)) 2))))] rfl (by (try simp only [List.map_toArray, List.map_cons, List.map_nil]); first | done | rfl | (simp only [List.length_drop, List.length_take]; rfl)) ?_; (with_reducible refine (flyballref05_split.calls k1 (wrap64 (x4_1 - (wrap64 (Int.tdiv (wrap64 (x4_1 - x3_1)) 2)))) t426 t427 _ A4.out).mono ?_); rintro e w7 ⟨v428, rfl, ho0, hb⟩; refine ⟨_, rfl, ?_⟩; have HO429 := Aside0.mk (Kd.R_lower ho0 (below_size zaB)); replace BK425 := zkb BK425 hb; replace HB := zkB HB hb; (try clear hb); (try clear ho0); have hcz8_0 := zc0 BK425; have hcz8_1 := zc1 BK425; have hcz8_2 := zc2 BK425; have hcz8_3 := zc3 BK425; have hfz8_0 := blk_frozen BK425.out 0; have hfz8_1 := blk_frozen BK425.out 1; have hfz8_2 := blk_frozen BK425.out 2; have hfz8_3 := blk_frozen BK425.out 3; obtain ⟨Ao9, co9, eo9⟩ := Kd.R_slice HO429.out; subst eo9) | ((with_reducible refine gate_callee (f := 189) rfl ?_); refine goesL_ (some 25) rfl rfl Try.func189 (by kernel_rfl) rfl #[.agg #[.slice A0_0 l0_0.length c0_0, .slice A0_1 l0_1.length c0_1, .int .i64 a0_2, .bool a0_3], .slice Ao9 t426.length co9, .int .i64 t427] rfl (by (try simp only [List.map_toArray, List.map_cons, List.map_nil]); first | done | rfl | (simp only [List.length_drop, List.length_take]; rfl)) ?_; (with_reducible refine (flyballref05_cmp.calls k1 _ _ l0_0 _ _ l0_1 a0_2 a0_3 _ _ t426 t427 t430 _ ?side1 ?side2 ?side3 ?side4 ?side5 ?side6 A5.out).mono ?_); (case side1 => repeat (first | exact (Kd.C_below HR0_0.out HB.out) | (with_reducible refine Kd.C_alloc ?_ _) | (with_reducible refine Kd.C_drewN ?_ _) | (with_reducible refine Kd.C_drew ?_))); (case side2 => exact HC0_0.out); (case side3 => repeat (first | exact (Kd.C_below HR0_1.out HB.out) | (with_reducible refine Kd.C_alloc ?_ _) | (with_reducible refine Kd.C_drewN ?_ _) | (with_reducible refine Kd.C_drew ?_))); (case side4 => exact HC0_1.out); (case side5 => repeat (first | exact (Kd.R_reads' HO429.out).2.2 | (with_reducible refine Kd.C_alloc ?_ _) | (with_reducible refine Kd.C_drewN ?_ _) | (with_reducible refine Kd.C_drew ?_))); (case side6 => exact (Kd.R_reads' HO429.out).2.1); rintro e w10 ⟨rfl, hb⟩; refine ⟨_, rfl, ?_⟩; replace HO429 := Aside0.mk (Kd.R_below (by (with_reducible repeat (first | apply Kd.R_alloc | apply Kd.R_drewN | apply Kd.R_drew)); exact HO429.out) hb); replace BK425 := zkb BK425 hb; replace HB := zkB HB hb; (try clear hb)))
     go_roundg k1
     case measure => have := HK1.out; omega
     case rel => exact ⟨(wrap64 (x4_1 - (wrap64 (Int.tdiv (wrap64 (x4_1 - x3_1)) 2)))), (x4_1), (by first | rfl | (simp; done) | (simp [*]; done)), (by first | rfl | (simp; done) | (simp [*]; done)), H', ⟨by have := HK1.out; omega⟩, ⟨(zkq BK425)⟩, ⟨zaB⟩⟩
    ·rw [if_neg c6] at H
     have c6b0 : decide (0 ≤ t430) = false := decide_eq_false c6
     clear c6
     have H' := Aside0.mk H
     clear H
     go_wp2_with (first | ((with_reducible refine gate_callee (f := 188) rfl ?_); refine goesL_ (some 19) rfl rfl Try.func188 (by kernel_rfl) rfl #[.int .i64 (wrap64 (x4_1 - (wrap64 (Int.tdiv (wrap64 (x4_1 - x3_1)) 2))))] rfl (by (try simp only [List.map_toArray, List.map_cons, List.map_nil]); first | done | rfl | (simp only [List.length_drop, List.length_take]; rfl)) ?_; (with_reducible refine (flyballref05_split.calls k1 (wrap64 (x4_1 - (wrap64 (Int.tdiv (wrap64 (x4_1 - x3_1)) 2)))) t426 t427 _ A4.out).mono ?_); rintro e w11 ⟨v428, rfl, ho0, hb⟩; refine ⟨_, rfl, ?_⟩; have HO429 := Aside0.mk (Kd.R_lower ho0 (below_size zaB)); replace BK425 := zkb BK425 hb; replace HB := zkB HB hb; (try clear hb); (try clear ho0); have hcz12_0 := zc0 BK425; have hcz12_1 := zc1 BK425; have hcz12_2 := zc2 BK425; have hcz12_3 := zc3 BK425; have hfz12_0 := blk_frozen BK425.out 0; have hfz12_1 := blk_frozen BK425.out 1; have hfz12_2 := blk_frozen BK425.out 2; have hfz12_3 := blk_frozen BK425.out 3; obtain ⟨Ao13, co13, eo13⟩ := Kd.R_slice HO429.out; subst eo13) | ((with_reducible refine gate_callee (f := 189) rfl ?_); refine goesL_ (some 25) rfl rfl Try.func189 (by kernel_rfl) rfl #[.agg #[.slice A0_0 l0_0.length c0_0, .slice A0_1 l0_1.length c0_1, .int .i64 a0_2, .bool a0_3], .slice Ao13 t426.length co13, .int .i64 t427] rfl (by (try simp only [List.map_toArray, List.map_cons, List.map_nil]); first | done | rfl | (simp only [List.length_drop, List.length_take]; rfl)) ?_; (with_reducible refine (flyballref05_cmp.calls k1 _ _ l0_0 _ _ l0_1 a0_2 a0_3 _ _ t426 t427 t430 _ ?side1 ?side2 ?side3 ?side4 ?side5 ?side6 A5.out).mono ?_); (case side1 => repeat (first | exact (Kd.C_below HR0_0.out HB.out) | (with_reducible refine Kd.C_alloc ?_ _) | (with_reducible refine Kd.C_drewN ?_ _) | (with_reducible refine Kd.C_drew ?_))); (case side2 => exact HC0_0.out); (case side3 => repeat (first | exact (Kd.C_below HR0_1.out HB.out) | (with_reducible refine Kd.C_alloc ?_ _) | (with_reducible refine Kd.C_drewN ?_ _) | (with_reducible refine Kd.C_drew ?_))); (case side4 => exact HC0_1.out); (case side5 => repeat (first | exact (Kd.R_reads' HO429.out).2.2 | (with_reducible refine Kd.C_alloc ?_ _) | (with_reducible refine Kd.C_drewN ?_ _) | (with_reducible refine Kd.C_drew ?_))); (case side6 => exact (Kd.R_reads' HO429.out).2.1); rintro e w14 ⟨rfl, hb⟩; refine ⟨_, rfl, ?_⟩; replace HO429 := Aside0.mk (Kd.R_below (by (with_reducible repeat (first | apply Kd.R_alloc | apply Kd.R_drewN | apply Kd.R_drew)); exact HO429.out) hb); replace BK425 := zkb BK425 hb; replace HB := zkB HB hb; (try clear hb)))
     go_roundg k1
     case measure => have := HK1.out; omega
     case rel => exact ⟨(x3_1), (wrap64 ((wrap64 (x4_1 - (wrap64 (Int.tdiv (wrap64 (x4_1 - x3_1)) 2)))) - 1)), (by first | rfl | (simp; done) | (simp [*]; done)), (by first | rfl | (simp; done) | (simp [*]; done)), H', ⟨by have := HK1.out; omega⟩, ⟨(zkq BK425)⟩, ⟨zaB⟩⟩
   ·rw [if_neg c3] at H
    have c3b0 : decide (x3_1 < x4_1) = false := decide_eq_false c3
    clear c3
    obtain rfl := Option.some.inj H
    go_wp2
    go_ret
    exact ⟨zaE, zaB⟩
end Go.Proofs.Ytmadjhmecfbcmaa.F
end
section
namespace Go.Proofs.Ytmadjhmecfbcmaa.F
open Go.RowKit Go.Proofs.YtmadjhmecfbcmaaW.PrintWords Go.Proofs.YtmadjhmecfbcmaaW.PrintLast Go.Proofs.YtmadjhmecfbcmaaW.PrintMore
attribute [local go_sem] max2_int min2_int max_two min_two max_three min_three max_four min_four
set_option linter.unusedVariables false
set_option linter.unusedSimpArgs false
set_option maxHeartbeats 8000000 in
set_option maxRecDepth 100000 in
theorem flyballref05_Magnitude.calls (k : Nat) (A0_0 : Option Addr) (c0_0 : Nat) (l0_0 : List Bool) (A0_1 : Option Addr) (c0_1 : Nat) (l0_1 : List Bool) (a0_2 : Int) (a0_3 : Bool) (a1 : Int) (r1 : Int) (r2 : Int) (w : World) (hr0_0 : Kd.C Kd.bool w A0_0 l0_0.length l0_0) (hc0_0 : l0_0.length ≤ c0_0) (hr0_1 : Kd.C Kd.bool w A0_1 l0_1.length l0_1) (hc0_1 : l0_1.length ≤ c0_1) (h : flyballref05_Magnitude.f k l0_0 l0_1 a0_2 a0_3 a1 = some (r1, r2)) :
  Calls Try.prog 163 #[.agg #[.slice A0_0 l0_0.length c0_0, .slice A0_1 l0_1.length c0_1, .int .i64 a0_2, .bool a0_3], .int .u8 a1] w fun e w' => e = .returned (.tuple #[.int .i64 r1, .int .u8 r2]) ∧ Below w.heap.size w w' := by
 have hu115 := Try.underlying115
 have HR0_0 := Aside0.mk hr0_0
 have HC0_0 := Aside0.mk hc0_0
 clear hr0_0 hc0_0
 have HR0_1 := Aside0.mk hr0_1
 have HC0_1 := Aside0.mk hc0_1
 clear hr0_1 hc0_1
 have HB := Aside0.mk (Below.refl w.heap.size w)
 have H : ((flyballref05_floor.f k l0_0 l0_1 a0_2 a0_3).bind fun t432 => ((flyballref05_split.f k t432).bind fun bt433 => ((flyballref05_cmp.f k l0_0 l0_1 a0_2 a0_3 bt433.1 bt433.2).bind fun t437 => ((flyballref01_Of.f k (([1] : List Int))).bind fun t441 => (if t437 = 0 then (flyballref05_Magnitude.j0 k a1 0 t432 (t437 == 0) t441 l0_0 l0_1 a0_2 a0_3) else ((flyballref05_cmp.f k l0_0 l0_1 a0_2 a0_3 t441 (-1022)).bind fun t444 => (if t444 < 0 then (flyballref05_Magnitude.j0 k a1 (Go.bits .or .u8 (Go.bits .or .u8 0 1) 2) t432 (t437 == 0) t441 l0_0 l0_1 a0_2 a0_3) else (flyballref05_Magnitude.j0 k a1 (Go.bits .or .u8 0 1) t432 (t437 == 0) t441 l0_0 l0_1 a0_2 a0_3)))))))) = some (r1, r2) := h
 clear h
 obtain ⟨t432, A3, H⟩ := zbs H
 try dsimp only at H
 obtain ⟨⟨t433, t434⟩, A4, H⟩ := zbs H
 try dsimp only at H
 obtain ⟨t437, A5, H⟩ := zbs H
 try dsimp only at H
 obtain ⟨y438, hy438⟩ : ∃ y_ : List Int, y_ = (([1] : List Int)) := ⟨_, rfl⟩
 replace H : ((flyballref01_Of.f k y438).bind fun t441 => (if t437 = 0 then (flyballref05_Magnitude.j0 k a1 0 t432 (t437 == 0) t441 l0_0 l0_1 a0_2 a0_3) else ((flyballref05_cmp.f k l0_0 l0_1 a0_2 a0_3 t441 (-1022)).bind fun t444 => (if t444 < 0 then (flyballref05_Magnitude.j0 k a1 (Go.bits .or .u8 (Go.bits .or .u8 0 1) 2) t432 (t437 == 0) t441 l0_0 l0_1 a0_2 a0_3) else (flyballref05_Magnitude.j0 k a1 (Go.bits .or .u8 0 1) t432 (t437 == 0) t441 l0_0 l0_1 a0_2 a0_3))))) = some (r1, r2) := by first | (rw [hy438]; with_reducible exact H) | (have H2_ := (Option.bind_some _ _).symm.trans H; rw [hy438]; with_reducible exact H2_) | (have H2_ := (Option.bind_some _ _).symm.trans H; with_reducible exact H2_) | with_reducible exact H | (rw [hy438]; exact H) | exact H
 have Ny438 := Aside0.mk hy438
 clear hy438
 obtain ⟨t441, A6, H⟩ := zbs H
 try dsimp only at H
 have HC7 := Aside0.mk H
 clear H
 go_enter Try.func163, Try.ntmps163
 go_upto_if 32 with (first | ((with_reducible refine gate_dst (N := 2) rfl ?_); refine zbx 2 #[.slice A0_0 l0_0.length c0_0, .slice A0_1 l0_1.length c0_1, .int .i64 a0_2, .bool a0_3] 115 (h := ?_); intro gb431 hg w8 hbox hb; have GW431 := zkZ hg (zaB (p := Below w.heap.size w _)); have GE431 := GW431; replace HB := Aside0.mk (below_step zaB hb); have BK431 := Aside0.mk (hbox); clear hb hbox hg; have hcz9_0 := zc0 BK431; have hcz9_1 := zc1 BK431; have hcz9_2 := zc2 BK431; have hcz9_3 := zc3 BK431; have hfz9_0 := blk_frozen BK431.out 0; have hfz9_1 := blk_frozen BK431.out 1; have hfz9_2 := blk_frozen BK431.out 2; have hfz9_3 := blk_frozen BK431.out 3) | ((with_reducible refine gate_callee (f := 187) rfl ?_); refine goesL_ (some 18) rfl rfl Try.func187 (by kernel_rfl) rfl #[.agg #[.slice A0_0 l0_0.length c0_0, .slice A0_1 l0_1.length c0_1, .int .i64 a0_2, .bool a0_3]] rfl (by (try simp only [List.map_toArray, List.map_cons, List.map_nil]); first | done | rfl | (simp only [List.length_drop, List.length_take]; rfl)) ?_; (with_reducible refine (flyballref05_floor.calls k _ _ l0_0 _ _ l0_1 a0_2 a0_3 t432 _ ?side1 ?side2 ?side3 ?side4 A3.out).mono ?_); (case side1 => repeat (first | exact (Kd.C_below HR0_0.out HB.out) | (with_reducible refine Kd.C_alloc ?_ _) | (with_reducible refine Kd.C_drewN ?_ _) | (with_reducible refine Kd.C_drew ?_))); (case side2 => exact HC0_0.out); (case side3 => repeat (first | exact (Kd.C_below HR0_1.out HB.out) | (with_reducible refine Kd.C_alloc ?_ _) | (with_reducible refine Kd.C_drewN ?_ _) | (with_reducible refine Kd.C_drew ?_))); (case side4 => exact HC0_1.out); rintro e w10 ⟨rfl, hb⟩; refine ⟨_, rfl, ?_⟩; replace BK431 := zkb BK431 hb; replace HB := zkB HB hb; (try clear hb)) | ((with_reducible refine gate_callee (f := 188) rfl ?_); refine goesL_ (some 21) rfl rfl Try.func188 (by kernel_rfl) rfl #[.int .i64 t432] rfl (by (try simp only [List.map_toArray, List.map_cons, List.map_nil]); first | done | rfl | (simp only [List.length_drop, List.length_take]; rfl)) ?_; (with_reducible refine (flyballref05_split.calls k t432 t433 t434 _ A4.out).mono ?_); rintro e w11 ⟨v435, rfl, ho0, hb⟩; refine ⟨_, rfl, ?_⟩; have HO436 := Aside0.mk (Kd.R_lower ho0 (below_size zaB)); replace BK431 := zkb BK431 hb; replace HB := zkB HB hb; (try clear hb); (try clear ho0); have hcz12_0 := zc0 BK431; have hcz12_1 := zc1 BK431; have hcz12_2 := zc2 BK431; have hcz12_3 := zc3 BK431; have hfz12_0 := blk_frozen BK431.out 0; have hfz12_1 := blk_frozen BK431.out 1; have hfz12_2 := blk_frozen BK431.out 2; have hfz12_3 := blk_frozen BK431.out 3; obtain ⟨Ao13, co13, eo13⟩ := Kd.R_slice HO436.out; subst eo13) | ((with_reducible refine gate_callee (f := 189) rfl ?_); refine goesL_ (some 27) rfl rfl Try.func189 (by kernel_rfl) rfl #[.agg #[.slice A0_0 l0_0.length c0_0, .slice A0_1 l0_1.length c0_1, .int .i64 a0_2, .bool a0_3], .slice Ao13 t433.length co13, .int .i64 t434] rfl (by (try simp only [List.map_toArray, List.map_cons, List.map_nil]); first | done | rfl | (simp only [List.length_drop, List.length_take]; rfl)) ?_; (with_reducible refine (flyballref05_cmp.calls k _ _ l0_0 _ _ l0_1 a0_2 a0_3 _ _ t433 t434 t437 _ ?side1 ?side2 ?side3 ?side4 ?side5 ?side6 A5.out).mono ?_); (case side1 => repeat (first | exact (Kd.C_below HR0_0.out HB.out) | (with_reducible refine Kd.C_alloc ?_ _) | (with_reducible refine Kd.C_drewN ?_ _) | (with_reducible refine Kd.C_drew ?_))); (case side2 => exact HC0_0.out); (case side3 => repeat (first | exact (Kd.C_below HR0_1.out HB.out) | (with_reducible refine Kd.C_alloc ?_ _) | (with_reducible refine Kd.C_drewN ?_ _) | (with_reducible refine Kd.C_drew ?_))); (case side4 => exact HC0_1.out); (case side5 => repeat (first | exact (Kd.R_reads' HO436.out).2.2 | (with_reducible refine Kd.C_alloc ?_ _) | (with_reducible refine Kd.C_drewN ?_ _) | (with_reducible refine Kd.C_drew ?_))); (case side6 => exact (Kd.R_reads' HO436.out).2.1); rintro e w14 ⟨rfl, hb⟩; refine ⟨_, rfl, ?_⟩; replace HO436 := Aside0.mk (Kd.R_below (by (with_reducible repeat (first | apply Kd.R_alloc | apply Kd.R_drewN | apply Kd.R_drew)); exact HO436.out) hb); replace BK431 := zkb BK431 hb; replace HB := zkB HB hb; (try clear hb)) | ((with_reducible refine gate_dst (N := 29) rfl ?_); refine Kd.R_lit (Kd.int .u64) _ 22 ?hg (N := 29) ?hd (xs := ([1] : List Int)) (inner := [.int .u64 1]) (ok := fun _ => True) (okp := fun _ => True) ?hr ?hp (fun _ hk => hk) trivial (Below.refl _ _) (Nat.le_refl _) (by simp) ?_; (case hd => rfl); (case hg => rfl); (case hr => first | (go_simp; done) | (go_simp; rfl)); (case hp => exact (Reps.one (show Kd.M (Kd.int .u64) _ _ _ 1 [.int .u64 1] from rfl) (Reps.none _ _))); intro v439 w15 ho16 hb hg_ hnew_; clear hg_ hnew_; (first | rw [← Ny438.out] at ho16 | (simp only [Int.reduceToNat] at ho16; rw [← Ny438.out] at ho16)); replace HO436 := Aside0.mk (Kd.R_below (by (with_reducible repeat (first | apply Kd.R_alloc | apply Kd.R_drewN | apply Kd.R_drew)); exact HO436.out) hb); have HO440 := Aside0.mk (Kd.R_lower ho16 (below_size zaB)); replace BK431 := zkb BK431 hb; replace HB := zkB HB hb; clear hb ho16; obtain ⟨Ao17, co17, eo17⟩ := Kd.R_slice HO440.out; subst eo17) | ((with_reducible refine gate_callee (f := 155) rfl ?_); refine goesL_ (some 30) rfl rfl Try.func155 (by kernel_rfl) rfl #[.slice Ao17 y438.length co17] rfl (by (try simp only [List.map_toArray, List.map_cons, List.map_nil]); first | done | rfl | (simp only [List.length_drop, List.length_take]; rfl)) ?_; (with_reducible refine (flyballref01_Of.calls k _ _ y438 t441 _ ?side1 ?side2 A6.out).mono ?_); (case side1 => repeat (first | exact (Kd.R_reads' HO440.out).2.2 | (with_reducible refine Kd.C_alloc ?_ _) | (with_reducible refine Kd.C_drewN ?_ _) | (with_reducible refine Kd.C_drew ?_))); (case side2 => exact (Kd.R_reads' HO440.out).2.1); rintro e w18 ⟨v442, rfl, ho0, hb⟩; refine ⟨_, rfl, ?_⟩; replace HO440 := Aside0.mk (Kd.R_below (by (with_reducible repeat (first | apply Kd.R_alloc | apply Kd.R_drewN | apply Kd.R_drew)); exact HO440.out) hb); have HO443 := Aside0.mk (Kd.R_lower (Kd.R_new' ho0 (Kd.R_lt (by (with_reducible repeat (first | apply Kd.R_alloc | apply Kd.R_drewN | apply Kd.R_drew)); exact HO436.out))) (below_size zaB)); replace HO436 := Aside0.mk (Kd.R_elder' (by (with_reducible repeat (first | apply Kd.R_alloc | apply Kd.R_drewN | apply Kd.R_drew)); exact HO436.out) (Kd.R_base ho0) hb); replace BK431 := zkb BK431 hb; replace HB := zkB HB hb; (try clear hb); (try clear ho0)))
 (try simp only [Act.put, List.setIfInBounds_toArray, List.set_cons_zero, List.set_cons_succ])
 go_cut [6, 10] (fun v6 v10 wc => ∃ (kq : Nat) (x6_6 : Int), v6 = .int .u8 x6_6 ∧ v10 = .bool (t437 == 0) ∧ Aside0 (flyballref05_Magnitude.j0 kq a1 x6_6 t432 (t437 == 0) t441 l0_0 l0_1 a0_2 a0_3 = some (r1, r2)) ∧ Aside0 (kq ≤ k) ∧ Aside0 (Kd.R Kd.bool 4 wc w.heap.size (fun _ => True) v442 t441) ∧ Aside0 (wc.heap[gb431]? = some (.cells #[(.slice A0_0 l0_0.length c0_0), (.slice A0_1 l0_1.length c0_1), .int .i64 a0_2, .bool a0_3] 115 (0, 0))) ∧ Aside0 (Below w.heap.size w wc))
 case first =>
  have H := HC7.out
  clear HC7
  by_cases c19 : t437 = 0
  ·rw [if_pos c19] at H
   have c19b0 : (t437 == 0) = true := beq_iff_eq.mpr c19
   have c19b1 : (t437 != 0) = false := bne_eq_false_iff_eq.mpr c19
   clear c19
   (first | rw [c19b0] | (simp only [i64_w, i32_w]; rw [c19b0]) | skip)
   have H' := Aside0.mk H
   clear H
   go_wp2
   go_meet
   case rel => exact ⟨_, (0), (by first | rfl | (simp; done) | (simp [*]; done)), (by first | rfl | (rw [c19b0])), H', ⟨by first | omega | exact Nat.le_refl _⟩, ⟨by (with_reducible repeat (first | apply Kd.R_alloc | apply Kd.R_drewN | apply Kd.R_drew)); exact Kd.R_mono HO443.out (fun _ hk => trivial)⟩, ⟨(zkq BK431)⟩, ⟨zaB⟩⟩
  ·rw [if_neg c19] at H
   have c19b0 : (t437 == 0) = false := beq_eq_false_iff_ne.mpr c19
   have c19b1 : (t437 != 0) = true := bne_iff_ne.mpr c19
   (first | rw [c19b0] | (simp only [i64_w, i32_w]; rw [c19b0]) | skip)
   obtain ⟨t444, A20, H⟩ := zbs H
   try dsimp only at H
   by_cases c21 : t444 < 0
   ·rw [if_pos c21] at H
    have c21b0 : decide (t444 < 0) = true := decide_eq_true c21
    clear c21
    have H' := Aside0.mk H
    clear H
    have hcz22_0 := zc0 BK431
    have hcz22_1 := zc1 BK431
    have hcz22_2 := zc2 BK431
    have hcz22_3 := zc3 BK431
    have hfz22_0 := blk_frozen BK431.out 0
    have hfz22_1 := blk_frozen BK431.out 1
    have hfz22_2 := blk_frozen BK431.out 2
    have hfz22_3 := blk_frozen BK431.out 3
    obtain ⟨Ao23, co23, eo23⟩ := Kd.R_slice HO443.out
    subst eo23
    go_wp2_with (first | ((with_reducible refine gate_callee (f := 189) rfl ?_); refine goesL_ (some 37) rfl rfl Try.func189 (by kernel_rfl) rfl #[.agg #[.slice A0_0 l0_0.length c0_0, .slice A0_1 l0_1.length c0_1, .int .i64 a0_2, .bool a0_3], .slice Ao23 t441.length co23, .int .i64 (-1022)] rfl (by (try simp only [List.map_toArray, List.map_cons, List.map_nil]); first | done | rfl | (simp only [List.length_drop, List.length_take]; rfl)) ?_; (with_reducible refine (flyballref05_cmp.calls k _ _ l0_0 _ _ l0_1 a0_2 a0_3 _ _ t441 (-1022) t444 _ ?side1 ?side2 ?side3 ?side4 ?side5 ?side6 A20.out).mono ?_); (case side1 => repeat (first | exact (Kd.C_below HR0_0.out HB.out) | (with_reducible refine Kd.C_alloc ?_ _) | (with_reducible refine Kd.C_drewN ?_ _) | (with_reducible refine Kd.C_drew ?_))); (case side2 => exact HC0_0.out); (case side3 => repeat (first | exact (Kd.C_below HR0_1.out HB.out) | (with_reducible refine Kd.C_alloc ?_ _) | (with_reducible refine Kd.C_drewN ?_ _) | (with_reducible refine Kd.C_drew ?_))); (case side4 => exact HC0_1.out); (case side5 => repeat (first | exact (Kd.R_reads' HO443.out).2.2 | (with_reducible refine Kd.C_alloc ?_ _) | (with_reducible refine Kd.C_drewN ?_ _) | (with_reducible refine Kd.C_drew ?_))); (case side6 => exact (Kd.R_reads' HO443.out).2.1); rintro e w24 ⟨rfl, hb⟩; refine ⟨_, rfl, ?_⟩; replace HO436 := Aside0.mk (Kd.R_below (by (with_reducible repeat (first | apply Kd.R_alloc | apply Kd.R_drewN | apply Kd.R_drew)); exact HO436.out) hb); replace HO440 := Aside0.mk (Kd.R_below (by (with_reducible repeat (first | apply Kd.R_alloc | apply Kd.R_drewN | apply Kd.R_drew)); exact HO440.out) hb); replace HO443 := Aside0.mk (Kd.R_below (by (with_reducible repeat (first | apply Kd.R_alloc | apply Kd.R_drewN | apply Kd.R_drew)); exact HO443.out) hb); replace BK431 := zkb BK431 hb; replace HB := zkB HB hb; (try clear hb)))
    go_meet
    case rel => exact ⟨_, (Go.bits .or .u8 (Go.bits .or .u8 0 1) 2), (by first | rfl | (simp; done) | (simp [*]; done)), (by first | rfl | (rw [c19b0])), H', ⟨by first | omega | exact Nat.le_refl _⟩, ⟨by (with_reducible repeat (first | apply Kd.R_alloc | apply Kd.R_drewN | apply Kd.R_drew)); exact Kd.R_mono HO443.out (fun _ hk => trivial)⟩, ⟨(zkq BK431)⟩, ⟨zaB⟩⟩
   ·rw [if_neg c21] at H
    have c21b0 : decide (t444 < 0) = false := decide_eq_false c21
    clear c21
    have H' := Aside0.mk H
    clear H
    have hcz25_0 := zc0 BK431
    have hcz25_1 := zc1 BK431
    have hcz25_2 := zc2 BK431
    have hcz25_3 := zc3 BK431
    have hfz25_0 := blk_frozen BK431.out 0
    have hfz25_1 := blk_frozen BK431.out 1
    have hfz25_2 := blk_frozen BK431.out 2
    have hfz25_3 := blk_frozen BK431.out 3
    obtain ⟨Ao26, co26, eo26⟩ := Kd.R_slice HO443.out
    subst eo26
    go_wp2_with (first | ((with_reducible refine gate_callee (f := 189) rfl ?_); refine goesL_ (some 37) rfl rfl Try.func189 (by kernel_rfl) rfl #[.agg #[.slice A0_0 l0_0.length c0_0, .slice A0_1 l0_1.length c0_1, .int .i64 a0_2, .bool a0_3], .slice Ao26 t441.length co26, .int .i64 (-1022)] rfl (by (try simp only [List.map_toArray, List.map_cons, List.map_nil]); first | done | rfl | (simp only [List.length_drop, List.length_take]; rfl)) ?_; (with_reducible refine (flyballref05_cmp.calls k _ _ l0_0 _ _ l0_1 a0_2 a0_3 _ _ t441 (-1022) t444 _ ?side1 ?side2 ?side3 ?side4 ?side5 ?side6 A20.out).mono ?_); (case side1 => repeat (first | exact (Kd.C_below HR0_0.out HB.out) | (with_reducible refine Kd.C_alloc ?_ _) | (with_reducible refine Kd.C_drewN ?_ _) | (with_reducible refine Kd.C_drew ?_))); (case side2 => exact HC0_0.out); (case side3 => repeat (first | exact (Kd.C_below HR0_1.out HB.out) | (with_reducible refine Kd.C_alloc ?_ _) | (with_reducible refine Kd.C_drewN ?_ _) | (with_reducible refine Kd.C_drew ?_))); (case side4 => exact HC0_1.out); (case side5 => repeat (first | exact (Kd.R_reads' HO443.out).2.2 | (with_reducible refine Kd.C_alloc ?_ _) | (with_reducible refine Kd.C_drewN ?_ _) | (with_reducible refine Kd.C_drew ?_))); (case side6 => exact (Kd.R_reads' HO443.out).2.1); rintro e w27 ⟨rfl, hb⟩; refine ⟨_, rfl, ?_⟩; replace HO436 := Aside0.mk (Kd.R_below (by (with_reducible repeat (first | apply Kd.R_alloc | apply Kd.R_drewN | apply Kd.R_drew)); exact HO436.out) hb); replace HO440 := Aside0.mk (Kd.R_below (by (with_reducible repeat (first | apply Kd.R_alloc | apply Kd.R_drewN | apply Kd.R_drew)); exact HO440.out) hb); replace HO443 := Aside0.mk (Kd.R_below (by (with_reducible repeat (first | apply Kd.R_alloc | apply Kd.R_drewN | apply Kd.R_drew)); exact HO443.out) hb); replace BK431 := zkb BK431 hb; replace HB := zkB HB hb; (try clear hb)))
    go_meet
    case rel => exact ⟨_, (Go.bits .or .u8 0 1), (by first | rfl | (simp; done) | (simp [*]; done)), (by first | rfl | (rw [c19b0])), H', ⟨by first | omega | exact Nat.le_refl _⟩, ⟨by (with_reducible repeat (first | apply Kd.R_alloc | apply Kd.R_drewN | apply Kd.R_drew)); exact Kd.R_mono HO443.out (fun _ hk => trivial)⟩, ⟨(zkq BK431)⟩, ⟨zaB⟩⟩
 case rest =>
  clear HC7
  try clear c1
  try clear c2
  try clear p2
  try clear c15
  try clear c16
  try clear c18
  try clear c19
  try clear c19b0
  try clear c19b1
  try clear c21
  try clear c21b0
  try clear hcz12_0
  try clear hcz12_1
  try clear hcz12_2
  try clear hcz12_3
  try clear hcz22_0
  try clear hcz22_1
  try clear hcz22_2
  try clear hcz22_3
  try clear hcz25_0
  try clear hcz25_1
  try clear hcz25_2
  try clear hcz25_3
  try clear hcz9_0
  try clear hcz9_1
  try clear hcz9_2
  try clear hcz9_3
  try clear hfz12_0
  try clear hfz12_1
  try clear hfz12_2
  try clear hfz12_3
  try clear hfz22_0
  try clear hfz22_1
  try clear hfz22_2
  try clear hfz22_3
  try clear hfz25_0
  try clear hfz25_1
  try clear hfz25_2
  try clear hfz25_3
  try clear hfz9_0
  try clear hfz9_1
  try clear hfz9_2
  try clear hfz9_3
  obtain ⟨kq, x6_6, rfl, rfl, HA, HJ6, HO_11, BK431, HB⟩ := hcut
  cases kq with
  | zero => exact absurd HA.out (by simp [flyballref05_Magnitude.j0])
  | succ kj6 =>
   have H := HA.out
   clear HA
   simp only [flyballref05_Magnitude.j0] at H
   have HC28 := Aside0.mk H
   clear H
   go_upto_if 42 with (fail)
   go_cut [12] (fun v12 wc => ∃ (kq : Nat) (x12_27 : Bool), v12 = .bool x12_27 ∧ Aside0 (flyballref05_Magnitude.j1 kq a1 x6_6 t432 x12_27 = some (r1, r2)) ∧ Aside0 (kq ≤ kj6) ∧ Aside0 (wc.heap[gb431]? = some (.cells #[(.slice A0_0 l0_0.length c0_0), (.slice A0_1 l0_1.length c0_1), .int .i64 a0_2, .bool a0_3] 115 (0, 0))) ∧ Aside0 (Below w.heap.size w wc))
   case first =>
    have H := HC28.out
    clear HC28
    by_cases c29 : a1 = 1
    ·rw [if_pos c29] at H
     have c29b0 : (a1 == 1) = true := beq_iff_eq.mpr c29
     have c29b1 : (a1 != 1) = false := bne_eq_false_iff_eq.mpr c29
     clear c29
     (first | rw [c29b0] | (simp only [i64_w, i32_w]; rw [c29b0]) | skip)
     have H' := Aside0.mk H
     clear H
     go_wp2
     go_meet
     case rel => exact ⟨_, (!(t437 == 0)), (by first | rfl | (simp; done) | (simp [*]; done)), H', ⟨by have := HJ6.out; first | omega | exact Nat.le_refl _⟩, ⟨(zkq BK431)⟩, ⟨zaB⟩⟩
    ·rw [if_neg c29] at H
     have c29b0 : (a1 == 1) = false := beq_eq_false_iff_ne.mpr c29
     have c29b1 : (a1 != 1) = true := bne_iff_ne.mpr c29
     (first | rw [c29b0] | (simp only [i64_w, i32_w]; rw [c29b0]) | skip)
     by_cases c30 : a1 = 2
     ·rw [if_pos c30] at H
      have c30b0 : (a1 == 2) = true := beq_iff_eq.mpr c30
      have c30b1 : (a1 != 2) = false := bne_eq_false_iff_eq.mpr c30
      clear c30
      have H' := Aside0.mk H
      clear H
      go_wp2
      go_meet
      case rel => exact ⟨_, (false), (by first | rfl | (simp; done) | (simp [*]; done)), H', ⟨by have := HJ6.out; first | omega | exact Nat.le_refl _⟩, ⟨(zkq BK431)⟩, ⟨zaB⟩⟩
     ·rw [if_neg c30] at H
      have c30b0 : (a1 == 2) = false := beq_eq_false_iff_ne.mpr c30
      have c30b1 : (a1 != 2) = true := bne_iff_ne.mpr c30
      obtain ⟨⟨t445, t446⟩, A31, H⟩ := zbs H
      try dsimp only at H
      by_cases c32 : t432 > 9218868437227405311
      ·rw [if_pos c32] at H
       have c32b0 : decide (9218868437227405311 < t432) = true := decide_eq_true c32
       clear c32
       obtain ⟨⟨t449, t450⟩, A33, H⟩ := zbs H
       try dsimp only at H
       obtain ⟨t453, A34, H⟩ := zbs H
       try dsimp only at H
       obtain ⟨t456, A35, H⟩ := zbs H
       try dsimp only at H
       obtain ⟨t459, A36, H⟩ := zbs H
       try dsimp only at H
       obtain ⟨t462, A37, H⟩ := zbs H
       try dsimp only at H
       by_cases c38 : t462 > 0
       ·rw [if_pos c38] at H
        have c38b0 : decide (0 < t462) = true := decide_eq_true c38
        clear c38
        have H' := Aside0.mk H
        clear H
        go_wp2_with (first | ((with_reducible refine gate_callee (f := 188) rfl ?_); refine goesL_ (some 49) rfl rfl Try.func188 (by kernel_rfl) rfl #[.int .i64 t432] rfl (by (try simp only [List.map_toArray, List.map_cons, List.map_nil]); first | done | rfl | (simp only [List.length_drop, List.length_take]; rfl)) ?_; (with_reducible refine (flyballref05_split.calls kj6 t432 t445 t446 _ A31.out).mono ?_); rintro e w39 ⟨v447, rfl, ho0, hb⟩; refine ⟨_, rfl, ?_⟩; have HO448 := Aside0.mk (Kd.R_lower (Kd.R_new' ho0 (Kd.R_lt (by (with_reducible repeat (first | apply Kd.R_alloc | apply Kd.R_drewN | apply Kd.R_drew)); exact HO_11.out))) (below_size zaB)); replace HO_11 := Aside0.mk (Kd.R_elder' (by (with_reducible repeat (first | apply Kd.R_alloc | apply Kd.R_drewN | apply Kd.R_drew)); exact HO_11.out) (Kd.R_base ho0) hb); replace BK431 := zkb BK431 hb; replace HB := zkB HB hb; (try clear hb); (try clear ho0)) | ((with_reducible refine gate_callee (f := 188) rfl ?_); refine goesL_ (some 55) rfl rfl Try.func188 (by kernel_rfl) rfl #[.int .i64 9218868437227405311] rfl (by (try simp only [List.map_toArray, List.map_cons, List.map_nil]); first | done | rfl | (simp only [List.length_drop, List.length_take]; rfl)) ?_; (with_reducible refine (flyballref05_split.calls kj6 9218868437227405311 t449 t450 _ A33.out).mono ?_); rintro e w40 ⟨v451, rfl, ho0, hb⟩; refine ⟨_, rfl, ?_⟩; have HO452 := Aside0.mk (Kd.R_lower (Kd.R_new' (Kd.R_new' ho0 (Kd.R_lt (by (with_reducible repeat (first | apply Kd.R_alloc | apply Kd.R_drewN | apply Kd.R_drew)); exact HO_11.out))) (Kd.R_lt (by (with_reducible repeat (first | apply Kd.R_alloc | apply Kd.R_drewN | apply Kd.R_drew)); exact HO448.out))) (below_size zaB)); replace HO_11 := Aside0.mk (Kd.R_elder' (by (with_reducible repeat (first | apply Kd.R_alloc | apply Kd.R_drewN | apply Kd.R_drew)); exact HO_11.out) (Kd.R_base ho0) hb); replace HO448 := Aside0.mk (Kd.R_elder' (by (with_reducible repeat (first | apply Kd.R_alloc | apply Kd.R_drewN | apply Kd.R_drew)); exact HO448.out) (Kd.R_base ho0) hb); replace BK431 := zkb BK431 hb; replace HB := zkB HB hb; (try clear hb); (try clear ho0); obtain ⟨Ao41, co41, eo41⟩ := Kd.R_slice HO452.out; subst eo41; obtain ⟨Ao42, co42, eo42⟩ := Kd.R_slice HO_11.out; subst eo42) | ((with_reducible refine gate_callee (f := 92) rfl ?_); refine goesL_ (some 60) rfl rfl Try.func92 (by kernel_rfl) rfl #[.slice Ao41 t449.length co41, .slice Ao42 t441.length co42] rfl (by (try simp only [List.map_toArray, List.map_cons, List.map_nil]); first | done | rfl | (simp only [List.length_drop, List.length_take]; rfl)) ?_; (with_reducible refine (flyballref01_Add.calls kj6 _ _ t449 _ _ t441 t453 _ ?side1 ?side2 ?side3 ?side4 A34.out).mono ?_); (case side1 => repeat (first | exact (Kd.R_reads' HO452.out).2.2 | (with_reducible refine Kd.C_alloc ?_ _) | (with_reducible refine Kd.C_drewN ?_ _) | (with_reducible refine Kd.C_drew ?_))); (case side2 => exact (Kd.R_reads' HO452.out).2.1); (case side3 => repeat (first | exact (Kd.R_reads' HO_11.out).2.2 | (with_reducible refine Kd.C_alloc ?_ _) | (with_reducible refine Kd.C_drewN ?_ _) | (with_reducible refine Kd.C_drew ?_))); (case side4 => exact (Kd.R_reads' HO_11.out).2.1); rintro e w43 ⟨v454, rfl, ho0, hb⟩; refine ⟨_, rfl, ?_⟩; have HO455 := Aside0.mk (Kd.R_lower (Kd.R_new' (Kd.R_new' (Kd.R_new' ho0 (Kd.R_lt (by (with_reducible repeat (first | apply Kd.R_alloc | apply Kd.R_drewN | apply Kd.R_drew)); exact HO_11.out))) (Kd.R_lt (by (with_reducible repeat (first | apply Kd.R_alloc | apply Kd.R_drewN | apply Kd.R_drew)); exact HO448.out))) (Kd.R_lt (by (with_reducible repeat (first | apply Kd.R_alloc | apply Kd.R_drewN | apply Kd.R_drew)); exact HO452.out))) (below_size zaB)); replace HO_11 := Aside0.mk (Kd.R_elder' (by (with_reducible repeat (first | apply Kd.R_alloc | apply Kd.R_drewN | apply Kd.R_drew)); exact HO_11.out) (Kd.R_base ho0) hb); replace HO448 := Aside0.mk (Kd.R_elder' (by (with_reducible repeat (first | apply Kd.R_alloc | apply Kd.R_drewN | apply Kd.R_drew)); exact HO448.out) (Kd.R_base ho0) hb); replace HO452 := Aside0.mk (Kd.R_elder' (by (with_reducible repeat (first | apply Kd.R_alloc | apply Kd.R_drewN | apply Kd.R_drew)); exact HO452.out) (Kd.R_base ho0) hb); replace BK431 := zkb BK431 hb; replace HB := zkB HB hb; (try clear hb); (try clear ho0); obtain ⟨Ao44, co44, eo44⟩ := Kd.R_slice HO455.out; subst eo44) | ((with_reducible refine gate_callee (f := 90) rfl ?_); refine goesL_ (some 62) rfl rfl Try.func90 (by kernel_rfl) rfl #[.slice Ao44 t453.length co44, .int .i64 1] rfl (by (try simp only [List.map_toArray, List.map_cons, List.map_nil]); first | done | rfl | (simp only [List.length_drop, List.length_take]; rfl)) ?_; (with_reducible refine (flyballref01_Shl.calls kj6 _ _ t453 1 t456 _ ?side1 ?side2 A35.out).mono ?_); (case side1 => repeat (first | exact (Kd.R_reads' HO455.out).2.2 | (with_reducible refine Kd.C_alloc ?_ _) | (with_reducible refine Kd.C_drewN ?_ _) | (with_reducible refine Kd.C_drew ?_))); (case side2 => exact (Kd.R_reads' HO455.out).2.1); rintro e w45 ⟨v457, rfl, ho0, hb⟩; refine ⟨_, rfl, ?_⟩; have HO458 := Aside0.mk (Kd.R_lower (Kd.R_new' (Kd.R_new' (Kd.R_new' (Kd.R_new' ho0 (Kd.R_lt (by (with_reducible repeat (first | apply Kd.R_alloc | apply Kd.R_drewN | apply Kd.R_drew)); exact HO_11.out))) (Kd.R_lt (by (with_reducible repeat (first | apply Kd.R_alloc | apply Kd.R_drewN | apply Kd.R_drew)); exact HO448.out))) (Kd.R_lt (by (with_reducible repeat (first | apply Kd.R_alloc | apply Kd.R_drewN | apply Kd.R_drew)); exact HO452.out))) (Kd.R_lt (by (with_reducible repeat (first | apply Kd.R_alloc | apply Kd.R_drewN | apply Kd.R_drew)); exact HO455.out))) (below_size zaB)); replace HO_11 := Aside0.mk (Kd.R_elder' (by (with_reducible repeat (first | apply Kd.R_alloc | apply Kd.R_drewN | apply Kd.R_drew)); exact HO_11.out) (Kd.R_base ho0) hb); replace HO448 := Aside0.mk (Kd.R_elder' (by (with_reducible repeat (first | apply Kd.R_alloc | apply Kd.R_drewN | apply Kd.R_drew)); exact HO448.out) (Kd.R_base ho0) hb); replace HO452 := Aside0.mk (Kd.R_elder' (by (with_reducible repeat (first | apply Kd.R_alloc | apply Kd.R_drewN | apply Kd.R_drew)); exact HO452.out) (Kd.R_base ho0) hb); replace HO455 := Aside0.mk (Kd.R_elder' (by (with_reducible repeat (first | apply Kd.R_alloc | apply Kd.R_drewN | apply Kd.R_drew)); exact HO455.out) (Kd.R_base ho0) hb); replace BK431 := zkb BK431 hb; replace HB := zkB HB hb; (try clear hb); (try clear ho0); obtain ⟨Ao46, co46, eo46⟩ := Kd.R_slice HO458.out; subst eo46) | ((with_reducible refine gate_callee (f := 92) rfl ?_); refine goesL_ (some 64) rfl rfl Try.func92 (by kernel_rfl) rfl #[.slice Ao46 t456.length co46, .slice Ao42 t441.length co42] rfl (by (try simp only [List.map_toArray, List.map_cons, List.map_nil]); first | done | rfl | (simp only [List.length_drop, List.length_take]; rfl)) ?_; (with_reducible refine (flyballref01_Add.calls kj6 _ _ t456 _ _ t441 t459 _ ?side1 ?side2 ?side3 ?side4 A36.out).mono ?_); (case side1 => repeat (first | exact (Kd.R_reads' HO458.out).2.2 | (with_reducible refine Kd.C_alloc ?_ _) | (with_reducible refine Kd.C_drewN ?_ _) | (with_reducible refine Kd.C_drew ?_))); (case side2 => exact (Kd.R_reads' HO458.out).2.1); (case side3 => repeat (first | exact (Kd.R_reads' HO_11.out).2.2 | (with_reducible refine Kd.C_alloc ?_ _) | (with_reducible refine Kd.C_drewN ?_ _) | (with_reducible refine Kd.C_drew ?_))); (case side4 => exact (Kd.R_reads' HO_11.out).2.1); rintro e w47 ⟨v460, rfl, ho0, hb⟩; refine ⟨_, rfl, ?_⟩; have HO461 := Aside0.mk (Kd.R_lower (Kd.R_new' (Kd.R_new' (Kd.R_new' (Kd.R_new' (Kd.R_new' ho0 (Kd.R_lt (by (with_reducible repeat (first | apply Kd.R_alloc | apply Kd.R_drewN | apply Kd.R_drew)); exact HO_11.out))) (Kd.R_lt (by (with_reducible repeat (first | apply Kd.R_alloc | apply Kd.R_drewN | apply Kd.R_drew)); exact HO448.out))) (Kd.R_lt (by (with_reducible repeat (first | apply Kd.R_alloc | apply Kd.R_drewN | apply Kd.R_drew)); exact HO452.out))) (Kd.R_lt (by (with_reducible repeat (first | apply Kd.R_alloc | apply Kd.R_drewN | apply Kd.R_drew)); exact HO455.out))) (Kd.R_lt (by (with_reducible repeat (first | apply Kd.R_alloc | apply Kd.R_drewN | apply Kd.R_drew)); exact HO458.out))) (below_size zaB)); replace HO_11 := Aside0.mk (Kd.R_elder' (by (with_reducible repeat (first | apply Kd.R_alloc | apply Kd.R_drewN | apply Kd.R_drew)); exact HO_11.out) (Kd.R_base ho0) hb); replace HO448 := Aside0.mk (Kd.R_elder' (by (with_reducible repeat (first | apply Kd.R_alloc | apply Kd.R_drewN | apply Kd.R_drew)); exact HO448.out) (Kd.R_base ho0) hb); replace HO452 := Aside0.mk (Kd.R_elder' (by (with_reducible repeat (first | apply Kd.R_alloc | apply Kd.R_drewN | apply Kd.R_drew)); exact HO452.out) (Kd.R_base ho0) hb); replace HO455 := Aside0.mk (Kd.R_elder' (by (with_reducible repeat (first | apply Kd.R_alloc | apply Kd.R_drewN | apply Kd.R_drew)); exact HO455.out) (Kd.R_base ho0) hb); replace HO458 := Aside0.mk (Kd.R_elder' (by (with_reducible repeat (first | apply Kd.R_alloc | apply Kd.R_drewN | apply Kd.R_drew)); exact HO458.out) (Kd.R_base ho0) hb); replace BK431 := zkb BK431 hb; replace HB := zkB HB hb; (try clear hb); (try clear ho0); have hcz48_0 := zc0 BK431; have hcz48_1 := zc1 BK431; have hcz48_2 := zc2 BK431; have hcz48_3 := zc3 BK431; have hfz48_0 := blk_frozen BK431.out 0; have hfz48_1 := blk_frozen BK431.out 1; have hfz48_2 := blk_frozen BK431.out 2; have hfz48_3 := blk_frozen BK431.out 3; obtain ⟨Ao49, co49, eo49⟩ := Kd.R_slice HO461.out; subst eo49) | ((with_reducible refine gate_callee (f := 189) rfl ?_); refine goesL_ (some 69) rfl rfl Try.func189 (by kernel_rfl) rfl #[.agg #[.slice A0_0 l0_0.length c0_0, .slice A0_1 l0_1.length c0_1, .int .i64 a0_2, .bool a0_3], .slice Ao49 t459.length co49, .int .i64 (wrap64 (t450 - 1))] rfl (by (try simp only [List.map_toArray, List.map_cons, List.map_nil]); first | done | rfl | (simp only [List.length_drop, List.length_take]; rfl)) ?_; (with_reducible refine (flyballref05_cmp.calls kj6 _ _ l0_0 _ _ l0_1 a0_2 a0_3 _ _ t459 (wrap64 (t450 - 1)) t462 _ ?side1 ?side2 ?side3 ?side4 ?side5 ?side6 A37.out).mono ?_); (case side1 => repeat (first | exact (Kd.C_below HR0_0.out HB.out) | (with_reducible refine Kd.C_alloc ?_ _) | (with_reducible refine Kd.C_drewN ?_ _) | (with_reducible refine Kd.C_drew ?_))); (case side2 => exact HC0_0.out); (case side3 => repeat (first | exact (Kd.C_below HR0_1.out HB.out) | (with_reducible refine Kd.C_alloc ?_ _) | (with_reducible refine Kd.C_drewN ?_ _) | (with_reducible refine Kd.C_drew ?_))); (case side4 => exact HC0_1.out); (case side5 => repeat (first | exact (Kd.R_reads' HO461.out).2.2 | (with_reducible refine Kd.C_alloc ?_ _) | (with_reducible refine Kd.C_drewN ?_ _) | (with_reducible refine Kd.C_drew ?_))); (case side6 => exact (Kd.R_reads' HO461.out).2.1); rintro e w50 ⟨rfl, hb⟩; refine ⟨_, rfl, ?_⟩; replace HO_11 := Aside0.mk (Kd.R_below (by (with_reducible repeat (first | apply Kd.R_alloc | apply Kd.R_drewN | apply Kd.R_drew)); exact HO_11.out) hb); replace HO448 := Aside0.mk (Kd.R_below (by (with_reducible repeat (first | apply Kd.R_alloc | apply Kd.R_drewN | apply Kd.R_drew)); exact HO448.out) hb); replace HO452 := Aside0.mk (Kd.R_below (by (with_reducible repeat (first | apply Kd.R_alloc | apply Kd.R_drewN | apply Kd.R_drew)); exact HO452.out) hb); replace HO455 := Aside0.mk (Kd.R_below (by (with_reducible repeat (first | apply Kd.R_alloc | apply Kd.R_drewN | apply Kd.R_drew)); exact HO455.out) hb); replace HO458 := Aside0.mk (Kd.R_below (by (with_reducible repeat (first | apply Kd.R_alloc | apply Kd.R_drewN | apply Kd.R_drew)); exact HO458.out) hb); replace HO461 := Aside0.mk (Kd.R_below (by (with_reducible repeat (first | apply Kd.R_alloc | apply Kd.R_drewN | apply Kd.R_drew)); exact HO461.out) hb); replace BK431 := zkb BK431 hb; replace HB := zkB HB hb; (try clear hb)))
        go_meet
        case rel => exact ⟨_, (true), (by first | rfl | (simp; done) | (simp [*]; done)), H', ⟨by have := HJ6.out; first | omega | exact Nat.le_refl _⟩, ⟨(zkq BK431)⟩, ⟨zaB⟩⟩
       ·rw [if_neg c38] at H
        have c38b0 : decide (0 < t462) = false := decide_eq_false c38
        clear c38
        by_cases c51 : t462 = 0
        ·rw [if_pos c51] at H
         have c51b0 : (t462 == 0) = true := beq_iff_eq.mpr c51
         have c51b1 : (t462 != 0) = false := bne_eq_false_iff_eq.mpr c51
         clear c51
         have H' := Aside0.mk H
         clear H
         go_wp2_with (first | ((with_reducible refine gate_callee (f := 188) rfl ?_); refine goesL_ (some 49) rfl rfl Try.func188 (by kernel_rfl) rfl #[.int .i64 t432] rfl (by (try simp only [List.map_toArray, List.map_cons, List.map_nil]); first | done | rfl | (simp only [List.length_drop, List.length_take]; rfl)) ?_; (with_reducible refine (flyballref05_split.calls kj6 t432 t445 t446 _ A31.out).mono ?_); rintro e w52 ⟨v447, rfl, ho0, hb⟩; refine ⟨_, rfl, ?_⟩; have HO448 := Aside0.mk (Kd.R_lower (Kd.R_new' ho0 (Kd.R_lt (by (with_reducible repeat (first | apply Kd.R_alloc | apply Kd.R_drewN | apply Kd.R_drew)); exact HO_11.out))) (below_size zaB)); replace HO_11 := Aside0.mk (Kd.R_elder' (by (with_reducible repeat (first | apply Kd.R_alloc | apply Kd.R_drewN | apply Kd.R_drew)); exact HO_11.out) (Kd.R_base ho0) hb); replace BK431 := zkb BK431 hb; replace HB := zkB HB hb; (try clear hb); (try clear ho0)) | ((with_reducible refine gate_callee (f := 188) rfl ?_); refine goesL_ (some 55) rfl rfl Try.func188 (by kernel_rfl) rfl #[.int .i64 9218868437227405311] rfl (by (try simp only [List.map_toArray, List.map_cons, List.map_nil]); first | done | rfl | (simp only [List.length_drop, List.length_take]; rfl)) ?_; (with_reducible refine (flyballref05_split.calls kj6 9218868437227405311 t449 t450 _ A33.out).mono ?_); rintro e w53 ⟨v451, rfl, ho0, hb⟩; refine ⟨_, rfl, ?_⟩; have HO452 := Aside0.mk (Kd.R_lower (Kd.R_new' (Kd.R_new' ho0 (Kd.R_lt (by (with_reducible repeat (first | apply Kd.R_alloc | apply Kd.R_drewN | apply Kd.R_drew)); exact HO_11.out))) (Kd.R_lt (by (with_reducible repeat (first | apply Kd.R_alloc | apply Kd.R_drewN | apply Kd.R_drew)); exact HO448.out))) (below_size zaB)); replace HO_11 := Aside0.mk (Kd.R_elder' (by (with_reducible repeat (first | apply Kd.R_alloc | apply Kd.R_drewN | apply Kd.R_drew)); exact HO_11.out) (Kd.R_base ho0) hb); replace HO448 := Aside0.mk (Kd.R_elder' (by (with_reducible repeat (first | apply Kd.R_alloc | apply Kd.R_drewN | apply Kd.R_drew)); exact HO448.out) (Kd.R_base ho0) hb); replace BK431 := zkb BK431 hb; replace HB := zkB HB hb; (try clear hb); (try clear ho0); obtain ⟨Ao54, co54, eo54⟩ := Kd.R_slice HO452.out; subst eo54; obtain ⟨Ao55, co55, eo55⟩ := Kd.R_slice HO_11.out; subst eo55) | ((with_reducible refine gate_callee (f := 92) rfl ?_); refine goesL_ (some 60) rfl rfl Try.func92 (by kernel_rfl) rfl #[.slice Ao54 t449.length co54, .slice Ao55 t441.length co55] rfl (by (try simp only [List.map_toArray, List.map_cons, List.map_nil]); first | done | rfl | (simp only [List.length_drop, List.length_take]; rfl)) ?_; (with_reducible refine (flyballref01_Add.calls kj6 _ _ t449 _ _ t441 t453 _ ?side1 ?side2 ?side3 ?side4 A34.out).mono ?_); (case side1 => repeat (first | exact (Kd.R_reads' HO452.out).2.2 | (with_reducible refine Kd.C_alloc ?_ _) | (with_reducible refine Kd.C_drewN ?_ _) | (with_reducible refine Kd.C_drew ?_))); (case side2 => exact (Kd.R_reads' HO452.out).2.1); (case side3 => repeat (first | exact (Kd.R_reads' HO_11.out).2.2 | (with_reducible refine Kd.C_alloc ?_ _) | (with_reducible refine Kd.C_drewN ?_ _) | (with_reducible refine Kd.C_drew ?_))); (case side4 => exact (Kd.R_reads' HO_11.out).2.1); rintro e w56 ⟨v454, rfl, ho0, hb⟩; refine ⟨_, rfl, ?_⟩; have HO455 := Aside0.mk (Kd.R_lower (Kd.R_new' (Kd.R_new' (Kd.R_new' ho0 (Kd.R_lt (by (with_reducible repeat (first | apply Kd.R_alloc | apply Kd.R_drewN | apply Kd.R_drew)); exact HO_11.out))) (Kd.R_lt (by (with_reducible repeat (first | apply Kd.R_alloc | apply Kd.R_drewN | apply Kd.R_drew)); exact HO448.out))) (Kd.R_lt (by (with_reducible repeat (first | apply Kd.R_alloc | apply Kd.R_drewN | apply Kd.R_drew)); exact HO452.out))) (below_size zaB)); replace HO_11 := Aside0.mk (Kd.R_elder' (by (with_reducible repeat (first | apply Kd.R_alloc | apply Kd.R_drewN | apply Kd.R_drew)); exact HO_11.out) (Kd.R_base ho0) hb); replace HO448 := Aside0.mk (Kd.R_elder' (by (with_reducible repeat (first | apply Kd.R_alloc | apply Kd.R_drewN | apply Kd.R_drew)); exact HO448.out) (Kd.R_base ho0) hb); replace HO452 := Aside0.mk (Kd.R_elder' (by (with_reducible repeat (first | apply Kd.R_alloc | apply Kd.R_drewN | apply Kd.R_drew)); exact HO452.out) (Kd.R_base ho0) hb); replace BK431 := zkb BK431 hb; replace HB := zkB HB hb; (try clear hb); (try clear ho0); obtain ⟨Ao57, co57, eo57⟩ := Kd.R_slice HO455.out; subst eo57) | ((with_reducible refine gate_callee (f := 90) rfl ?_); refine goesL_ (some 62) rfl rfl Try.func90 (by kernel_rfl) rfl #[.slice Ao57 t453.length co57, .int .i64 1] rfl (by (try simp only [List.map_toArray, List.map_cons, List.map_nil]); first | done | rfl | (simp only [List.length_drop, List.length_take]; rfl)) ?_; (with_reducible refine (flyballref01_Shl.calls kj6 _ _ t453 1 t456 _ ?side1 ?side2 A35.out).mono ?_); (case side1 => repeat (first | exact (Kd.R_reads' HO455.out).2.2 | (with_reducible refine Kd.C_alloc ?_ _) | (with_reducible refine Kd.C_drewN ?_ _) | (with_reducible refine Kd.C_drew ?_))); (case side2 => exact (Kd.R_reads' HO455.out).2.1); rintro e w58 ⟨v457, rfl, ho0, hb⟩; refine ⟨_, rfl, ?_⟩; have HO458 := Aside0.mk (Kd.R_lower (Kd.R_new' (Kd.R_new' (Kd.R_new' (Kd.R_new' ho0 (Kd.R_lt (by (with_reducible repeat (first | apply Kd.R_alloc | apply Kd.R_drewN | apply Kd.R_drew)); exact HO_11.out))) (Kd.R_lt (by (with_reducible repeat (first | apply Kd.R_alloc | apply Kd.R_drewN | apply Kd.R_drew)); exact HO448.out))) (Kd.R_lt (by (with_reducible repeat (first | apply Kd.R_alloc | apply Kd.R_drewN | apply Kd.R_drew)); exact HO452.out))) (Kd.R_lt (by (with_reducible repeat (first | apply Kd.R_alloc | apply Kd.R_drewN | apply Kd.R_drew)); exact HO455.out))) (below_size zaB)); replace HO_11 := Aside0.mk (Kd.R_elder' (by (with_reducible repeat (first | apply Kd.R_alloc | apply Kd.R_drewN | apply Kd.R_drew)); exact HO_11.out) (Kd.R_base ho0) hb); replace HO448 := Aside0.mk (Kd.R_elder' (by (with_reducible repeat (first | apply Kd.R_alloc | apply Kd.R_drewN | apply Kd.R_drew)); exact HO448.out) (Kd.R_base ho0) hb); replace HO452 := Aside0.mk (Kd.R_elder' (by (with_reducible repeat (first | apply Kd.R_alloc | apply Kd.R_drewN | apply Kd.R_drew)); exact HO452.out) (Kd.R_base ho0) hb); replace HO455 := Aside0.mk (Kd.R_elder' (by (with_reducible repeat (first | apply Kd.R_alloc | apply Kd.R_drewN | apply Kd.R_drew)); exact HO455.out) (Kd.R_base ho0) hb); replace BK431 := zkb BK431 hb; replace HB := zkB HB hb; (try clear hb); (try clear ho0); obtain ⟨Ao59, co59, eo59⟩ := Kd.R_slice HO458.out; subst eo59) | ((with_reducible refine gate_callee (f := 92) rfl ?_); refine goesL_ (some 64) rfl rfl Try.func92 (by kernel_rfl) rfl #[.slice Ao59 t456.length co59, .slice Ao55 t441.length co55] rfl (by (try simp only [List.map_toArray, List.map_cons, List.map_nil]); first | done | rfl | (simp only [List.length_drop, List.length_take]; rfl)) ?_; (with_reducible refine (flyballref01_Add.calls kj6 _ _ t456 _ _ t441 t459 _ ?side1 ?side2 ?side3 ?side4 A36.out).mono ?_); (case side1 => repeat (first | exact (Kd.R_reads' HO458.out).2.2 | (with_reducible refine Kd.C_alloc ?_ _) | (with_reducible refine Kd.C_drewN ?_ _) | (with_reducible refine Kd.C_drew ?_))); (case side2 => exact (Kd.R_reads' HO458.out).2.1); (case side3 => repeat (first | exact (Kd.R_reads' HO_11.out).2.2 | (with_reducible refine Kd.C_alloc ?_ _) | (with_reducible refine Kd.C_drewN ?_ _) | (with_reducible refine Kd.C_drew ?_))); (case side4 => exact (Kd.R_reads' HO_11.out).2.1); rintro e w60 ⟨v460, rfl, ho0, hb⟩; refine ⟨_, rfl, ?_⟩; have HO461 := Aside0.mk (Kd.R_lower (Kd.R_new' (Kd.R_new' (Kd.R_new' (Kd.R_new' (Kd.R_new' ho0 (Kd.R_lt (by (with_reducible repeat (first | apply Kd.R_alloc | apply Kd.R_drewN | apply Kd.R_drew)); exact HO_11.out))) (Kd.R_lt (by (with_reducible repeat (first | apply Kd.R_alloc | apply Kd.R_drewN | apply Kd.R_drew)); exact HO448.out))) (Kd.R_lt (by (with_reducible repeat (first | apply Kd.R_alloc | apply Kd.R_drewN | apply Kd.R_drew)); exact HO452.out))) (Kd.R_lt (by (with_reducible repeat (first | apply Kd.R_alloc | apply Kd.R_drewN | apply Kd.R_drew)); exact HO455.out))) (Kd.R_lt (by (with_reducible repeat (first | apply Kd.R_alloc | apply Kd.R_drewN | apply Kd.R_drew)); exact HO458.out))) (below_size zaB)); replace HO_11 := Aside0.mk (Kd.R_elder' (by (with_reducible repeat (first | apply Kd.R_alloc | apply Kd.R_drewN | apply Kd.R_drew)); exact HO_11.out) (Kd.R_base ho0) hb); replace HO448 := Aside0.mk (Kd.R_elder' (by (with_reducible repeat (first | apply Kd.R_alloc | apply Kd.R_drewN | apply Kd.R_drew)); exact HO448.out) (Kd.R_base ho0) hb); replace HO452 := Aside0.mk (Kd.R_elder' (by (with_reducible repeat (first | apply Kd.R_alloc | apply Kd.R_drewN | apply Kd.R_drew)); exact HO452.out) (Kd.R_base ho0) hb); replace HO455 := Aside0.mk (Kd.R_elder' (by (with_reducible repeat (first | apply Kd.R_alloc | apply Kd.R_drewN | apply Kd.R_drew)); exact HO455.out) (Kd.R_base ho0) hb); replace HO458 := Aside0.mk (Kd.R_elder' (by (with_reducible repeat (first | apply Kd.R_alloc | apply Kd.R_drewN | apply Kd.R_drew)); exact HO458.out) (Kd.R_base ho0) hb); replace BK431 := zkb BK431 hb; replace HB := zkB HB hb; (try clear hb); (try clear ho0); have hcz61_0 := zc0 BK431; have hcz61_1 := zc1 BK431; have hcz61_2 := zc2 BK431; have hcz61_3 := zc3 BK431; have hfz61_0 := blk_frozen BK431.out 0; have hfz61_1 := blk_frozen BK431.out 1; have hfz61_2 := blk_frozen BK431.out 2; have hfz61_3 := blk_frozen BK431.out 3; obtain ⟨Ao62, co62, eo62⟩ := Kd.R_slice HO461.out; subst eo62) | ((with_reducible refine gate_callee (f := 189) rfl ?_); refine goesL_ (some 69) rfl rfl Try.func189 (by kernel_rfl) rfl #[.agg #[.slice A0_0 l0_0.length c0_0, .slice A0_1 l0_1.length c0_1, .int .i64 a0_2, .bool a0_3], .slice Ao62 t459.length co62, .int .i64 (wrap64 (t450 - 1))] rfl (by (try simp only [List.map_toArray, List.map_cons, List.map_nil]); first | done | rfl | (simp only [List.length_drop, List.length_take]; rfl)) ?_; (with_reducible refine (flyballref05_cmp.calls kj6 _ _ l0_0 _ _ l0_1 a0_2 a0_3 _ _ t459 (wrap64 (t450 - 1)) t462 _ ?side1 ?side2 ?side3 ?side4 ?side5 ?side6 A37.out).mono ?_); (case side1 => repeat (first | exact (Kd.C_below HR0_0.out HB.out) | (with_reducible refine Kd.C_alloc ?_ _) | (with_reducible refine Kd.C_drewN ?_ _) | (with_reducible refine Kd.C_drew ?_))); (case side2 => exact HC0_0.out); (case side3 => repeat (first | exact (Kd.C_below HR0_1.out HB.out) | (with_reducible refine Kd.C_alloc ?_ _) | (with_reducible refine Kd.C_drewN ?_ _) | (with_reducible refine Kd.C_drew ?_))); (case side4 => exact HC0_1.out); (case side5 => repeat (first | exact (Kd.R_reads' HO461.out).2.2 | (with_reducible refine Kd.C_alloc ?_ _) | (with_reducible refine Kd.C_drewN ?_ _) | (with_reducible refine Kd.C_drew ?_))); (case side6 => exact (Kd.R_reads' HO461.out).2.1); rintro e w63 ⟨rfl, hb⟩; refine ⟨_, rfl, ?_⟩; replace HO_11 := Aside0.mk (Kd.R_below (by (with_reducible repeat (first | apply Kd.R_alloc | apply Kd.R_drewN | apply Kd.R_drew)); exact HO_11.out) hb); replace HO448 := Aside0.mk (Kd.R_below (by (with_reducible repeat (first | apply Kd.R_alloc | apply Kd.R_drewN | apply Kd.R_drew)); exact HO448.out) hb); replace HO452 := Aside0.mk (Kd.R_below (by (with_reducible repeat (first | apply Kd.R_alloc | apply Kd.R_drewN | apply Kd.R_drew)); exact HO452.out) hb); replace HO455 := Aside0.mk (Kd.R_below (by (with_reducible repeat (first | apply Kd.R_alloc | apply Kd.R_drewN | apply Kd.R_drew)); exact HO455.out) hb); replace HO458 := Aside0.mk (Kd.R_below (by (with_reducible repeat (first | apply Kd.R_alloc | apply Kd.R_drewN | apply Kd.R_drew)); exact HO458.out) hb); replace HO461 := Aside0.mk (Kd.R_below (by (with_reducible repeat (first | apply Kd.R_alloc | apply Kd.R_drewN | apply Kd.R_drew)); exact HO461.out) hb); replace BK431 := zkb BK431 hb; replace HB := zkB HB hb; (try clear hb)))
         go_meet
         case rel => exact ⟨_, (((Int.tmod t432 2) == 1)), (by first | rfl | (simp; done) | (simp [*]; done)), H', ⟨by have := HJ6.out; first | omega | exact Nat.le_refl _⟩, ⟨(zkq BK431)⟩, ⟨zaB⟩⟩
        ·rw [if_neg c51] at H
         have c51b0 : (t462 == 0) = false := beq_eq_false_iff_ne.mpr c51
         have c51b1 : (t462 != 0) = true := bne_iff_ne.mpr c51
         have H' := Aside0.mk H
         clear H
         go_wp2_with (first | ((with_reducible refine gate_callee (f := 188) rfl ?_); refine goesL_ (some 49) rfl rfl Try.func188 (by kernel_rfl) rfl #[.int .i64 t432] rfl (by (try simp only [List.map_toArray, List.map_cons, List.map_nil]); first | done | rfl | (simp only [List.length_drop, List.length_take]; rfl)) ?_; (with_reducible refine (flyballref05_split.calls kj6 t432 t445 t446 _ A31.out).mono ?_); rintro e w64 ⟨v447, rfl, ho0, hb⟩; refine ⟨_, rfl, ?_⟩; have HO448 := Aside0.mk (Kd.R_lower (Kd.R_new' ho0 (Kd.R_lt (by (with_reducible repeat (first | apply Kd.R_alloc | apply Kd.R_drewN | apply Kd.R_drew)); exact HO_11.out))) (below_size zaB)); replace HO_11 := Aside0.mk (Kd.R_elder' (by (with_reducible repeat (first | apply Kd.R_alloc | apply Kd.R_drewN | apply Kd.R_drew)); exact HO_11.out) (Kd.R_base ho0) hb); replace BK431 := zkb BK431 hb; replace HB := zkB HB hb; (try clear hb); (try clear ho0)) | ((with_reducible refine gate_callee (f := 188) rfl ?_); refine goesL_ (some 55) rfl rfl Try.func188 (by kernel_rfl) rfl #[.int .i64 9218868437227405311] rfl (by (try simp only [List.map_toArray, List.map_cons, List.map_nil]); first | done | rfl | (simp only [List.length_drop, List.length_take]; rfl)) ?_; (with_reducible refine (flyballref05_split.calls kj6 9218868437227405311 t449 t450 _ A33.out).mono ?_); rintro e w65 ⟨v451, rfl, ho0, hb⟩; refine ⟨_, rfl, ?_⟩; have HO452 := Aside0.mk (Kd.R_lower (Kd.R_new' (Kd.R_new' ho0 (Kd.R_lt (by (with_reducible repeat (first | apply Kd.R_alloc | apply Kd.R_drewN | apply Kd.R_drew)); exact HO_11.out))) (Kd.R_lt (by (with_reducible repeat (first | apply Kd.R_alloc | apply Kd.R_drewN | apply Kd.R_drew)); exact HO448.out))) (below_size zaB)); replace HO_11 := Aside0.mk (Kd.R_elder' (by (with_reducible repeat (first | apply Kd.R_alloc | apply Kd.R_drewN | apply Kd.R_drew)); exact HO_11.out) (Kd.R_base ho0) hb); replace HO448 := Aside0.mk (Kd.R_elder' (by (with_reducible repeat (first | apply Kd.R_alloc | apply Kd.R_drewN | apply Kd.R_drew)); exact HO448.out) (Kd.R_base ho0) hb); replace BK431 := zkb BK431 hb; replace HB := zkB HB hb; (try clear hb); (try clear ho0); obtain ⟨Ao66, co66, eo66⟩ := Kd.R_slice HO452.out; subst eo66; obtain ⟨Ao67, co67, eo67⟩ := Kd.R_slice HO_11.out; subst eo67) | ((with_reducible refine gate_callee (f := 92) rfl ?_); refine goesL_ (some 60) rfl rfl Try.func92 (by kernel_rfl) rfl #[.slice Ao66 t449.length co66, .slice Ao67 t441.length co67] rfl (by (try simp only [List.map_toArray, List.map_cons, List.map_nil]); first | done | rfl | (simp only [List.length_drop, List.length_take]; rfl)) ?_; (with_reducible refine (flyballref01_Add.calls kj6 _ _ t449 _ _ t441 t453 _ ?side1 ?side2 ?side3 ?side4 A34.out).mono ?_); (case side1 => repeat (first | exact (Kd.R_reads' HO452.out).2.2 | (with_reducible refine Kd.C_alloc ?_ _) | (with_reducible refine Kd.C_drewN ?_ _) | (with_reducible refine Kd.C_drew ?_))); (case side2 => exact (Kd.R_reads' HO452.out).2.1); (case side3 => repeat (first | exact (Kd.R_reads' HO_11.out).2.2 | (with_reducible refine Kd.C_alloc ?_ _) | (with_reducible refine Kd.C_drewN ?_ _) | (with_reducible refine Kd.C_drew ?_))); (case side4 => exact (Kd.R_reads' HO_11.out).2.1); rintro e w68 ⟨v454, rfl, ho0, hb⟩; refine ⟨_, rfl, ?_⟩; have HO455 := Aside0.mk (Kd.R_lower (Kd.R_new' (Kd.R_new' (Kd.R_new' ho0 (Kd.R_lt (by (with_reducible repeat (first | apply Kd.R_alloc | apply Kd.R_drewN | apply Kd.R_drew)); exact HO_11.out))) (Kd.R_lt (by (with_reducible repeat (first | apply Kd.R_alloc | apply Kd.R_drewN | apply Kd.R_drew)); exact HO448.out))) (Kd.R_lt (by (with_reducible repeat (first | apply Kd.R_alloc | apply Kd.R_drewN | apply Kd.R_drew)); exact HO452.out))) (below_size zaB)); replace HO_11 := Aside0.mk (Kd.R_elder' (by (with_reducible repeat (first | apply Kd.R_alloc | apply Kd.R_drewN | apply Kd.R_drew)); exact HO_11.out) (Kd.R_base ho0) hb); replace HO448 := Aside0.mk (Kd.R_elder' (by (with_reducible repeat (first | apply Kd.R_alloc | apply Kd.R_drewN | apply Kd.R_drew)); exact HO448.out) (Kd.R_base ho0) hb); replace HO452 := Aside0.mk (Kd.R_elder' (by (with_reducible repeat (first | apply Kd.R_alloc | apply Kd.R_drewN | apply Kd.R_drew)); exact HO452.out) (Kd.R_base ho0) hb); replace BK431 := zkb BK431 hb; replace HB := zkB HB hb; (try clear hb); (try clear ho0); obtain ⟨Ao69, co69, eo69⟩ := Kd.R_slice HO455.out; subst eo69) | ((with_reducible refine gate_callee (f := 90) rfl ?_); refine goesL_ (some 62) rfl rfl Try.func90 (by kernel_rfl) rfl #[.slice Ao69 t453.length co69, .int .i64 1] rfl (by (try simp only [List.map_toArray, List.map_cons, List.map_nil]); first | done | rfl | (simp only [List.length_drop, List.length_take]; rfl)) ?_; (with_reducible refine (flyballref01_Shl.calls kj6 _ _ t453 1 t456 _ ?side1 ?side2 A35.out).mono ?_); (case side1 => repeat (first | exact (Kd.R_reads' HO455.out).2.2 | (with_reducible refine Kd.C_alloc ?_ _) | (with_reducible refine Kd.C_drewN ?_ _) | (with_reducible refine Kd.C_drew ?_))); (case side2 => exact (Kd.R_reads' HO455.out).2.1); rintro e w70 ⟨v457, rfl, ho0, hb⟩; refine ⟨_, rfl, ?_⟩; have HO458 := Aside0.mk (Kd.R_lower (Kd.R_new' (Kd.R_new' (Kd.R_new' (Kd.R_new' ho0 (Kd.R_lt (by (with_reducible repeat (first | apply Kd.R_alloc | apply Kd.R_drewN | apply Kd.R_drew)); exact HO_11.out))) (Kd.R_lt (by (with_reducible repeat (first | apply Kd.R_alloc | apply Kd.R_drewN | apply Kd.R_drew)); exact HO448.out))) (Kd.R_lt (by (with_reducible repeat (first | apply Kd.R_alloc | apply Kd.R_drewN | apply Kd.R_drew)); exact HO452.out))) (Kd.R_lt (by (with_reducible repeat (first | apply Kd.R_alloc | apply Kd.R_drewN | apply Kd.R_drew)); exact HO455.out))) (below_size zaB)); replace HO_11 := Aside0.mk (Kd.R_elder' (by (with_reducible repeat (first | apply Kd.R_alloc | apply Kd.R_drewN | apply Kd.R_drew)); exact HO_11.out) (Kd.R_base ho0) hb); replace HO448 := Aside0.mk (Kd.R_elder' (by (with_reducible repeat (first | apply Kd.R_alloc | apply Kd.R_drewN | apply Kd.R_drew)); exact HO448.out) (Kd.R_base ho0) hb); replace HO452 := Aside0.mk (Kd.R_elder' (by (with_reducible repeat (first | apply Kd.R_alloc | apply Kd.R_drewN | apply Kd.R_drew)); exact HO452.out) (Kd.R_base ho0) hb); replace HO455 := Aside0.mk (Kd.R_elder' (by (with_reducible repeat (first | apply Kd.R_alloc | apply Kd.R_drewN | apply Kd.R_drew)); exact HO455.out) (Kd.R_base ho0) hb); replace BK431 := zkb BK431 hb; replace HB := zkB HB hb; (try clear hb); (try clear ho0); obtain ⟨Ao71, co71, eo71⟩ := Kd.R_slice HO458.out; subst eo71) | ((with_reducible refine gate_callee (f := 92) rfl ?_); refine goesL_ (some 64) rfl rfl Try.func92 (by kernel_rfl) rfl #[.slice Ao71 t456.length co71, .slice Ao67 t441.length co67] rfl (by (try simp only [List.map_toArray, List.map_cons, List.map_nil]); first | done | rfl | (simp only [List.length_drop, List.length_take]; rfl)) ?_; (with_reducible refine (flyballref01_Add.calls kj6 _ _ t456 _ _ t441 t459 _ ?side1 ?side2 ?side3 ?side4 A36.out).mono ?_); (case side1 => repeat (first | exact (Kd.R_reads' HO458.out).2.2 | (with_reducible refine Kd.C_alloc ?_ _) | (with_reducible refine Kd.C_drewN ?_ _) | (with_reducible refine Kd.C_drew ?_))); (case side2 => exact (Kd.R_reads' HO458.out).2.1); (case side3 => repeat (first | exact (Kd.R_reads' HO_11.out).2.2 | (with_reducible refine Kd.C_alloc ?_ _) | (with_reducible refine Kd.C_drewN ?_ _) | (with_reducible refine Kd.C_drew ?_))); (case side4 => exact (Kd.R_reads' HO_11.out).2.1); rintro e w72 ⟨v460, rfl, ho0, hb⟩; refine ⟨_, rfl, ?_⟩; have HO461 := Aside0.mk (Kd.R_lower (Kd.R_new' (Kd.R_new' (Kd.R_new' (Kd.R_new' (Kd.R_new' ho0 (Kd.R_lt (by (with_reducible repeat (first | apply Kd.R_alloc | apply Kd.R_drewN | apply Kd.R_drew)); exact HO_11.out))) (Kd.R_lt (by (with_reducible repeat (first | apply Kd.R_alloc | apply Kd.R_drewN | apply Kd.R_drew)); exact HO448.out))) (Kd.R_lt (by (with_reducible repeat (first | apply Kd.R_alloc | apply Kd.R_drewN | apply Kd.R_drew)); exact HO452.out))) (Kd.R_lt (by (with_reducible repeat (first | apply Kd.R_alloc | apply Kd.R_drewN | apply Kd.R_drew)); exact HO455.out))) (Kd.R_lt (by (with_reducible repeat (first | apply Kd.R_alloc | apply Kd.R_drewN | apply Kd.R_drew)); exact HO458.out))) (below_size zaB)); replace HO_11 := Aside0.mk (Kd.R_elder' (by (with_reducible repeat (first | apply Kd.R_alloc | apply Kd.R_drewN | apply Kd.R_drew)); exact HO_11.out) (Kd.R_base ho0) hb); replace HO448 := Aside0.mk (Kd.R_elder' (by (with_reducible repeat (first | apply Kd.R_alloc | apply Kd.R_drewN | apply Kd.R_drew)); exact HO448.out) (Kd.R_base ho0) hb); replace HO452 := Aside0.mk (Kd.R_elder' (by (with_reducible repeat (first | apply Kd.R_alloc | apply Kd.R_drewN | apply Kd.R_drew)); exact HO452.out) (Kd.R_base ho0) hb); replace HO455 := Aside0.mk (Kd.R_elder' (by (with_reducible repeat (first | apply Kd.R_alloc | apply Kd.R_drewN | apply Kd.R_drew)); exact HO455.out) (Kd.R_base ho0) hb); replace HO458 := Aside0.mk (Kd.R_elder' (by (with_reducible repeat (first | apply Kd.R_alloc | apply Kd.R_drewN | apply Kd.R_drew)); exact HO458.out) (Kd.R_base ho0) hb); replace BK431 := zkb BK431 hb; replace HB := zkB HB hb; (try clear hb); (try clear ho0); have hcz73_0 := zc0 BK431; have hcz73_1 := zc1 BK431; have hcz73_2 := zc2 BK431; have hcz73_3 := zc3 BK431; have hfz73_0 := blk_frozen BK431.out 0; have hfz73_1 := blk_frozen BK431.out 1; have hfz73_2 := blk_frozen BK431.out 2; have hfz73_3 := blk_frozen BK431.out 3; obtain ⟨Ao74, co74, eo74⟩ := Kd.R_slice HO461.out; subst eo74) | ((with_reducible refine gate_callee (f := 189) rfl ?_); refine goesL_ (some 69) rfl rfl Try.func189 (by kernel_rfl) rfl #[.agg #[.slice A0_0 l0_0.length c0_0, .slice A0_1 l0_1.length c0_1, .int .i64 a0_2, .bool a0_3], .slice Ao74 t459.length co74, .int .i64 (wrap64 (t450 - 1))] rfl (by (try simp only [List.map_toArray, List.map_cons, List.map_nil]); first | done | rfl | (simp only [List.length_drop, List.length_take]; rfl)) ?_; (with_reducible refine (flyballref05_cmp.calls kj6 _ _ l0_0 _ _ l0_1 a0_2 a0_3 _ _ t459 (wrap64 (t450 - 1)) t462 _ ?side1 ?side2 ?side3 ?side4 ?side5 ?side6 A37.out).mono ?_); (case side1 => repeat (first | exact (Kd.C_below HR0_0.out HB.out) | (with_reducible refine Kd.C_alloc ?_ _) | (with_reducible refine Kd.C_drewN ?_ _) | (with_reducible refine Kd.C_drew ?_))); (case side2 => exact HC0_0.out); (case side3 => repeat (first | exact (Kd.C_below HR0_1.out HB.out) | (with_reducible refine Kd.C_alloc ?_ _) | (with_reducible refine Kd.C_drewN ?_ _) | (with_reducible refine Kd.C_drew ?_))); (case side4 => exact HC0_1.out); (case side5 => repeat (first | exact (Kd.R_reads' HO461.out).2.2 | (with_reducible refine Kd.C_alloc ?_ _) | (with_reducible refine Kd.C_drewN ?_ _) | (with_reducible refine Kd.C_drew ?_))); (case side6 => exact (Kd.R_reads' HO461.out).2.1); rintro e w75 ⟨rfl, hb⟩; refine ⟨_, rfl, ?_⟩; replace HO_11 := Aside0.mk (Kd.R_below (by (with_reducible repeat (first | apply Kd.R_alloc | apply Kd.R_drewN | apply Kd.R_drew)); exact HO_11.out) hb); replace HO448 := Aside0.mk (Kd.R_below (by (with_reducible repeat (first | apply Kd.R_alloc | apply Kd.R_drewN | apply Kd.R_drew)); exact HO448.out) hb); replace HO452 := Aside0.mk (Kd.R_below (by (with_reducible repeat (first | apply Kd.R_alloc | apply Kd.R_drewN | apply Kd.R_drew)); exact HO452.out) hb); replace HO455 := Aside0.mk (Kd.R_below (by (with_reducible repeat (first | apply Kd.R_alloc | apply Kd.R_drewN | apply Kd.R_drew)); exact HO455.out) hb); replace HO458 := Aside0.mk (Kd.R_below (by (with_reducible repeat (first | apply Kd.R_alloc | apply Kd.R_drewN | apply Kd.R_drew)); exact HO458.out) hb); replace HO461 := Aside0.mk (Kd.R_below (by (with_reducible repeat (first | apply Kd.R_alloc | apply Kd.R_drewN | apply Kd.R_drew)); exact HO461.out) hb); replace BK431 := zkb BK431 hb; replace HB := zkB HB hb; (try clear hb)))
         go_meet
         case rel => exact ⟨_, (false), (by first | rfl | (simp; done) | (simp [*]; done)), H', ⟨by have := HJ6.out; first | omega | exact Nat.le_refl _⟩, ⟨(zkq BK431)⟩, ⟨zaB⟩⟩
      ·rw [if_neg c32] at H
       have c32b0 : decide (9218868437227405311 < t432) = false := decide_eq_false c32
       clear c32
       obtain ⟨t463, A76, H⟩ := zbs H
       try dsimp only at H
       obtain ⟨t466, A77, H⟩ := zbs H
       try dsimp only at H
       obtain ⟨t469, A78, H⟩ := zbs H
       try dsimp only at H
       by_cases c79 : t469 > 0
       ·rw [if_pos c79] at H
        have c79b0 : decide (0 < t469) = true := decide_eq_true c79
        clear c79
        have H' := Aside0.mk H
        clear H
        go_wp2_with (first | ((with_reducible refine gate_callee (f := 188) rfl ?_); refine goesL_ (some 49) rfl rfl Try.func188 (by kernel_rfl) rfl #[.int .i64 t432] rfl (by (try simp only [List.map_toArray, List.map_cons, List.map_nil]); first | done | rfl | (simp only [List.length_drop, List.length_take]; rfl)) ?_; (with_reducible refine (flyballref05_split.calls kj6 t432 t445 t446 _ A31.out).mono ?_); rintro e w80 ⟨v447, rfl, ho0, hb⟩; refine ⟨_, rfl, ?_⟩; have HO448 := Aside0.mk (Kd.R_lower (Kd.R_new' ho0 (Kd.R_lt (by (with_reducible repeat (first | apply Kd.R_alloc | apply Kd.R_drewN | apply Kd.R_drew)); exact HO_11.out))) (below_size zaB)); replace HO_11 := Aside0.mk (Kd.R_elder' (by (with_reducible repeat (first | apply Kd.R_alloc | apply Kd.R_drewN | apply Kd.R_drew)); exact HO_11.out) (Kd.R_base ho0) hb); replace BK431 := zkb BK431 hb; replace HB := zkB HB hb; (try clear hb); (try clear ho0); obtain ⟨Ao81, co81, eo81⟩ := Kd.R_slice HO448.out; subst eo81) | ((with_reducible refine gate_callee (f := 90) rfl ?_); refine goesL_ (some 62) rfl rfl Try.func90 (by kernel_rfl) rfl #[.slice Ao81 t445.length co81, .int .i64 1] rfl (by (try simp only [List.map_toArray, List.map_cons, List.map_nil]); first | done | rfl | (simp only [List.length_drop, List.length_take]; rfl)) ?_; (with_reducible refine (flyballref01_Shl.calls kj6 _ _ t445 1 t463 _ ?side1 ?side2 A76.out).mono ?_); (case side1 => repeat (first | exact (Kd.R_reads' HO448.out).2.2 | (with_reducible refine Kd.C_alloc ?_ _) | (with_reducible refine Kd.C_drewN ?_ _) | (with_reducible refine Kd.C_drew ?_))); (case side2 => exact (Kd.R_reads' HO448.out).2.1); rintro e w82 ⟨v464, rfl, ho0, hb⟩; refine ⟨_, rfl, ?_⟩; have HO465 := Aside0.mk (Kd.R_lower (Kd.R_new' (Kd.R_new' ho0 (Kd.R_lt (by (with_reducible repeat (first | apply Kd.R_alloc | apply Kd.R_drewN | apply Kd.R_drew)); exact HO_11.out))) (Kd.R_lt (by (with_reducible repeat (first | apply Kd.R_alloc | apply Kd.R_drewN | apply Kd.R_drew)); exact HO448.out))) (below_size zaB)); replace HO_11 := Aside0.mk (Kd.R_elder' (by (with_reducible repeat (first | apply Kd.R_alloc | apply Kd.R_drewN | apply Kd.R_drew)); exact HO_11.out) (Kd.R_base ho0) hb); replace HO448 := Aside0.mk (Kd.R_elder' (by (with_reducible repeat (first | apply Kd.R_alloc | apply Kd.R_drewN | apply Kd.R_drew)); exact HO448.out) (Kd.R_base ho0) hb); replace BK431 := zkb BK431 hb; replace HB := zkB HB hb; (try clear hb); (try clear ho0); obtain ⟨Ao83, co83, eo83⟩ := Kd.R_slice HO465.out; subst eo83; obtain ⟨Ao84, co84, eo84⟩ := Kd.R_slice HO_11.out; subst eo84) | ((with_reducible refine gate_callee (f := 92) rfl ?_); refine goesL_ (some 64) rfl rfl Try.func92 (by kernel_rfl) rfl #[.slice Ao83 t463.length co83, .slice Ao84 t441.length co84] rfl (by (try simp only [List.map_toArray, List.map_cons, List.map_nil]); first | done | rfl | (simp only [List.length_drop, List.length_take]; rfl)) ?_; (with_reducible refine (flyballref01_Add.calls kj6 _ _ t463 _ _ t441 t466 _ ?side1 ?side2 ?side3 ?side4 A77.out).mono ?_); (case side1 => repeat (first | exact (Kd.R_reads' HO465.out).2.2 | (with_reducible refine Kd.C_alloc ?_ _) | (with_reducible refine Kd.C_drewN ?_ _) | (with_reducible refine Kd.C_drew ?_))); (case side2 => exact (Kd.R_reads' HO465.out).2.1); (case side3 => repeat (first | exact (Kd.R_reads' HO_11.out).2.2 | (with_reducible refine Kd.C_alloc ?_ _) | (with_reducible refine Kd.C_drewN ?_ _) | (with_reducible refine Kd.C_drew ?_))); (case side4 => exact (Kd.R_reads' HO_11.out).2.1); rintro e w85 ⟨v467, rfl, ho0, hb⟩; refine ⟨_, rfl, ?_⟩; have HO468 := Aside0.mk (Kd.R_lower (Kd.R_new' (Kd.R_new' (Kd.R_new' ho0 (Kd.R_lt (by (with_reducible repeat (first | apply Kd.R_alloc | apply Kd.R_drewN | apply Kd.R_drew)); exact HO_11.out))) (Kd.R_lt (by (with_reducible repeat (first | apply Kd.R_alloc | apply Kd.R_drewN | apply Kd.R_drew)); exact HO448.out))) (Kd.R_lt (by (with_reducible repeat (first | apply Kd.R_alloc | apply Kd.R_drewN | apply Kd.R_drew)); exact HO465.out))) (below_size zaB)); replace HO_11 := Aside0.mk (Kd.R_elder' (by (with_reducible repeat (first | apply Kd.R_alloc | apply Kd.R_drewN | apply Kd.R_drew)); exact HO_11.out) (Kd.R_base ho0) hb); replace HO448 := Aside0.mk (Kd.R_elder' (by (with_reducible repeat (first | apply Kd.R_alloc | apply Kd.R_drewN | apply Kd.R_drew)); exact HO448.out) (Kd.R_base ho0) hb); replace HO465 := Aside0.mk (Kd.R_elder' (by (with_reducible repeat (first | apply Kd.R_alloc | apply Kd.R_drewN | apply Kd.R_drew)); exact HO465.out) (Kd.R_base ho0) hb); replace BK431 := zkb BK431 hb; replace HB := zkB HB hb; (try clear hb); (try clear ho0); have hcz86_0 := zc0 BK431; have hcz86_1 := zc1 BK431; have hcz86_2 := zc2 BK431; have hcz86_3 := zc3 BK431; have hfz86_0 := blk_frozen BK431.out 0; have hfz86_1 := blk_frozen BK431.out 1; have hfz86_2 := blk_frozen BK431.out 2; have hfz86_3 := blk_frozen BK431.out 3; obtain ⟨Ao87, co87, eo87⟩ := Kd.R_slice HO468.out; subst eo87) | ((with_reducible refine gate_callee (f := 189) rfl ?_); refine goesL_ (some 69) rfl rfl Try.func189 (by kernel_rfl) rfl #[.agg #[.slice A0_0 l0_0.length c0_0, .slice A0_1 l0_1.length c0_1, .int .i64 a0_2, .bool a0_3], .slice Ao87 t466.length co87, .int .i64 (wrap64 (t446 - 1))] rfl (by (try simp only [List.map_toArray, List.map_cons, List.map_nil]); first | done | rfl | (simp only [List.length_drop, List.length_take]; rfl)) ?_; (with_reducible refine (flyballref05_cmp.calls kj6 _ _ l0_0 _ _ l0_1 a0_2 a0_3 _ _ t466 (wrap64 (t446 - 1)) t469 _ ?side1 ?side2 ?side3 ?side4 ?side5 ?side6 A78.out).mono ?_); (case side1 => repeat (first | exact (Kd.C_below HR0_0.out HB.out) | (with_reducible refine Kd.C_alloc ?_ _) | (with_reducible refine Kd.C_drewN ?_ _) | (with_reducible refine Kd.C_drew ?_))); (case side2 => exact HC0_0.out); (case side3 => repeat (first | exact (Kd.C_below HR0_1.out HB.out) | (with_reducible refine Kd.C_alloc ?_ _) | (with_reducible refine Kd.C_drewN ?_ _) | (with_reducible refine Kd.C_drew ?_))); (case side4 => exact HC0_1.out); (case side5 => repeat (first | exact (Kd.R_reads' HO468.out).2.2 | (with_reducible refine Kd.C_alloc ?_ _) | (with_reducible refine Kd.C_drewN ?_ _) | (with_reducible refine Kd.C_drew ?_))); (case side6 => exact (Kd.R_reads' HO468.out).2.1); rintro e w88 ⟨rfl, hb⟩; refine ⟨_, rfl, ?_⟩; replace HO_11 := Aside0.mk (Kd.R_below (by (with_reducible repeat (first | apply Kd.R_alloc | apply Kd.R_drewN | apply Kd.R_drew)); exact HO_11.out) hb); replace HO448 := Aside0.mk (Kd.R_below (by (with_reducible repeat (first | apply Kd.R_alloc | apply Kd.R_drewN | apply Kd.R_drew)); exact HO448.out) hb); replace HO465 := Aside0.mk (Kd.R_below (by (with_reducible repeat (first | apply Kd.R_alloc | apply Kd.R_drewN | apply Kd.R_drew)); exact HO465.out) hb); replace HO468 := Aside0.mk (Kd.R_below (by (with_reducible repeat (first | apply Kd.R_alloc | apply Kd.R_drewN | apply Kd.R_drew)); exact HO468.out) hb); replace BK431 := zkb BK431 hb; replace HB := zkB HB hb; (try clear hb)))
        go_meet
        case rel => exact ⟨_, (true), (by first | rfl | (simp; done) | (simp [*]; done)), H', ⟨by have := HJ6.out; first | omega | exact Nat.le_refl _⟩, ⟨(zkq BK431)⟩, ⟨zaB⟩⟩
       ·rw [if_neg c79] at H
        have c79b0 : decide (0 < t469) = false := decide_eq_false c79
        clear c79
        by_cases c89 : t469 = 0
        ·rw [if_pos c89] at H
         have c89b0 : (t469 == 0) = true := beq_iff_eq.mpr c89
         have c89b1 : (t469 != 0) = false := bne_eq_false_iff_eq.mpr c89
         clear c89
         have H' := Aside0.mk H
         clear H
         go_wp2_with (first | ((with_reducible refine gate_callee (f := 188) rfl ?_); refine goesL_ (some 49) rfl rfl Try.func188 (by kernel_rfl) rfl #[.int .i64 t432] rfl (by (try simp only [List.map_toArray, List.map_cons, List.map_nil]); first | done | rfl | (simp only [List.length_drop, List.length_take]; rfl)) ?_; (with_reducible refine (flyballref05_split.calls kj6 t432 t445 t446 _ A31.out).mono ?_); rintro e w90 ⟨v447, rfl, ho0, hb⟩; refine ⟨_, rfl, ?_⟩; have HO448 := Aside0.mk (Kd.R_lower (Kd.R_new' ho0 (Kd.R_lt (by (with_reducible repeat (first | apply Kd.R_alloc | apply Kd.R_drewN | apply Kd.R_drew)); exact HO_11.out))) (below_size zaB)); replace HO_11 := Aside0.mk (Kd.R_elder' (by (with_reducible repeat (first | apply Kd.R_alloc | apply Kd.R_drewN | apply Kd.R_drew)); exact HO_11.out) (Kd.R_base ho0) hb); replace BK431 := zkb BK431 hb; replace HB := zkB HB hb; (try clear hb); (try clear ho0); obtain ⟨Ao91, co91, eo91⟩ := Kd.R_slice HO448.out; subst eo91) | ((with_reducible refine gate_callee (f := 90) rfl ?_); refine goesL_ (some 62) rfl rfl Try.func90 (by kernel_rfl) rfl #[.slice Ao91 t445.length co91, .int .i64 1] rfl (by (try simp only [List.map_toArray, List.map_cons, List.map_nil]); first | done | rfl | (simp only [List.length_drop, List.length_take]; rfl)) ?_; (with_reducible refine (flyballref01_Shl.calls kj6 _ _ t445 1 t463 _ ?side1 ?side2 A76.out).mono ?_); (case side1 => repeat (first | exact (Kd.R_reads' HO448.out).2.2 | (with_reducible refine Kd.C_alloc ?_ _) | (with_reducible refine Kd.C_drewN ?_ _) | (with_reducible refine Kd.C_drew ?_))); (case side2 => exact (Kd.R_reads' HO448.out).2.1); rintro e w92 ⟨v464, rfl, ho0, hb⟩; refine ⟨_, rfl, ?_⟩; have HO465 := Aside0.mk (Kd.R_lower (Kd.R_new' (Kd.R_new' ho0 (Kd.R_lt (by (with_reducible repeat (first | apply Kd.R_alloc | apply Kd.R_drewN | apply Kd.R_drew)); exact HO_11.out))) (Kd.R_lt (by (with_reducible repeat (first | apply Kd.R_alloc | apply Kd.R_drewN | apply Kd.R_drew)); exact HO448.out))) (below_size zaB)); replace HO_11 := Aside0.mk (Kd.R_elder' (by (with_reducible repeat (first | apply Kd.R_alloc | apply Kd.R_drewN | apply Kd.R_drew)); exact HO_11.out) (Kd.R_base ho0) hb); replace HO448 := Aside0.mk (Kd.R_elder' (by (with_reducible repeat (first | apply Kd.R_alloc | apply Kd.R_drewN | apply Kd.R_drew)); exact HO448.out) (Kd.R_base ho0) hb); replace BK431 := zkb BK431 hb; replace HB := zkB HB hb; (try clear hb); (try clear ho0); obtain ⟨Ao93, co93, eo93⟩ := Kd.R_slice HO465.out; subst eo93; obtain ⟨Ao94, co94, eo94⟩ := Kd.R_slice HO_11.out; subst eo94) | ((with_reducible refine gate_callee (f := 92) rfl ?_); refine goesL_ (some 64) rfl rfl Try.func92 (by kernel_rfl) rfl #[.slice Ao93 t463.length co93, .slice Ao94 t441.length co94] rfl (by (try simp only [List.map_toArray, List.map_cons, List.map_nil]); first | done | rfl | (simp only [List.length_drop, List.length_take]; rfl)) ?_; (with_reducible refine (flyballref01_Add.calls kj6 _ _ t463 _ _ t441 t466 _ ?side1 ?side2 ?side3 ?side4 A77.out).mono ?_); (case side1 => repeat (first | exact (Kd.R_reads' HO465.out).2.2 | (with_reducible refine Kd.C_alloc ?_ _) | (with_reducible refine Kd.C_drewN ?_ _) | (with_reducible refine Kd.C_drew ?_))); (case side2 => exact (Kd.R_reads' HO465.out).2.1); (case side3 => repeat (first | exact (Kd.R_reads' HO_11.out).2.2 | (with_reducible refine Kd.C_alloc ?_ _) | (with_reducible refine Kd.C_drewN ?_ _) | (with_reducible refine Kd.C_drew ?_))); (case side4 => exact (Kd.R_reads' HO_11.out).2.1); rintro e w95 ⟨v467, rfl, ho0, hb⟩; refine ⟨_, rfl, ?_⟩; have HO468 := Aside0.mk (Kd.R_lower (Kd.R_new' (Kd.R_new' (Kd.R_new' ho0 (Kd.R_lt (by (with_reducible repeat (first | apply Kd.R_alloc | apply Kd.R_drewN | apply Kd.R_drew)); exact HO_11.out))) (Kd.R_lt (by (with_reducible repeat (first | apply Kd.R_alloc | apply Kd.R_drewN | apply Kd.R_drew)); exact HO448.out))) (Kd.R_lt (by (with_reducible repeat (first | apply Kd.R_alloc | apply Kd.R_drewN | apply Kd.R_drew)); exact HO465.out))) (below_size zaB)); replace HO_11 := Aside0.mk (Kd.R_elder' (by (with_reducible repeat (first | apply Kd.R_alloc | apply Kd.R_drewN | apply Kd.R_drew)); exact HO_11.out) (Kd.R_base ho0) hb); replace HO448 := Aside0.mk (Kd.R_elder' (by (with_reducible repeat (first | apply Kd.R_alloc | apply Kd.R_drewN | apply Kd.R_drew)); exact HO448.out) (Kd.R_base ho0) hb); replace HO465 := Aside0.mk (Kd.R_elder' (by (with_reducible repeat (first | apply Kd.R_alloc | apply Kd.R_drewN | apply Kd.R_drew)); exact HO465.out) (Kd.R_base ho0) hb); replace BK431 := zkb BK431 hb; replace HB := zkB HB hb; (try clear hb); (try clear ho0); have hcz96_0 := zc0 BK431; have hcz96_1 := zc1 BK431; have hcz96_2 := zc2 BK431; have hcz96_3 := zc3 BK431; have hfz96_0 := blk_frozen BK431.out 0; have hfz96_1 := blk_frozen BK431.out 1; have hfz96_2 := blk_frozen BK431.out 2; have hfz96_3 := blk_frozen BK431.out 3; obtain ⟨Ao97, co97, eo97⟩ := Kd.R_slice HO468.out; subst eo97) | ((with_reducible refine gate_callee (f := 189) rfl ?_); refine goesL_ (some 69) rfl rfl Try.func189 (by kernel_rfl) rfl #[.agg #[.slice A0_0 l0_0.length c0_0, .slice A0_1 l0_1.length c0_1, .int .i64 a0_2, .bool a0_3], .slice Ao97 t466.length co97, .int .i64 (wrap64 (t446 - 1))] rfl (by (try simp only [List.map_toArray, List.map_cons, List.map_nil]); first | done | rfl | (simp only [List.length_drop, List.length_take]; rfl)) ?_; (with_reducible refine (flyballref05_cmp.calls kj6 _ _ l0_0 _ _ l0_1 a0_2 a0_3 _ _ t466 (wrap64 (t446 - 1)) t469 _ ?side1 ?side2 ?side3 ?side4 ?side5 ?side6 A78.out).mono ?_); (case side1 => repeat (first | exact (Kd.C_below HR0_0.out HB.out) | (with_reducible refine Kd.C_alloc ?_ _) | (with_reducible refine Kd.C_drewN ?_ _) | (with_reducible refine Kd.C_drew ?_))); (case side2 => exact HC0_0.out); (case side3 => repeat (first | exact (Kd.C_below HR0_1.out HB.out) | (with_reducible refine Kd.C_alloc ?_ _) | (with_reducible refine Kd.C_drewN ?_ _) | (with_reducible refine Kd.C_drew ?_))); (case side4 => exact HC0_1.out); (case side5 => repeat (first | exact (Kd.R_reads' HO468.out).2.2 | (with_reducible refine Kd.C_alloc ?_ _) | (with_reducible refine Kd.C_drewN ?_ _) | (with_reducible refine Kd.C_drew ?_))); (case side6 => exact (Kd.R_reads' HO468.out).2.1); rintro e w98 ⟨rfl, hb⟩; refine ⟨_, rfl, ?_⟩; replace HO_11 := Aside0.mk (Kd.R_below (by (with_reducible repeat (first | apply Kd.R_alloc | apply Kd.R_drewN | apply Kd.R_drew)); exact HO_11.out) hb); replace HO448 := Aside0.mk (Kd.R_below (by (with_reducible repeat (first | apply Kd.R_alloc | apply Kd.R_drewN | apply Kd.R_drew)); exact HO448.out) hb); replace HO465 := Aside0.mk (Kd.R_below (by (with_reducible repeat (first | apply Kd.R_alloc | apply Kd.R_drewN | apply Kd.R_drew)); exact HO465.out) hb); replace HO468 := Aside0.mk (Kd.R_below (by (with_reducible repeat (first | apply Kd.R_alloc | apply Kd.R_drewN | apply Kd.R_drew)); exact HO468.out) hb); replace BK431 := zkb BK431 hb; replace HB := zkB HB hb; (try clear hb)))
         go_meet
         case rel => exact ⟨_, (((Int.tmod t432 2) == 1)), (by first | rfl | (simp; done) | (simp [*]; done)), H', ⟨by have := HJ6.out; first | omega | exact Nat.le_refl _⟩, ⟨(zkq BK431)⟩, ⟨zaB⟩⟩
        ·rw [if_neg c89] at H
         have c89b0 : (t469 == 0) = false := beq_eq_false_iff_ne.mpr c89
         have c89b1 : (t469 != 0) = true := bne_iff_ne.mpr c89
         have H' := Aside0.mk H
         clear H
         go_wp2_with (first | ((with_reducible refine gate_callee (f := 188) rfl ?_); refine goesL_ (some 49) rfl rfl Try.func188 (by kernel_rfl) rfl #[.int .i64 t432] rfl (by (try simp only [List.map_toArray, List.map_cons, List.map_nil]); first | done | rfl | (simp only [List.length_drop, List.length_take]; rfl)) ?_; (with_reducible refine (flyballref05_split.calls kj6 t432 t445 t446 _ A31.out).mono ?_); rintro e w99 ⟨v447, rfl, ho0, hb⟩; refine ⟨_, rfl, ?_⟩; have HO448 := Aside0.mk (Kd.R_lower (Kd.R_new' ho0 (Kd.R_lt (by (with_reducible repeat (first | apply Kd.R_alloc | apply Kd.R_drewN | apply Kd.R_drew)); exact HO_11.out))) (below_size zaB)); replace HO_11 := Aside0.mk (Kd.R_elder' (by (with_reducible repeat (first | apply Kd.R_alloc | apply Kd.R_drewN | apply Kd.R_drew)); exact HO_11.out) (Kd.R_base ho0) hb); replace BK431 := zkb BK431 hb; replace HB := zkB HB hb; (try clear hb); (try clear ho0); obtain ⟨Ao100, co100, eo100⟩ := Kd.R_slice HO448.out; subst eo100) | ((with_reducible refine gate_callee (f := 90) rfl ?_); refine goesL_ (some 62) rfl rfl Try.func90 (by kernel_rfl) rfl #[.slice Ao100 t445.length co100, .int .i64 1] rfl (by (try simp only [List.map_toArray, List.map_cons, List.map_nil]); first | done | rfl | (simp only [List.length_drop, List.length_take]; rfl)) ?_; (with_reducible refine (flyballref01_Shl.calls kj6 _ _ t445 1 t463 _ ?side1 ?side2 A76.out).mono ?_); (case side1 => repeat (first | exact (Kd.R_reads' HO448.out).2.2 | (with_reducible refine Kd.C_alloc ?_ _) | (with_reducible refine Kd.C_drewN ?_ _) | (with_reducible refine Kd.C_drew ?_))); (case side2 => exact (Kd.R_reads' HO448.out).2.1); rintro e w101 ⟨v464, rfl, ho0, hb⟩; refine ⟨_, rfl, ?_⟩; have HO465 := Aside0.mk (Kd.R_lower (Kd.R_new' (Kd.R_new' ho0 (Kd.R_lt (by (with_reducible repeat (first | apply Kd.R_alloc | apply Kd.R_drewN | apply Kd.R_drew)); exact HO_11.out))) (Kd.R_lt (by (with_reducible repeat (first | apply Kd.R_alloc | apply Kd.R_drewN | apply Kd.R_drew)); exact HO448.out))) (below_size zaB)); replace HO_11 := Aside0.mk (Kd.R_elder' (by (with_reducible repeat (first | apply Kd.R_alloc | apply Kd.R_drewN | apply Kd.R_drew)); exact HO_11.out) (Kd.R_base ho0) hb); replace HO448 := Aside0.mk (Kd.R_elder' (by (with_reducible repeat (first | apply Kd.R_alloc | apply Kd.R_drewN | apply Kd.R_drew)); exact HO448.out) (Kd.R_base ho0) hb); replace BK431 := zkb BK431 hb; replace HB := zkB HB hb; (try clear hb); (try clear ho0); obtain ⟨Ao102, co102, eo102⟩ := Kd.R_slice HO465.out; subst eo102; obtain ⟨Ao103, co103, eo103⟩ := Kd.R_slice HO_11.out; subst eo103) | ((with_reducible refine gate_callee (f := 92) rfl ?_); refine goesL_ (some 64) rfl rfl Try.func92 (by kernel_rfl) rfl #[.slice Ao102 t463.length co102, .slice Ao103 t441.length co103] rfl (by (try simp only [List.map_toArray, List.map_cons, List.map_nil]); first | done | rfl | (simp only [List.length_drop, List.length_take]; rfl)) ?_; (with_reducible refine (flyballref01_Add.calls kj6 _ _ t463 _ _ t441 t466 _ ?side1 ?side2 ?side3 ?side4 A77.out).mono ?_); (case side1 => repeat (first | exact (Kd.R_reads' HO465.out).2.2 | (with_reducible refine Kd.C_alloc ?_ _) | (with_reducible refine Kd.C_drewN ?_ _) | (with_reducible refine Kd.C_drew ?_))); (case side2 => exact (Kd.R_reads' HO465.out).2.1); (case side3 => repeat (first | exact (Kd.R_reads' HO_11.out).2.2 | (with_reducible refine Kd.C_alloc ?_ _) | (with_reducible refine Kd.C_drewN ?_ _) | (with_reducible refine Kd.C_drew ?_))); (case side4 => exact (Kd.R_reads' HO_11.out).2.1); rintro e w104 ⟨v467, rfl, ho0, hb⟩; refine ⟨_, rfl, ?_⟩; have HO468 := Aside0.mk (Kd.R_lower (Kd.R_new' (Kd.R_new' (Kd.R_new' ho0 (Kd.R_lt (by (with_reducible repeat (first | apply Kd.R_alloc | apply Kd.R_drewN | apply Kd.R_drew)); exact HO_11.out))) (Kd.R_lt (by (with_reducible repeat (first | apply Kd.R_alloc | apply Kd.R_drewN | apply Kd.R_drew)); exact HO448.out))) (Kd.R_lt (by (with_reducible repeat (first | apply Kd.R_alloc | apply Kd.R_drewN | apply Kd.R_drew)); exact HO465.out))) (below_size zaB)); replace HO_11 := Aside0.mk (Kd.R_elder' (by (with_reducible repeat (first | apply Kd.R_alloc | apply Kd.R_drewN | apply Kd.R_drew)); exact HO_11.out) (Kd.R_base ho0) hb); replace HO448 := Aside0.mk (Kd.R_elder' (by (with_reducible repeat (first | apply Kd.R_alloc | apply Kd.R_drewN | apply Kd.R_drew)); exact HO448.out) (Kd.R_base ho0) hb); replace HO465 := Aside0.mk (Kd.R_elder' (by (with_reducible repeat (first | apply Kd.R_alloc | apply Kd.R_drewN | apply Kd.R_drew)); exact HO465.out) (Kd.R_base ho0) hb); replace BK431 := zkb BK431 hb; replace HB := zkB HB hb; (try clear hb); (try clear ho0); have hcz105_0 := zc0 BK431; have hcz105_1 := zc1 BK431; have hcz105_2 := zc2 BK431; have hcz105_3 := zc3 BK431; have hfz105_0 := blk_frozen BK431.out 0; have hfz105_1 := blk_frozen BK431.out 1; have hfz105_2 := blk_frozen BK431.out 2; have hfz105_3 := blk_frozen BK431.out 3; obtain ⟨Ao106, co106, eo106⟩ := Kd.R_slice HO468.out; subst eo106) | ((with_reducible refine gate_callee (f := 189) rfl ?_); refine goesL_ (some 69) rfl rfl Try.func189 (by kernel_rfl) rfl #[.agg #[.slice A0_0 l0_0.length c0_0, .slice A0_1 l0_1.length c0_1, .int .i64 a0_2, .bool a0_3], .slice Ao106 t466.length co106, .int .i64 (wrap64 (t446 - 1))] rfl (by (try simp only [List.map_toArray, List.map_cons, List.map_nil]); first | done | rfl | (simp only [List.length_drop, List.length_take]; rfl)) ?_; (with_reducible refine (flyballref05_cmp.calls kj6 _ _ l0_0 _ _ l0_1 a0_2 a0_3 _ _ t466 (wrap64 (t446 - 1)) t469 _ ?side1 ?side2 ?side3 ?side4 ?side5 ?side6 A78.out).mono ?_); (case side1 => repeat (first | exact (Kd.C_below HR0_0.out HB.out) | (with_reducible refine Kd.C_alloc ?_ _) | (with_reducible refine Kd.C_drewN ?_ _) | (with_reducible refine Kd.C_drew ?_))); (case side2 => exact HC0_0.out); (case side3 => repeat (first | exact (Kd.C_below HR0_1.out HB.out) | (with_reducible refine Kd.C_alloc ?_ _) | (with_reducible refine Kd.C_drewN ?_ _) | (with_reducible refine Kd.C_drew ?_))); (case side4 => exact HC0_1.out); (case side5 => repeat (first | exact (Kd.R_reads' HO468.out).2.2 | (with_reducible refine Kd.C_alloc ?_ _) | (with_reducible refine Kd.C_drewN ?_ _) | (with_reducible refine Kd.C_drew ?_))); (case side6 => exact (Kd.R_reads' HO468.out).2.1); rintro e w107 ⟨rfl, hb⟩; refine ⟨_, rfl, ?_⟩; replace HO_11 := Aside0.mk (Kd.R_below (by (with_reducible repeat (first | apply Kd.R_alloc | apply Kd.R_drewN | apply Kd.R_drew)); exact HO_11.out) hb); replace HO448 := Aside0.mk (Kd.R_below (by (with_reducible repeat (first | apply Kd.R_alloc | apply Kd.R_drewN | apply Kd.R_drew)); exact HO448.out) hb); replace HO465 := Aside0.mk (Kd.R_below (by (with_reducible repeat (first | apply Kd.R_alloc | apply Kd.R_drewN | apply Kd.R_drew)); exact HO465.out) hb); replace HO468 := Aside0.mk (Kd.R_below (by (with_reducible repeat (first | apply Kd.R_alloc | apply Kd.R_drewN | apply Kd.R_drew)); exact HO468.out) hb); replace BK431 := zkb BK431 hb; replace HB := zkB HB hb; (try clear hb)))
         go_meet
         case rel => exact ⟨_, (false), (by first | rfl | (simp; done) | (simp [*]; done)), H', ⟨by have := HJ6.out; first | omega | exact Nat.le_refl _⟩, ⟨(zkq BK431)⟩, ⟨zaB⟩⟩
   case rest =>
    clear HC28
    try clear c1
    try clear c2
    try clear p2
    try clear c3
    try clear c5
    try clear p6
    try clear c7
    try clear c8
    try clear c9
    try clear c15
    try clear c16
    try clear c18
    try clear c19
    try clear c19b0
    try clear c19b1
    try clear c21
    try clear c21b0
    try clear c29
    try clear c29b0
    try clear c29b1
    try clear c30
    try clear c30b0
    try clear c30b1
    try clear c32
    try clear c32b0
    try clear c38
    try clear c38b0
    try clear c51
    try clear c51b0
    try clear c51b1
    try clear p64
    try clear c79
    try clear c79b0
    try clear c89
    try clear c89b0
    try clear c89b1
    try clear c90
    try clear c92
    try clear hcz105_0
    try clear hcz105_1
    try clear hcz105_2
    try clear hcz105_3
    try clear hcz12_0
    try clear hcz12_1
    try clear hcz12_2
    try clear hcz12_3
    try clear hcz22_0
    try clear hcz22_1
    try clear hcz22_2
    try clear hcz22_3
    try clear hcz25_0
    try clear hcz25_1
    try clear hcz25_2
    try clear hcz25_3
    try clear hcz48_0
    try clear hcz48_1
    try clear hcz48_2
    try clear hcz48_3
    try clear hcz61_0
    try clear hcz61_1
    try clear hcz61_2
    try clear hcz61_3
    try clear hcz73_0
    try clear hcz73_1
    try clear hcz73_2
    try clear hcz73_3
    try clear hcz86_0
    try clear hcz86_1
    try clear hcz86_2
    try clear hcz86_3
    try clear hcz96_0
    try clear hcz96_1
    try clear hcz96_2
    try clear hcz96_3
    try clear hcz9_0
    try clear hcz9_1
    try clear hcz9_2
    try clear hcz9_3
    try clear hfz105_0
    try clear hfz105_1
    try clear hfz105_2
    try clear hfz105_3
    try clear hfz12_0
    try clear hfz12_1
    try clear hfz12_2
    try clear hfz12_3
    try clear hfz22_0
    try clear hfz22_1
    try clear hfz22_2
    try clear hfz22_3
    try clear hfz25_0
    try clear hfz25_1
    try clear hfz25_2
    try clear hfz25_3
    try clear hfz48_0
    try clear hfz48_1
    try clear hfz48_2
    try clear hfz48_3
    try clear hfz61_0
    try clear hfz61_1
    try clear hfz61_2
    try clear hfz61_3
    try clear hfz73_0
    try clear hfz73_1
    try clear hfz73_2
    try clear hfz73_3
    try clear hfz86_0
    try clear hfz86_1
    try clear hfz86_2
    try clear hfz86_3
    try clear hfz96_0
    try clear hfz96_1
    try clear hfz96_2
    try clear hfz96_3
    try clear hfz9_0
    try clear hfz9_1
    try clear hfz9_2
    try clear hfz9_3
    try clear p2
    obtain ⟨kq, x12_27, rfl, HA, HJ27, BK431, HB⟩ := hcut
    cases kq with
    | zero => exact absurd HA.out (by simp [flyballref05_Magnitude.j1])
    | succ kj27 =>
     have H := HA.out
     clear HA
     simp only [flyballref05_Magnitude.j1] at H
     have HC108 := Aside0.mk H
     clear H
     go_upto_region 21 with (fail)
     go_cut [85] (fun v85 wc => ∃ (kq : Nat) (x85_107 : Bool), v85 = .bool x85_107 ∧ Aside0 (flyballref05_Magnitude.j2 kq a1 x6_6 t432 x85_107 = some (r1, r2)) ∧ Aside0 (kq ≤ kj27) ∧ Aside0 (wc.heap[gb431]? = some (.cells #[(.slice A0_0 l0_0.length c0_0), (.slice A0_1 l0_1.length c0_1), .int .i64 a0_2, .bool a0_3] 115 (0, 0))) ∧ Aside0 (Below w.heap.size w wc))
     case first =>
      have H := HC108.out
      clear HC108
      by_cases c109 : t432 ≤ 9218868437227405311
      ·rw [if_pos c109] at H
       have c109b0 : decide (t432 ≤ 9218868437227405311) = true := decide_eq_true c109
       clear c109
       (first | rw [c109b0] | (simp only [i64_w, i32_w]; rw [c109b0]) | skip)
       have H' := Aside0.mk H
       clear H
       go_wp2
       go_meet
       case rel => exact ⟨_, (x12_27), (by first | rfl | (simp; done) | (simp [*]; done)), H', ⟨by have := HJ6.out; have := HJ27.out; first | omega | exact Nat.le_refl _⟩, ⟨(zkq BK431)⟩, ⟨zaB⟩⟩
      ·rw [if_neg c109] at H
       have c109b0 : decide (t432 ≤ 9218868437227405311) = false := decide_eq_false c109
       clear c109
       (first | rw [c109b0] | (simp only [i64_w, i32_w]; rw [c109b0]) | skip)
       have H' := Aside0.mk H
       clear H
       go_wp2
       go_meet
       case rel => exact ⟨_, (false), (by first | rfl | (simp; done) | (simp [*]; done)), H', ⟨by have := HJ6.out; have := HJ27.out; first | omega | exact Nat.le_refl _⟩, ⟨(zkq BK431)⟩, ⟨zaB⟩⟩
     case rest =>
      clear HC108
      try clear c1
      try clear c2
      try clear p2
      try clear c3
      try clear c5
      try clear p6
      try clear c7
      try clear c8
      try clear c9
      try clear c10
      try clear c15
      try clear c16
      try clear c18
      try clear c19
      try clear c19b0
      try clear c19b1
      try clear c21
      try clear c21b0
      try clear c29
      try clear c29b0
      try clear c29b1
      try clear c30
      try clear c30b0
      try clear c30b1
      try clear c32
      try clear c32b0
      try clear c38
      try clear c38b0
      try clear c51
      try clear c51b0
      try clear c51b1
      try clear p64
      try clear c79
      try clear c79b0
      try clear c89
      try clear c89b0
      try clear c89b1
      try clear c90
      try clear c92
      try clear c109
      try clear c109b0
      try clear hcz105_0
      try clear hcz105_1
      try clear hcz105_2
      try clear hcz105_3
      try clear hcz12_0
      try clear hcz12_1
      try clear hcz12_2
      try clear hcz12_3
      try clear hcz22_0
      try clear hcz22_1
      try clear hcz22_2
      try clear hcz22_3
      try clear hcz25_0
      try clear hcz25_1
      try clear hcz25_2
      try clear hcz25_3
      try clear hcz48_0
      try clear hcz48_1
      try clear hcz48_2
      try clear hcz48_3
      try clear hcz61_0
      try clear hcz61_1
      try clear hcz61_2
      try clear hcz61_3
      try clear hcz73_0
      try clear hcz73_1
      try clear hcz73_2
      try clear hcz73_3
      try clear hcz86_0
      try clear hcz86_1
      try clear hcz86_2
      try clear hcz86_3
      try clear hcz96_0
      try clear hcz96_1
      try clear hcz96_2
      try clear hcz96_3
      try clear hcz9_0
      try clear hcz9_1
      try clear hcz9_2
      try clear hcz9_3
      try clear hfz105_0
      try clear hfz105_1
      try clear hfz105_2
      try clear hfz105_3
      try clear hfz12_0
      try clear hfz12_1
      try clear hfz12_2
      try clear hfz12_3
      try clear hfz22_0
      try clear hfz22_1
      try clear hfz22_2
      try clear hfz22_3
      try clear hfz25_0
      try clear hfz25_1
      try clear hfz25_2
      try clear hfz25_3
      try clear hfz48_0
      try clear hfz48_1
      try clear hfz48_2
      try clear hfz48_3
      try clear hfz61_0
      try clear hfz61_1
      try clear hfz61_2
      try clear hfz61_3
      try clear hfz73_0
      try clear hfz73_1
      try clear hfz73_2
      try clear hfz73_3
      try clear hfz86_0
      try clear hfz86_1
      try clear hfz86_2
      try clear hfz86_3
      try clear hfz96_0
      try clear hfz96_1
      try clear hfz96_2
      try clear hfz96_3
      try clear hfz9_0
      try clear hfz9_1
      try clear hfz9_2
      try clear hfz9_3
      try clear p2
      try clear p6
      try clear p64
      obtain ⟨kq, x85_107, rfl, HA, HJ107, BK431, HB⟩ := hcut
      cases kq with
      | zero => exact absurd HA.out (by simp [flyballref05_Magnitude.j2])
      | succ kj107 =>
       have H := HA.out
       clear HA
       simp only [flyballref05_Magnitude.j2] at H
       have HC110 := Aside0.mk H
       clear H
       go_upto_if 85 with (fail)
       go_cut [7] (fun v7 wc => ∃ (kq : Nat) (x7_109 : Int), v7 = .int .i64 x7_109 ∧ Aside0 (flyballref05_Magnitude.j3 kq a1 x6_6 x7_109 = some (r1, r2)) ∧ Aside0 (kq ≤ kj107) ∧ Aside0 (wc.heap[gb431]? = some (.cells #[(.slice A0_0 l0_0.length c0_0), (.slice A0_1 l0_1.length c0_1), .int .i64 a0_2, .bool a0_3] 115 (0, 0))) ∧ Aside0 (Below w.heap.size w wc))
       case first =>
        have H := HC110.out
        clear HC110
        by_cases c111 : x85_107 = true
        ·subst c111
         have H1 : (flyballref05_Magnitude.j3 kj107 a1 x6_6 (wrap64 (t432 + 1))) = some (r1, r2) := by rw [if_pos rfl] at H; exact H
         clear H
         have H := H1
         clear H1
         have H' := Aside0.mk H
         clear H
         go_wp2
         go_meet
         case rel => exact ⟨_, (wrap64 (t432 + 1)), (by first | rfl | (simp; done) | (simp [*]; done)), H', ⟨by have := HJ6.out; have := HJ27.out; have := HJ107.out; first | omega | exact Nat.le_refl _⟩, ⟨(zkq BK431)⟩, ⟨zaB⟩⟩
        ·replace c111 := Bool.eq_false_iff.mpr c111
         subst c111
         have H1 : (flyballref05_Magnitude.j3 kj107 a1 x6_6 t432) = some (r1, r2) := by rw [if_neg (show ¬ (false = true) by decide)] at H; exact H
         clear H
         have H := H1
         clear H1
         have H' := Aside0.mk H
         clear H
         go_wp2
         go_meet
         case rel => exact ⟨_, (t432), (by first | rfl | (simp; done) | (simp [*]; done)), H', ⟨by have := HJ6.out; have := HJ27.out; have := HJ107.out; first | omega | exact Nat.le_refl _⟩, ⟨(zkq BK431)⟩, ⟨zaB⟩⟩
       case rest =>
        clear HC110
        try clear c1
        try clear c2
        try clear p2
        try clear c3
        try clear c5
        try clear p6
        try clear c7
        try clear c8
        try clear c9
        try clear c10
        try clear c11
        try clear c15
        try clear c16
        try clear c18
        try clear c19
        try clear c19b0
        try clear c19b1
        try clear c21
        try clear c21b0
        try clear c29
        try clear c29b0
        try clear c29b1
        try clear c30
        try clear c30b0
        try clear c30b1
        try clear c32
        try clear c32b0
        try clear c38
        try clear c38b0
        try clear c51
        try clear c51b0
        try clear c51b1
        try clear p64
        try clear c79
        try clear c79b0
        try clear c89
        try clear c89b0
        try clear c89b1
        try clear c90
        try clear c92
        try clear c109
        try clear c109b0
        try clear c111
        try clear hcz105_0
        try clear hcz105_1
        try clear hcz105_2
        try clear hcz105_3
        try clear hcz12_0
        try clear hcz12_1
        try clear hcz12_2
        try clear hcz12_3
        try clear hcz22_0
        try clear hcz22_1
        try clear hcz22_2
        try clear hcz22_3
        try clear hcz25_0
        try clear hcz25_1
        try clear hcz25_2
        try clear hcz25_3
        try clear hcz48_0
        try clear hcz48_1
        try clear hcz48_2
        try clear hcz48_3
        try clear hcz61_0
        try clear hcz61_1
        try clear hcz61_2
        try clear hcz61_3
        try clear hcz73_0
        try clear hcz73_1
        try clear hcz73_2
        try clear hcz73_3
        try clear hcz86_0
        try clear hcz86_1
        try clear hcz86_2
        try clear hcz86_3
        try clear hcz96_0
        try clear hcz96_1
        try clear hcz96_2
        try clear hcz96_3
        try clear hcz9_0
        try clear hcz9_1
        try clear hcz9_2
        try clear hcz9_3
        try clear hfz105_0
        try clear hfz105_1
        try clear hfz105_2
        try clear hfz105_3
        try clear hfz12_0
        try clear hfz12_1
        try clear hfz12_2
        try clear hfz12_3
        try clear hfz22_0
        try clear hfz22_1
        try clear hfz22_2
        try clear hfz22_3
        try clear hfz25_0
        try clear hfz25_1
        try clear hfz25_2
        try clear hfz25_3
        try clear hfz48_0
        try clear hfz48_1
        try clear hfz48_2
        try clear hfz48_3
        try clear hfz61_0
        try clear hfz61_1
        try clear hfz61_2
        try clear hfz61_3
        try clear hfz73_0
        try clear hfz73_1
        try clear hfz73_2
        try clear hfz73_3
        try clear hfz86_0
        try clear hfz86_1
        try clear hfz86_2
        try clear hfz86_3
        try clear hfz96_0
        try clear hfz96_1
        try clear hfz96_2
        try clear hfz96_3
        try clear hfz9_0
        try clear hfz9_1
        try clear hfz9_2
        try clear hfz9_3
        try clear p2
        try clear p6
        try clear p64
        obtain ⟨kq, x7_109, rfl, HA, HJ109, BK431, HB⟩ := hcut
        cases kq with
        | zero => exact absurd HA.out (by simp [flyballref05_Magnitude.j3])
        | succ kj109 =>
         have H := HA.out
         clear HA
         simp only [flyballref05_Magnitude.j3] at H
         by_cases c112 : x7_109 > 9218868437227405311
         ·rw [if_pos c112] at H
          have c112b0 : decide (9218868437227405311 < x7_109) = true := decide_eq_true c112
          clear c112
          by_cases c113 : a1 = 2
          ·rw [if_pos c113] at H
           have c113b0 : (a1 == 2) = true := beq_iff_eq.mpr c113
           have c113b1 : (a1 != 2) = false := bne_eq_false_iff_eq.mpr c113
           clear c113
           simp only [Option.some.injEq, Prod.mk.injEq] at H
           obtain ⟨rfl, rfl⟩ := H
           go_wp2
           go_ret2
           exact ⟨zaE, zaB⟩
          ·rw [if_neg c113] at H
           have c113b0 : (a1 == 2) = false := beq_eq_false_iff_ne.mpr c113
           have c113b1 : (a1 != 2) = true := bne_iff_ne.mpr c113
           simp only [Option.some.injEq, Prod.mk.injEq] at H
           obtain ⟨rfl, rfl⟩ := H
           go_wp2
           go_ret2
           exact ⟨zaE, zaB⟩
         ·rw [if_neg c112] at H
          have c112b0 : decide (9218868437227405311 < x7_109) = false := decide_eq_false c112
          clear c112
          simp only [Option.some.injEq, Prod.mk.injEq] at H
          obtain ⟨rfl, rfl⟩ := H
          go_wp2
          go_ret2
          exact ⟨zaE, zaB⟩
end Go.Proofs.Ytmadjhmecfbcmaa.F
end
section
namespace Go.Proofs.Ytmadjhmecfbcmaa.F
open Go.RowKit Go.Proofs.YtmadjhmecfbcmaaW.PrintWords Go.Proofs.YtmadjhmecfbcmaaW.PrintLast Go.Proofs.YtmadjhmecfbcmaaW.PrintMore
attribute [local go_sem] max2_int min2_int max_two min_two max_three min_three max_four min_four
set_option linter.unusedVariables false
set_option linter.unusedSimpArgs false
set_option maxHeartbeats 8000000 in
set_option maxRecDepth 100000 in
theorem flyballref05_Signed.calls (k : Nat) (a0 : Bool) (A1_0 : Option Addr) (c1_0 : Nat) (l1_0 : List Bool) (A1_1 : Option Addr) (c1_1 : Nat) (l1_1 : List Bool) (a1_2 : Int) (a1_3 : Bool) (a2 : Int) (r1 : Int) (r2 : Int) (w : World) (hr1_0 : Kd.C Kd.bool w A1_0 l1_0.length l1_0) (hc1_0 : l1_0.length ≤ c1_0) (hr1_1 : Kd.C Kd.bool w A1_1 l1_1.length l1_1) (hc1_1 : l1_1.length ≤ c1_1) (h : flyballref05_Signed.f k a0 l1_0 l1_1 a1_2 a1_3 a2 = some (r1, r2)) :
  Calls Try.prog 105 #[.bool a0, .agg #[.slice A1_0 l1_0.length c1_0, .slice A1_1 l1_1.length c1_1, .int .i64 a1_2, .bool a1_3], .int .u8 a2] w fun e w' => e = .returned (.tuple #[.int .u64 r1, .int .u8 r2]) ∧ Below w.heap.size w w' := by
 have hu115 := Try.underlying115
 have HR1_0 := Aside0.mk hr1_0
 have HC1_0 := Aside0.mk hc1_0
 clear hr1_0 hc1_0
 have HR1_1 := Aside0.mk hr1_1
 have HC1_1 := Aside0.mk hc1_1
 clear hr1_1 hc1_1
 have HB := Aside0.mk (Below.refl w.heap.size w)
 have H : (if a0 = true then (flyballref05_Signed.j0 k a0 a2 a2 (a2 == 1) l1_0 l1_1 a1_2 a1_3) else (flyballref05_Signed.j0 k a0 a2 a2 false l1_0 l1_1 a1_2 a1_3)) = some (r1, r2) := h
 clear h
 have HC4 := Aside0.mk H
 clear H
 go_enter Try.func105, Try.ntmps105
 go_upto_region 2 with (first | ((with_reducible refine gate_dst (N := 4) rfl ?_); refine zbx 4 #[.slice A1_0 l1_0.length c1_0, .slice A1_1 l1_1.length c1_1, .int .i64 a1_2, .bool a1_3] 115 (h := ?_); intro gb470 hg w5 hbox hb; have GW470 := zkZ hg (zaB (p := Below w.heap.size w _)); have GE470 := GW470; replace HB := Aside0.mk (below_step zaB hb); have BK470 := Aside0.mk (hbox); clear hb hbox hg))
 (try simp only [Act.put, List.setIfInBounds_toArray, List.set_cons_zero, List.set_cons_succ])
 go_cut [16] (fun v16 wc => ∃ (kq : Nat) (x16_3 : Bool), v16 = .bool x16_3 ∧ Aside0 (flyballref05_Signed.j0 kq a0 a2 a2 x16_3 l1_0 l1_1 a1_2 a1_3 = some (r1, r2)) ∧ Aside0 (kq ≤ k) ∧ Aside0 (wc.heap[gb470]? = some (.cells #[(.slice A1_0 l1_0.length c1_0), (.slice A1_1 l1_1.length c1_1), .int .i64 a1_2, .bool a1_3] 115 (0, 0))) ∧ Aside0 (Below w.heap.size w wc))
 case first =>
  have H := HC4.out
  clear HC4
  by_cases c6 : a0 = true
  ·subst c6
   have H1 : (flyballref05_Signed.j0 k true a2 a2 (a2 == 1) l1_0 l1_1 a1_2 a1_3) = some (r1, r2) := by rw [if_pos rfl] at H; exact H
   clear H
   have H := H1
   clear H1
   have H' := Aside0.mk H
   clear H
   go_wp2
   go_meet
   case rel => exact ⟨_, ((a2 == 1)), (by first | rfl | (simp; done) | (simp [*]; done)), H', ⟨by first | omega | exact Nat.le_refl _⟩, ⟨(zkq BK470)⟩, ⟨zaB⟩⟩
  ·replace c6 := Bool.eq_false_iff.mpr c6
   subst c6
   have H1 : (flyballref05_Signed.j0 k false a2 a2 false l1_0 l1_1 a1_2 a1_3) = some (r1, r2) := by rw [if_neg (show ¬ (false = true) by decide)] at H; exact H
   clear H
   have H := H1
   clear H1
   have H' := Aside0.mk H
   clear H
   go_wp2
   go_meet
   case rel => exact ⟨_, (false), (by first | rfl | (simp; done) | (simp [*]; done)), H', ⟨by first | omega | exact Nat.le_refl _⟩, ⟨(zkq BK470)⟩, ⟨zaB⟩⟩
 case rest =>
  clear HC4
  try clear c1
  try clear p2
  try clear c6
  obtain ⟨kq, x16_3, rfl, HA, HJ3, BK470, HB⟩ := hcut
  cases kq with
  | zero => exact absurd HA.out (by simp [flyballref05_Signed.j0])
  | succ kj3 =>
   have H := HA.out
   clear HA
   simp only [flyballref05_Signed.j0] at H
   have HC7 := Aside0.mk H
   clear H
   go_upto_if 16 with (fail)
   go_cut [8] (fun v8 wc => ∃ (kq : Nat) (x8_6 : Int), v8 = .int .u8 x8_6 ∧ Aside0 (flyballref05_Signed.j1 kq a0 x8_6 l1_0 l1_1 a1_2 a1_3 = some (r1, r2)) ∧ Aside0 (kq ≤ kj3) ∧ Aside0 (wc.heap[gb470]? = some (.cells #[(.slice A1_0 l1_0.length c1_0), (.slice A1_1 l1_1.length c1_1), .int .i64 a1_2, .bool a1_3] 115 (0, 0))) ∧ Aside0 (Below w.heap.size w wc))
   case first =>
    have H := HC7.out
    clear HC7
    by_cases c8 : x16_3 = true
    ·subst c8
     have H1 : (flyballref05_Signed.j1 kj3 a0 2 l1_0 l1_1 a1_2 a1_3) = some (r1, r2) := by rw [if_pos rfl] at H; exact H
     clear H
     have H := H1
     clear H1
     have H' := Aside0.mk H
     clear H
     go_wp2
     go_meet
     case rel => exact ⟨_, (2), (by first | rfl | (simp; done) | (simp [*]; done)), H', ⟨by have := HJ3.out; first | omega | exact Nat.le_refl _⟩, ⟨(zkq BK470)⟩, ⟨zaB⟩⟩
    ·replace c8 := Bool.eq_false_iff.mpr c8
     subst c8
     have H1 : (if a0 = true then (if a2 = 2 then (flyballref05_Signed.j1 kj3 a0 1 l1_0 l1_1 a1_2 a1_3) else (flyballref05_Signed.j1 kj3 a0 a2 l1_0 l1_1 a1_2 a1_3)) else (flyballref05_Signed.j1 kj3 a0 a2 l1_0 l1_1 a1_2 a1_3)) = some (r1, r2) := by rw [if_neg (show ¬ (false = true) by decide)] at H; exact H
     clear H
     have H := H1
     clear H1
     by_cases c9 : a0 = true
     ·subst c9
      have H1 : (if a2 = 2 then (flyballref05_Signed.j1 kj3 true 1 l1_0 l1_1 a1_2 a1_3) else (flyballref05_Signed.j1 kj3 true a2 l1_0 l1_1 a1_2 a1_3)) = some (r1, r2) := by rw [if_pos rfl] at H; exact H
      clear H
      have H := H1
      clear H1
      by_cases c10 : a2 = 2
      ·rw [if_pos c10] at H
       have c10b0 : (a2 == 2) = true := beq_iff_eq.mpr c10
       have c10b1 : (a2 != 2) = false := bne_eq_false_iff_eq.mpr c10
       clear c10
       (first | rw [c10b0] | (simp only [i64_w, i32_w]; rw [c10b0]) | skip)
       have H' := Aside0.mk H
       clear H
       go_wp2
       go_meet
       case rel => exact ⟨_, (1), (by first | rfl | (simp; done) | (simp [*]; done)), H', ⟨by have := HJ3.out; first | omega | exact Nat.le_refl _⟩, ⟨(zkq BK470)⟩, ⟨zaB⟩⟩
      ·rw [if_neg c10] at H
       have c10b0 : (a2 == 2) = false := beq_eq_false_iff_ne.mpr c10
       have c10b1 : (a2 != 2) = true := bne_iff_ne.mpr c10
       (first | rw [c10b0] | (simp only [i64_w, i32_w]; rw [c10b0]) | skip)
       have H' := Aside0.mk H
       clear H
       go_wp2
       go_meet
       case rel => exact ⟨_, (a2), (by first | rfl | (simp; done) | (simp [*]; done)), H', ⟨by have := HJ3.out; first | omega | exact Nat.le_refl _⟩, ⟨(zkq BK470)⟩, ⟨zaB⟩⟩
     ·replace c9 := Bool.eq_false_iff.mpr c9
      subst c9
      have H1 : (flyballref05_Signed.j1 kj3 false a2 l1_0 l1_1 a1_2 a1_3) = some (r1, r2) := by rw [if_neg (show ¬ (false = true) by decide)] at H; exact H
      clear H
      have H := H1
      clear H1
      have H' := Aside0.mk H
      clear H
      go_wp2
      go_meet
      case rel => exact ⟨_, (a2), (by first | rfl | (simp; done) | (simp [*]; done)), H', ⟨by have := HJ3.out; first | omega | exact Nat.le_refl _⟩, ⟨(zkq BK470)⟩, ⟨zaB⟩⟩
   case rest =>
    clear HC7
    try clear c1
    try clear p2
    try clear c6
    try clear c8
    try clear c9
    try clear c10
    try clear c10b0
    try clear c10b1
    try clear p2
    obtain ⟨kq, x8_6, rfl, HA, HJ6, BK470, HB⟩ := hcut
    cases kq with
    | zero => exact absurd HA.out (by simp [flyballref05_Signed.j1])
    | succ kj6 =>
     have H := HA.out
     clear HA
     simp only [flyballref05_Signed.j1] at H
     obtain ⟨⟨t471, t472⟩, A11, H⟩ := zbs H
     try dsimp only at H
     by_cases c12 : a0 = true
     ·subst c12
      have H1 : ((flyballref04_Of.f kj6 (wrap64 (-t471)) true).bind fun t473 => (some (t473, t472))) = some (r1, r2) := by rw [if_pos rfl] at H; exact H
      clear H
      have H := H1
      clear H1
      obtain ⟨t473, A13, H⟩ := zbs H
      try dsimp only at H
      simp only [Option.some.injEq, Prod.mk.injEq] at H
      obtain ⟨rfl, rfl⟩ := H
      have hcz14_0 := zc0 BK470
      have hcz14_1 := zc1 BK470
      have hcz14_2 := zc2 BK470
      have hcz14_3 := zc3 BK470
      have hfz14_0 := blk_frozen BK470.out 0
      have hfz14_1 := blk_frozen BK470.out 1
      have hfz14_2 := blk_frozen BK470.out 2
      have hfz14_3 := blk_frozen BK470.out 3
      go_wp2_with (first | ((with_reducible refine gate_callee (f := 163) rfl ?_); refine goesL_ (some 25) rfl rfl Try.func163 (by kernel_rfl) rfl #[.agg #[.slice A1_0 l1_0.length c1_0, .slice A1_1 l1_1.length c1_1, .int .i64 a1_2, .bool a1_3], .int .u8 x8_6] rfl (by (try simp only [List.map_toArray, List.map_cons, List.map_nil]); first | done | rfl | (simp only [List.length_drop, List.length_take]; rfl)) ?_; (with_reducible refine (flyballref05_Magnitude.calls kj6 _ _ l1_0 _ _ l1_1 a1_2 a1_3 x8_6 t471 t472 _ ?side1 ?side2 ?side3 ?side4 A11.out).mono ?_); (case side1 => repeat (first | exact (Kd.C_below HR1_0.out HB.out) | (with_reducible refine Kd.C_alloc ?_ _) | (with_reducible refine Kd.C_drewN ?_ _) | (with_reducible refine Kd.C_drew ?_))); (case side2 => exact HC1_0.out); (case side3 => repeat (first | exact (Kd.C_below HR1_1.out HB.out) | (with_reducible refine Kd.C_alloc ?_ _) | (with_reducible refine Kd.C_drewN ?_ _) | (with_reducible refine Kd.C_drew ?_))); (case side4 => exact HC1_1.out); rintro e w15 ⟨rfl, hb⟩; refine ⟨_, rfl, ?_⟩; replace BK470 := zkb BK470 hb; replace HB := zkB HB hb; (try clear hb)) | ((with_reducible refine gate_callee (f := 158) rfl ?_); refine zgL 31 Try.func158 (flyballref04_Of.calls kj6 (wrap64 (-t471)) true t473 _ A13.out) (h := ?_); rintro w' ⟨nd, rfl⟩))
      go_ret2
      exact ⟨zaE, zaB⟩
     ·replace c12 := Bool.eq_false_iff.mpr c12
      subst c12
      have H1 : ((flyballref04_Of.f kj6 t471 false).bind fun t474 => (some (t474, t472))) = some (r1, r2) := by rw [if_neg (show ¬ (false = true) by decide)] at H; exact H
      clear H
      have H := H1
      clear H1
      obtain ⟨t474, A16, H⟩ := zbs H
      try dsimp only at H
      simp only [Option.some.injEq, Prod.mk.injEq] at H
      obtain ⟨rfl, rfl⟩ := H
      have hcz17_0 := zc0 BK470
      have hcz17_1 := zc1 BK470
      have hcz17_2 := zc2 BK470
      have hcz17_3 := zc3 BK470
      have hfz17_0 := blk_frozen BK470.out 0
      have hfz17_1 := blk_frozen BK470.out 1
      have hfz17_2 := blk_frozen BK470.out 2
      have hfz17_3 := blk_frozen BK470.out 3
      go_wp2_with (first | ((with_reducible refine gate_callee (f := 163) rfl ?_); refine goesL_ (some 25) rfl rfl Try.func163 (by kernel_rfl) rfl #[.agg #[.slice A1_0 l1_0.length c1_0, .slice A1_1 l1_1.length c1_1, .int .i64 a1_2, .bool a1_3], .int .u8 x8_6] rfl (by (try simp only [List.map_toArray, List.map_cons, List.map_nil]); first | done | rfl | (simp only [List.length_drop, List.length_take]; rfl)) ?_; (with_reducible refine (flyballref05_Magnitude.calls kj6 _ _ l1_0 _ _ l1_1 a1_2 a1_3 x8_6 t471 t472 _ ?side1 ?side2 ?side3 ?side4 A11.out).mono ?_); (case side1 => repeat (first | exact (Kd.C_below HR1_0.out HB.out) | (with_reducible refine Kd.C_alloc ?_ _) | (with_reducible refine Kd.C_drewN ?_ _) | (with_reducible refine Kd.C_drew ?_))); (case side2 => exact HC1_0.out); (case side3 => repeat (first | exact (Kd.C_below HR1_1.out HB.out) | (with_reducible refine Kd.C_alloc ?_ _) | (with_reducible refine Kd.C_drewN ?_ _) | (with_reducible refine Kd.C_drew ?_))); (case side4 => exact HC1_1.out); rintro e w18 ⟨rfl, hb⟩; refine ⟨_, rfl, ?_⟩; replace BK470 := zkb BK470 hb; replace HB := zkB HB hb; (try clear hb)) | ((with_reducible refine gate_callee (f := 158) rfl ?_); refine zgL 34 Try.func158 (flyballref04_Of.calls kj6 t471 false t474 _ A16.out) (h := ?_); rintro w' ⟨nd, rfl⟩))
      go_ret2
      exact ⟨zaE, zaB⟩
end Go.Proofs.Ytmadjhmecfbcmaa.F
end
section
namespace Go.Proofs.Ytmadjhmecfbcmaa.F
open Go.RowKit Go.Proofs.YtmadjhmecfbcmaaW.PrintWords Go.Proofs.YtmadjhmecfbcmaaW.PrintLast Go.Proofs.YtmadjhmecfbcmaaW.PrintMore
attribute [local go_sem] max2_int min2_int max_two min_two max_three min_three max_four min_four
set_option linter.unusedVariables false
set_option linter.unusedSimpArgs false
set_option maxHeartbeats 8000000 in
set_option maxRecDepth 100000 in
theorem flyballref05_Round.calls (k : Nat) (a0 : Bool) (A1 : Option Addr) (c1 : Nat) (l1 : List Bool) (a2 : Int) (a3 : Bool) (a4 : Int) (r1 : Int) (r2 : Int) (w : World) (hr1 : Kd.C Kd.bool w A1 l1.length l1) (hc1 : l1.length ≤ c1) (h : flyballref05_Round.f k a0 l1 a2 a3 a4 = some (r1, r2)) :
  Calls Try.prog 97 #[.bool a0, .slice A1 l1.length c1, .int .i64 a2, .bool a3, .int .u8 a4] w fun e w' => e = .returned (.tuple #[.int .u64 r1, .int .u8 r2]) ∧ Below w.heap.size w w' := by
 have hu115 := Try.underlying115
 have HR1 := Aside0.mk hr1
 have HC1 := Aside0.mk hc1
 clear hr1 hc1
 have HB := Aside0.mk (Below.refl w.heap.size w)
 have H : ((flyballref01_Len.f k l1).bind fun t475 => (if t475 = 0 then ((flyballref04_Of.f k 0 a0).bind fun t476 => (some (t476, 0))) else (if 0 ≤ t475 then (if t475 ≤ (l1.length : Int) then ((some (([true] : List Bool) : List Bool)).bind fun y478 => (if a3 = true then ((flyballref05_Signed.f k a0 (l1.take (t475 : Int).toNat) y478 (mn (mx a2 (-5000)) 5000) (decide (t475 ≥ 54)) a4).bind fun bt481 => (some (bt481.1, bt481.2))) else ((flyballref05_Signed.f k a0 (l1.take (t475 : Int).toNat) y478 (mn (mx a2 (-5000)) 5000) false a4).bind fun bt483 => (some (bt483.1, bt483.2))))) else (none)) else (none)))) = some (r1, r2) := h
 clear h
 obtain ⟨t475, A6, H⟩ := zbs H
 try dsimp only at H
 by_cases c7 : t475 = 0
 ·rw [if_pos c7] at H
  have c7b0 : (t475 == 0) = true := beq_iff_eq.mpr c7
  have c7b1 : (t475 != 0) = false := bne_eq_false_iff_eq.mpr c7
  clear c7
  obtain ⟨t476, A8, H⟩ := zbs H
  try dsimp only at H
  simp only [Option.some.injEq, Prod.mk.injEq] at H
  obtain ⟨rfl, rfl⟩ := H
  go_enter Try.func97, Try.ntmps97
  go_wp2_with (first | ((with_reducible refine gate_callee (f := 95) rfl ?_); refine goesL_ (some 14) rfl rfl Try.func95 (by kernel_rfl) rfl #[.slice A1 l1.length c1] rfl (by (try simp only [List.map_toArray, List.map_cons, List.map_nil]); first | done | rfl | (simp only [List.length_drop, List.length_take]; rfl)) ?_; (with_reducible refine (flyballref01_Len.calls k _ _ l1 t475 _ ?side1 ?side2 A6.out).mono ?_); (case side1 => repeat (first | exact HR1.out | (with_reducible refine Kd.C_alloc ?_ _) | (with_reducible refine Kd.C_drewN ?_ _) | (with_reducible refine Kd.C_drew ?_))); (case side2 => exact HC1.out); rintro e w' ⟨rfl, ⟨nd, rfl⟩⟩; refine ⟨_, rfl, ?_⟩) | ((with_reducible refine gate_callee (f := 158) rfl ?_); refine zgL 18 Try.func158 (flyballref04_Of.calls k 0 a0 t476 _ A8.out) (h := ?_); rintro w' ⟨nd, rfl⟩))
  go_ret2
  exact ⟨zaE, zaB⟩
 ·rw [if_neg c7] at H
  have c7b0 : (t475 == 0) = false := beq_eq_false_iff_ne.mpr c7
  have c7b1 : (t475 != 0) = true := bne_iff_ne.mpr c7
  by_cases c9 : 0 ≤ t475
  ·rw [if_pos c9] at H
   have c9b0 := eq_true c9
   have c9b1 : decide (0 ≤ t475) = true := decide_eq_true c9
   clear c9
   by_cases c10 : t475 ≤ (l1.length : Int)
   ·rw [if_pos c10] at H
    have c10b0 := eq_true c10
    have c10b1 : decide (t475 ≤ (l1.length : Int)) = true := decide_eq_true c10
    clear c10
    obtain ⟨y478, hy478⟩ : ∃ y_ : List Bool, y_ = (([true] : List Bool)) := ⟨_, rfl⟩
    replace H : (if a3 = true then ((flyballref05_Signed.f k a0 (l1.take (t475 : Int).toNat) y478 (mn (mx a2 (-5000)) 5000) (decide (t475 ≥ 54)) a4).bind fun bt481 => (some (bt481.1, bt481.2))) else ((flyballref05_Signed.f k a0 (l1.take (t475 : Int).toNat) y478 (mn (mx a2 (-5000)) 5000) false a4).bind fun bt483 => (some (bt483.1, bt483.2)))) = some (r1, r2) := by first | (rw [hy478]; with_reducible exact H) | (have H2_ := (Option.bind_some _ _).symm.trans H; rw [hy478]; with_reducible exact H2_) | (have H2_ := (Option.bind_some _ _).symm.trans H; with_reducible exact H2_) | with_reducible exact H | (rw [hy478]; exact H) | exact H
    have Ny478 := Aside0.mk hy478
    clear hy478
    obtain ⟨ji11, hji11⟩ : ∃ j_ : Int, (mx a2 (-5000)) = j_ := ⟨_, rfl⟩
    replace H : (if a3 = true then ((flyballref05_Signed.f k a0 (l1.take (t475 : Int).toNat) y478 (mn (ji11) 5000) (decide (t475 ≥ 54)) a4).bind fun bt481 => (some (bt481.1, bt481.2))) else ((flyballref05_Signed.f k a0 (l1.take (t475 : Int).toNat) y478 (mn (ji11) 5000) false a4).bind fun bt483 => (some (bt483.1, bt483.2)))) = some (r1, r2) := by first | (rw [hji11] at H; exact H) | (simp only [hji11] at H ⊢; exact H)
    (try rw [hji11] at A6)
    have hji11_ : (if a2 < (-5000) then (-5000) else a2) = ji11 := hji11
    (try (have hji11n := hji11_; simp only [Int.ofNat_lt] at hji11n))
    obtain ⟨ji12, hji12⟩ : ∃ j_ : Int, (mn (ji11) 5000) = j_ := ⟨_, rfl⟩
    replace H : (if a3 = true then ((flyballref05_Signed.f k a0 (l1.take (t475 : Int).toNat) y478 (ji12) (decide (t475 ≥ 54)) a4).bind fun bt481 => (some (bt481.1, bt481.2))) else ((flyballref05_Signed.f k a0 (l1.take (t475 : Int).toNat) y478 (ji12) false a4).bind fun bt483 => (some (bt483.1, bt483.2)))) = some (r1, r2) := by first | (rw [hji12] at H; exact H) | (simp only [hji12] at H ⊢; exact H)
    (try rw [hji12] at A6)
    have hji12_ : (if 5000 < (ji11) then 5000 else (ji11)) = ji12 := hji12
    (try (have hji12n := hji12_; simp only [Int.ofNat_lt] at hji12n))
    by_cases c13 : a3 = true
    ·subst c13
     have H1 : ((flyballref05_Signed.f k a0 (l1.take (t475 : Int).toNat) y478 (ji12) (decide (t475 ≥ 54)) a4).bind fun bt481 => (some (bt481.1, bt481.2))) = some (r1, r2) := by rw [if_pos rfl] at H; exact H
     clear H
     have H := H1
     clear H1
     obtain ⟨⟨t481, t482⟩, A14, H⟩ := zbs H
     try dsimp only at H
     simp only [Option.some.injEq, Prod.mk.injEq] at H
     obtain ⟨rfl, rfl⟩ := H
     go_enter Try.func97, Try.ntmps97
     go_wp2_with (first | ((with_reducible refine gate_callee (f := 95) rfl ?_); refine goesL_ (some 14) rfl rfl Try.func95 (by kernel_rfl) rfl #[.slice A1 l1.length c1] rfl (by (try simp only [List.map_toArray, List.map_cons, List.map_nil]); first | done | rfl | (simp only [List.length_drop, List.length_take]; rfl)) ?_; (with_reducible refine (flyballref01_Len.calls k _ _ l1 t475 _ ?side1 ?side2 A6.out).mono ?_); (case side1 => repeat (first | exact HR1.out | (with_reducible refine Kd.C_alloc ?_ _) | (with_reducible refine Kd.C_drewN ?_ _) | (with_reducible refine Kd.C_drew ?_))); (case side2 => exact HC1.out); rintro e w' ⟨rfl, ⟨nd, rfl⟩⟩; refine ⟨_, rfl, ?_⟩; obtain ⟨i015, hi015, _, hsz15, _⟩ := info_parts info4; obtain ⟨hcut15, hA15, hC15⟩ := print_take_of (P := Try.prog) Value.bool false 96 4 .i64 Try.underlying96 hi015 hsz15 A1 c1 l1 t475 (of_decide_eq_true (by first | (with_reducible assumption) | assumption)) (of_decide_eq_true (by first | (with_reducible assumption) | assumption)) HC1.out; have HR477 := Aside0.mk (Kd.C_of_reads (h1 := fun _ => rfl) (hA15 _ (Kd.reads_of_C HR1.out))); have HC477 := Aside0.mk hC15; clear hA15 hC15 hi015 hsz15) | ((with_reducible refine gate_dst (N := 23) rfl ?_); refine Kd.R_lit Kd.bool _ 4 ?hg (N := 23) ?hd (xs := ([true] : List Bool)) (inner := [.bool true]) (ok := fun _ => True) (okp := fun _ => True) ?hr ?hp (fun _ hk => hk) trivial (Below.refl _ _) (Nat.le_refl _) (by simp) ?_; (case hd => rfl); (case hg => rfl); (case hr => first | (go_simp; done) | (go_simp; rfl)); (case hp => exact (Reps.one (show Kd.M Kd.bool _ _ _ true [.bool true] from rfl) (Reps.none _ _))); intro v479 w16 ho17 hb hg_ hnew_; clear hg_ hnew_; (first | rw [← Ny478.out] at ho17 | (simp only [Int.reduceToNat] at ho17; rw [← Ny478.out] at ho17)); have HO480 := Aside0.mk (Kd.R_lower ho17 (below_size zaB)); replace HB := Aside0.mk (below_step zaB hb); clear hb ho17; obtain ⟨Ao18, co18, eo18⟩ := Kd.R_slice HO480.out; subst eo18) | ((with_reducible refine gate_callee (f := 105) rfl ?_); refine goesL_ (some 34) rfl rfl Try.func105 (by kernel_rfl) rfl #[.bool a0, .agg #[.slice A1 (l1.take (t475 : Int).toNat).length c1, .slice Ao18 y478.length co18, .int .i64 ji12, .bool (decide (t475 ≥ 54))], .int .u8 a4] rfl (by (try simp only [List.map_toArray, List.map_cons, List.map_nil]); first | done | (rw [show (l1.take (t475 : Int).toNat).length = t475.toNat from (by rw [List.length_take]; have h_ : (t475 : Int) ≤ (l1.length : Int) := of_decide_eq_true (by first | (with_reducible assumption) | assumption); omega)] <;> rfl) | (simp only [hji12]; rfl) | rfl | (simp only [List.length_drop, List.length_take]; rfl)) ?_; (with_reducible refine (flyballref05_Signed.calls k a0 _ _ (l1.take (t475 : Int).toNat) _ _ y478 ji12 (decide (t475 ≥ 54)) a4 t481 t482 _ ?side1 ?side2 ?side3 ?side4 A14.out).mono ?_); (case side1 => repeat (first | exact (Kd.C_below HR477.out HB.out) | (with_reducible refine Kd.C_alloc ?_ _) | (with_reducible refine Kd.C_drewN ?_ _) | (with_reducible refine Kd.C_drew ?_))); (case side2 => exact HC477.out); (case side3 => repeat (first | exact (Kd.R_reads' HO480.out).2.2 | (with_reducible refine Kd.C_alloc ?_ _) | (with_reducible refine Kd.C_drewN ?_ _) | (with_reducible refine Kd.C_drew ?_))); (case side4 => exact (Kd.R_reads' HO480.out).2.1); rintro e w19 ⟨rfl, hb⟩; refine ⟨_, rfl, ?_⟩; replace HO480 := Aside0.mk (Kd.R_below (by (with_reducible repeat (first | apply Kd.R_alloc | apply Kd.R_drewN | apply Kd.R_drew)); exact HO480.out) hb); replace HB := Aside0.mk (below_step zaB hb); (try clear hb)))
     go_ret2
     exact ⟨by first | rfl | (simp [errW_none, errW_some] <;> rfl) | (simp only [← hji11, ← hji12]; first | rfl | (simp [errW_none, errW_some] <;> rfl)) | (simp [*, errW_none, errW_some] <;> rfl), zaB⟩
    ·replace c13 := Bool.eq_false_iff.mpr c13
     subst c13
     have H1 : ((flyballref05_Signed.f k a0 (l1.take (t475 : Int).toNat) y478 (ji12) false a4).bind fun bt483 => (some (bt483.1, bt483.2))) = some (r1, r2) := by rw [if_neg (show ¬ (false = true) by decide)] at H; exact H
     clear H
     have H := H1
     clear H1
     obtain ⟨⟨t483, t484⟩, A20, H⟩ := zbs H
     try dsimp only at H
     simp only [Option.some.injEq, Prod.mk.injEq] at H
     obtain ⟨rfl, rfl⟩ := H
     go_enter Try.func97, Try.ntmps97
     go_wp2_with (first | ((with_reducible refine gate_callee (f := 95) rfl ?_); refine goesL_ (some 14) rfl rfl Try.func95 (by kernel_rfl) rfl #[.slice A1 l1.length c1] rfl (by (try simp only [List.map_toArray, List.map_cons, List.map_nil]); first | done | rfl | (simp only [List.length_drop, List.length_take]; rfl)) ?_; (with_reducible refine (flyballref01_Len.calls k _ _ l1 t475 _ ?side1 ?side2 A6.out).mono ?_); (case side1 => repeat (first | exact HR1.out | (with_reducible refine Kd.C_alloc ?_ _) | (with_reducible refine Kd.C_drewN ?_ _) | (with_reducible refine Kd.C_drew ?_))); (case side2 => exact HC1.out); rintro e w' ⟨rfl, ⟨nd, rfl⟩⟩; refine ⟨_, rfl, ?_⟩; obtain ⟨i021, hi021, _, hsz21, _⟩ := info_parts info4; obtain ⟨hcut21, hA21, hC21⟩ := print_take_of (P := Try.prog) Value.bool false 96 4 .i64 Try.underlying96 hi021 hsz21 A1 c1 l1 t475 (of_decide_eq_true (by first | (with_reducible assumption) | assumption)) (of_decide_eq_true (by first | (with_reducible assumption) | assumption)) HC1.out; have HR477 := Aside0.mk (Kd.C_of_reads (h1 := fun _ => rfl) (hA21 _ (Kd.reads_of_C HR1.out))); have HC477 := Aside0.mk hC21; clear hA21 hC21 hi021 hsz21) | ((with_reducible refine gate_dst (N := 23) rfl ?_); refine Kd.R_lit Kd.bool _ 4 ?hg (N := 23) ?hd (xs := ([true] : List Bool)) (inner := [.bool true]) (ok := fun _ => True) (okp := fun _ => True) ?hr ?hp (fun _ hk => hk) trivial (Below.refl _ _) (Nat.le_refl _) (by simp) ?_; (case hd => rfl); (case hg => rfl); (case hr => first | (go_simp; done) | (go_simp; rfl)); (case hp => exact (Reps.one (show Kd.M Kd.bool _ _ _ true [.bool true] from rfl) (Reps.none _ _))); intro v479 w22 ho23 hb hg_ hnew_; clear hg_ hnew_; (first | rw [← Ny478.out] at ho23 | (simp only [Int.reduceToNat] at ho23; rw [← Ny478.out] at ho23)); have HO480 := Aside0.mk (Kd.R_lower ho23 (below_size zaB)); replace HB := Aside0.mk (below_step zaB hb); clear hb ho23; obtain ⟨Ao24, co24, eo24⟩ := Kd.R_slice HO480.out; subst eo24) | ((with_reducible refine gate_callee (f := 105) rfl ?_); refine goesL_ (some 34) rfl rfl Try.func105 (by kernel_rfl) rfl #[.bool a0, .agg #[.slice A1 (l1.take (t475 : Int).toNat).length c1, .slice Ao24 y478.length co24, .int .i64 ji12, .bool false], .int .u8 a4] rfl (by (try simp only [List.map_toArray, List.map_cons, List.map_nil]); first | done | (rw [show (l1.take (t475 : Int).toNat).length = t475.toNat from (by rw [List.length_take]; have h_ : (t475 : Int) ≤ (l1.length : Int) := of_decide_eq_true (by first | (with_reducible assumption) | assumption); omega)] <;> rfl) | (simp only [hji12]; rfl) | rfl | (simp only [List.length_drop, List.length_take]; rfl)) ?_; (with_reducible refine (flyballref05_Signed.calls k a0 _ _ (l1.take (t475 : Int).toNat) _ _ y478 ji12 false a4 t483 t484 _ ?side1 ?side2 ?side3 ?side4 A20.out).mono ?_); (case side1 => repeat (first | exact (Kd.C_below HR477.out HB.out) | (with_reducible refine Kd.C_alloc ?_ _) | (with_reducible refine Kd.C_drewN ?_ _) | (with_reducible refine Kd.C_drew ?_))); (case side2 => exact HC477.out); (case side3 => repeat (first | exact (Kd.R_reads' HO480.out).2.2 | (with_reducible refine Kd.C_alloc ?_ _) | (with_reducible refine Kd.C_drewN ?_ _) | (with_reducible refine Kd.C_drew ?_))); (case side4 => exact (Kd.R_reads' HO480.out).2.1); rintro e w25 ⟨rfl, hb⟩; refine ⟨_, rfl, ?_⟩; replace HO480 := Aside0.mk (Kd.R_below (by (with_reducible repeat (first | apply Kd.R_alloc | apply Kd.R_drewN | apply Kd.R_drew)); exact HO480.out) hb); replace HB := Aside0.mk (below_step zaB hb); (try clear hb)))
     go_ret2
     exact ⟨by first | rfl | (simp [errW_none, errW_some] <;> rfl) | (simp only [← hji11, ← hji12]; first | rfl | (simp [errW_none, errW_some] <;> rfl)) | (simp [*, errW_none, errW_some] <;> rfl), zaB⟩
   ·rw [if_neg c10] at H
    exact absurd H (by simp)
  ·rw [if_neg c9] at H
   exact absurd H (by simp)
end Go.Proofs.Ytmadjhmecfbcmaa.F
end
section
namespace Go.Proofs.Ytmadjhmecfbcmaa.F
open Go.RowKit Go.Proofs.YtmadjhmecfbcmaaW.PrintWords Go.Proofs.YtmadjhmecfbcmaaW.PrintLast Go.Proofs.YtmadjhmecfbcmaaW.PrintMore
attribute [local go_sem] max2_int min2_int max_two min_two max_three min_three max_four min_four
set_option linter.unusedVariables false
set_option linter.unusedSimpArgs false
set_option maxHeartbeats 8000000 in
set_option maxRecDepth 100000 in
theorem flyballref06_Add.calls (k : Nat) (a0 : Int) (a1 : Int) (a2 : Int) (r1 : Int) (r2 : Int) (w : World) (h : flyballref06_Add.f k a0 a1 a2 = some (r1, r2)) :
  Calls Try.prog 22 #[.int .u64 a0, .int .u64 a1, .int .u8 a2] w fun e w' => e = .returned (.tuple #[.int .u64 r1, .int .u8 r2]) ∧ Below w.heap.size w w' := by
 have HB := Aside0.mk (Below.refl w.heap.size w)
 have H : ((flyballref06_is.f k a0 4).bind fun t485 => (if t485 = true then (flyballref06_Add.j0 k a0 a1 a2 true) else ((flyballref06_is.f k a1 4).bind fun t486 => (flyballref06_Add.j0 k a0 a1 a2 t486)))) = some (r1, r2) := h
 clear h
 have HC4 := Aside0.mk H
 clear H
 go_enter Try.func22, Try.ntmps22
 go_upto_region 1 with (fail)
 go_cut [22] (fun v22 wc => ∃ (kq : Nat) (x22_3 : Bool), v22 = .bool x22_3 ∧ Aside0 (flyballref06_Add.j0 kq a0 a1 a2 x22_3 = some (r1, r2)) ∧ Aside0 (kq ≤ k) ∧ Aside0 (Below w.heap.size w wc))
 case first =>
  have H := HC4.out
  clear HC4
  obtain ⟨t485, A5, H⟩ := zbs H
  try dsimp only at H
  by_cases c6 : t485 = true
  ·subst c6
   have H1 : (flyballref06_Add.j0 k a0 a1 a2 true) = some (r1, r2) := by rw [if_pos rfl] at H; exact H
   clear H
   have H := H1
   clear H1
   have H' := Aside0.mk H
   clear H
   go_wp2_with (first | ((with_reducible refine gate_callee (f := 87) rfl ?_); refine zgL 18 Try.func87 (flyballref06_is.calls k a0 4 true _ A5.out) (h := ?_); rintro w' ⟨nd, rfl⟩))
   go_meet
   case rel => exact ⟨_, (true), (by first | rfl | (simp; done) | (simp [*]; done)), H', ⟨by first | omega | exact Nat.le_refl _⟩, ⟨zaB⟩⟩
  ·replace c6 := Bool.eq_false_iff.mpr c6
   subst c6
   have H1 : ((flyballref06_is.f k a1 4).bind fun t486 => (flyballref06_Add.j0 k a0 a1 a2 t486)) = some (r1, r2) := by rw [if_neg (show ¬ (false = true) by decide)] at H; exact H
   clear H
   have H := H1
   clear H1
   obtain ⟨t486, A7, H⟩ := zbs H
   try dsimp only at H
   have H' := Aside0.mk H
   clear H
   go_wp2_with (first | ((with_reducible refine gate_callee (f := 87) rfl ?_); refine zgL 18 Try.func87 (flyballref06_is.calls k a0 4 false _ A5.out) (h := ?_); rintro w' ⟨nd, rfl⟩) | (go_at_call 87; (with_reducible refine (flyballref06_is.calls k a1 4 t486 _ A7.out).mono ?_); rintro e w' ⟨rfl, ⟨nd, rfl⟩⟩))
   go_meet
   case rel => exact ⟨_, (t486), (by first | rfl | (simp; done) | (simp [*]; done)), H', ⟨by first | omega | exact Nat.le_refl _⟩, ⟨zaB⟩⟩
 case rest =>
  clear HC4
  try clear c2
  try clear p2
  try clear c6
  obtain ⟨kq, x22_3, rfl, HA, HJ3, HB⟩ := hcut
  cases kq with
  | zero => exact absurd HA.out (by simp [flyballref06_Add.j0])
  | succ kj3 =>
   have H := HA.out
   clear HA
   simp only [flyballref06_Add.j0] at H
   by_cases c8 : x22_3 = true
   ·subst c8
    have H1 : (some (9221120237041090560, 0)) = some (r1, r2) := by rw [if_pos rfl] at H; exact H
    clear H
    have H := H1
    clear H1
    simp only [Option.some.injEq, Prod.mk.injEq] at H
    obtain ⟨rfl, rfl⟩ := H
    go_wp2
    go_ret2
    exact ⟨zaE, zaB⟩
   ·replace c8 := Bool.eq_false_iff.mpr c8
    subst c8
    have H1 : ((flyballref06_is.f kj3 a0 3).bind fun t487 => (if t487 = true then ((flyballref06_is.f kj3 a1 3).bind fun t488 => (if t488 = true then ((flyballref06_neg.f a0).bind fun t489 => ((flyballref06_neg.f a1).bind fun t490 => (flyballref06_Add.j1 kj3 a0 a1 a2 (t489 != t490)))) else (flyballref06_Add.j1 kj3 a0 a1 a2 false))) else (flyballref06_Add.j1 kj3 a0 a1 a2 false))) = some (r1, r2) := by rw [if_neg (show ¬ (false = true) by decide)] at H; exact H
    clear H
    have H := H1
    clear H1
    have HC9 := Aside0.mk H
    clear H
    go_upto_region 3 with (fail)
    go_cut [35] (fun v35 wc => ∃ (kq : Nat) (x35_8 : Bool), v35 = .bool x35_8 ∧ Aside0 (flyballref06_Add.j1 kq a0 a1 a2 x35_8 = some (r1, r2)) ∧ Aside0 (kq ≤ kj3) ∧ Aside0 (Below w.heap.size w wc))
    case first =>
     have H := HC9.out
     clear HC9
     obtain ⟨t487, A10, H⟩ := zbs H
     try dsimp only at H
     by_cases c11 : t487 = true
     ·subst c11
      have H1 : ((flyballref06_is.f kj3 a1 3).bind fun t488 => (if t488 = true then ((flyballref06_neg.f a0).bind fun t489 => ((flyballref06_neg.f a1).bind fun t490 => (flyballref06_Add.j1 kj3 a0 a1 a2 (t489 != t490)))) else (flyballref06_Add.j1 kj3 a0 a1 a2 false))) = some (r1, r2) := by rw [if_pos rfl] at H; exact H
      clear H
      have H := H1
      clear H1
      obtain ⟨t488, A12, H⟩ := zbs H
      try dsimp only at H
      by_cases c13 : t488 = true
      ·subst c13
       have H1 : ((flyballref06_neg.f a0).bind fun t489 => ((flyballref06_neg.f a1).bind fun t490 => (flyballref06_Add.j1 kj3 a0 a1 a2 (t489 != t490)))) = some (r1, r2) := by rw [if_pos rfl] at H; exact H
       clear H
       have H := H1
       clear H1
       obtain ⟨t489, A14, H⟩ := zbs H
       try dsimp only at H
       obtain ⟨t490, A15, H⟩ := zbs H
       try dsimp only at H
       have H' := Aside0.mk H
       clear H
       go_wp2_with (first | ((with_reducible refine gate_callee (f := 87) rfl ?_); refine zgL 24 Try.func87 (flyballref06_is.calls kj3 a0 3 true _ A10.out) (h := ?_); rintro w' ⟨nd, rfl⟩) | (go_at_call 87; (with_reducible refine (flyballref06_is.calls kj3 a1 3 true _ A12.out).mono ?_); rintro e w' ⟨rfl, ⟨nd, rfl⟩⟩) | (go_at_call 88; (with_reducible refine (flyballref06_neg.calls a0 t489 _ A14.out).mono ?_); rintro e w' ⟨rfl, ⟨nd, rfl⟩⟩) | (go_at_call 88; (with_reducible refine (flyballref06_neg.calls a1 t490 _ A15.out).mono ?_); rintro e w' ⟨rfl, ⟨nd, rfl⟩⟩))
       go_meet
       case rel => exact ⟨_, ((t489 != t490)), (by first | rfl | (simp; done) | (simp [*]; done)), H', ⟨by have := HJ3.out; first | omega | exact Nat.le_refl _⟩, ⟨zaB⟩⟩
      ·replace c13 := Bool.eq_false_iff.mpr c13
       subst c13
       have H1 : (flyballref06_Add.j1 kj3 a0 a1 a2 false) = some (r1, r2) := by rw [if_neg (show ¬ (false = true) by decide)] at H; exact H
       clear H
       have H := H1
       clear H1
       have H' := Aside0.mk H
       clear H
       go_wp2_with (first | ((with_reducible refine gate_callee (f := 87) rfl ?_); refine zgL 24 Try.func87 (flyballref06_is.calls kj3 a0 3 true _ A10.out) (h := ?_); rintro w' ⟨nd, rfl⟩) | (go_at_call 87; (with_reducible refine (flyballref06_is.calls kj3 a1 3 false _ A12.out).mono ?_); rintro e w' ⟨rfl, ⟨nd, rfl⟩⟩))
       go_meet
       case rel => exact ⟨_, (false), (by first | rfl | (simp; done) | (simp [*]; done)), H', ⟨by have := HJ3.out; first | omega | exact Nat.le_refl _⟩, ⟨zaB⟩⟩
     ·replace c11 := Bool.eq_false_iff.mpr c11
      subst c11
      have H1 : (flyballref06_Add.j1 kj3 a0 a1 a2 false) = some (r1, r2) := by rw [if_neg (show ¬ (false = true) by decide)] at H; exact H
      clear H
      have H := H1
      clear H1
      have H' := Aside0.mk H
      clear H
      go_wp2_with (first | ((with_reducible refine gate_callee (f := 87) rfl ?_); refine zgL 24 Try.func87 (flyballref06_is.calls kj3 a0 3 false _ A10.out) (h := ?_); rintro w' ⟨nd, rfl⟩))
      go_meet
      case rel => exact ⟨_, (false), (by first | rfl | (simp; done) | (simp [*]; done)), H', ⟨by have := HJ3.out; first | omega | exact Nat.le_refl _⟩, ⟨zaB⟩⟩
    case rest =>
     clear HC9
     try clear c1
     try clear c2
     try clear p2
     try clear c6
     try clear c8
     try clear c11
     try clear c13
     try clear p2
     obtain ⟨kq, x35_8, rfl, HA, HJ8, HB⟩ := hcut
     cases kq with
     | zero => exact absurd HA.out (by simp [flyballref06_Add.j1])
     | succ kj8 =>
      have H := HA.out
      clear HA
      simp only [flyballref06_Add.j1] at H
      by_cases c16 : x35_8 = true
      ·subst c16
       have H1 : (some (9221120237041090560, 16)) = some (r1, r2) := by rw [if_pos rfl] at H; exact H
       clear H
       have H := H1
       clear H1
       simp only [Option.some.injEq, Prod.mk.injEq] at H
       obtain ⟨rfl, rfl⟩ := H
       go_wp2
       go_ret2
       exact ⟨zaE, zaB⟩
      ·replace c16 := Bool.eq_false_iff.mpr c16
       subst c16
       have H1 : ((flyballref06_is.f kj8 a0 3).bind fun t491 => (if t491 = true then (some (a0, 0)) else ((flyballref06_is.f kj8 a1 3).bind fun t492 => (if t492 = true then (some (a1, 0)) else ((flyballref04_Split.f kj8 a0).bind fun bt493 => ((flyballref04_Split.f kj8 a1).bind fun bt495 => (if bt493.1 = 0 then (flyballref06_Add.j2 kj8 a0 a1 a2 bt493.1 bt495.2 bt495.1 bt495.2) else (flyballref06_Add.j2 kj8 a0 a1 a2 bt493.1 bt493.2 bt495.1 bt495.2)))))))) = some (r1, r2) := by rw [if_neg (show ¬ (false = true) by decide)] at H; exact H
       clear H
       have H := H1
       clear H1
       obtain ⟨t491, A17, H⟩ := zbs H
       try dsimp only at H
       by_cases c18 : t491 = true
       ·subst c18
        have H1 : (some (a0, 0)) = some (r1, r2) := by rw [if_pos rfl] at H; exact H
        clear H
        have H := H1
        clear H1
        simp only [Option.some.injEq, Prod.mk.injEq] at H
        obtain ⟨rfl, rfl⟩ := H
        go_wp2_with (first | ((with_reducible refine gate_callee (f := 87) rfl ?_); refine zgL 37 Try.func87 (flyballref06_is.calls kj8 a0 3 true _ A17.out) (h := ?_); rintro w' ⟨nd, rfl⟩))
        go_ret2
        exact ⟨zaE, zaB⟩
       ·replace c18 := Bool.eq_false_iff.mpr c18
        subst c18
        have H1 : ((flyballref06_is.f kj8 a1 3).bind fun t492 => (if t492 = true then (some (a1, 0)) else ((flyballref04_Split.f kj8 a0).bind fun bt493 => ((flyballref04_Split.f kj8 a1).bind fun bt495 => (if bt493.1 = 0 then (flyballref06_Add.j2 kj8 a0 a1 a2 bt493.1 bt495.2 bt495.1 bt495.2) else (flyballref06_Add.j2 kj8 a0 a1 a2 bt493.1 bt493.2 bt495.1 bt495.2)))))) = some (r1, r2) := by rw [if_neg (show ¬ (false = true) by decide)] at H; exact H
        clear H
        have H := H1
        clear H1
        obtain ⟨t492, A19, H⟩ := zbs H
        try dsimp only at H
        by_cases c20 : t492 = true
        ·subst c20
         have H1 : (some (a1, 0)) = some (r1, r2) := by rw [if_pos rfl] at H; exact H
         clear H
         have H := H1
         clear H1
         simp only [Option.some.injEq, Prod.mk.injEq] at H
         obtain ⟨rfl, rfl⟩ := H
         go_wp2_with (first | ((with_reducible refine gate_callee (f := 87) rfl ?_); refine zgL 37 Try.func87 (flyballref06_is.calls kj8 a0 3 false _ A17.out) (h := ?_); rintro w' ⟨nd, rfl⟩) | ((with_reducible refine gate_callee (f := 87) rfl ?_); refine zgL 40 Try.func87 (flyballref06_is.calls kj8 a1 3 true _ A19.out) (h := ?_); rintro w' ⟨nd, rfl⟩))
         go_ret2
         exact ⟨zaE, zaB⟩
        ·replace c20 := Bool.eq_false_iff.mpr c20
         subst c20
         have H1 : ((flyballref04_Split.f kj8 a0).bind fun bt493 => ((flyballref04_Split.f kj8 a1).bind fun bt495 => (if bt493.1 = 0 then (flyballref06_Add.j2 kj8 a0 a1 a2 bt493.1 bt495.2 bt495.1 bt495.2) else (flyballref06_Add.j2 kj8 a0 a1 a2 bt493.1 bt493.2 bt495.1 bt495.2)))) = some (r1, r2) := by rw [if_neg (show ¬ (false = true) by decide)] at H; exact H
         clear H
         have H := H1
         clear H1
         obtain ⟨⟨t493, t494⟩, A21, H⟩ := zbs H
         try dsimp only at H
         obtain ⟨⟨t495, t496⟩, A22, H⟩ := zbs H
         try dsimp only at H
         have HC23 := Aside0.mk H
         clear H
         go_upto_if 53 with (first | ((with_reducible refine gate_callee (f := 87) rfl ?_); refine zgL 37 Try.func87 (flyballref06_is.calls kj8 a0 3 false _ A17.out) (h := ?_); rintro w' ⟨nd, rfl⟩) | ((with_reducible refine gate_callee (f := 87) rfl ?_); refine zgL 40 Try.func87 (flyballref06_is.calls kj8 a1 3 false _ A19.out) (h := ?_); rintro w' ⟨nd, rfl⟩) | ((with_reducible refine gate_callee (f := 89) rfl ?_); refine zgL 44 Try.func89 (flyballref04_Split.calls kj8 a0 t493 t494 _ A21.out) (h := ?_); rintro w' ⟨nd, rfl⟩) | ((with_reducible refine gate_callee (f := 89) rfl ?_); refine zgL 49 Try.func89 (flyballref04_Split.calls kj8 a1 t495 t496 _ A22.out) (h := ?_); rintro w' ⟨nd, rfl⟩))
         (try simp only [Act.put, List.setIfInBounds_toArray, List.set_cons_zero, List.set_cons_succ])
         go_cut [9] (fun v9 wc => ∃ (kq : Nat) (x9_22 : Int), v9 = .int .i64 x9_22 ∧ Aside0 (flyballref06_Add.j2 kq a0 a1 a2 t493 x9_22 t495 t496 = some (r1, r2)) ∧ Aside0 (kq ≤ kj8) ∧ Aside0 (Below w.heap.size w wc))
         case first =>
          have H := HC23.out
          clear HC23
          by_cases c24 : t493 = 0
          ·rw [if_pos c24] at H
           have c24b0 : (t493 == 0) = true := beq_iff_eq.mpr c24
           have c24b1 : (t493 != 0) = false := bne_eq_false_iff_eq.mpr c24
           clear c24
           (first | rw [c24b0] | (simp only [i64_w, i32_w]; rw [c24b0]) | skip)
           have H' := Aside0.mk H
           clear H
           go_wp2
           go_meet
           case rel => exact ⟨_, (t496), (by first | rfl | (simp; done) | (simp [*]; done)), H', ⟨by have := HJ3.out; have := HJ8.out; first | omega | exact Nat.le_refl _⟩, ⟨zaB⟩⟩
          ·rw [if_neg c24] at H
           have c24b0 : (t493 == 0) = false := beq_eq_false_iff_ne.mpr c24
           have c24b1 : (t493 != 0) = true := bne_iff_ne.mpr c24
           (first | rw [c24b0] | (simp only [i64_w, i32_w]; rw [c24b0]) | skip)
           have H' := Aside0.mk H
           clear H
           go_wp2
           go_meet
           case rel => exact ⟨_, (t494), (by first | rfl | (simp; done) | (simp [*]; done)), H', ⟨by have := HJ3.out; have := HJ8.out; first | omega | exact Nat.le_refl _⟩, ⟨zaB⟩⟩
         case rest =>
          clear HC23
          try clear c1
          try clear c2
          try clear p2
          try clear c6
          try clear c8
          try clear c11
          try clear c13
          try clear c16
          try clear c18
          try clear c20
          try clear c22
          try clear c24
          try clear c24b0
          try clear c24b1
          try clear p2
          obtain ⟨kq, x9_22, rfl, HA, HJ22, HB⟩ := hcut
          cases kq with
          | zero => exact absurd HA.out (by simp [flyballref06_Add.j2])
          | succ kj22 =>
           have H := HA.out
           clear HA
           simp only [flyballref06_Add.j2] at H
           have HC25 := Aside0.mk H
           clear H
           go_upto_if 56 with (fail)
           go_cut [11] (fun v11 wc => ∃ (kq : Nat) (x11_24 : Int), v11 = .int .i64 x11_24 ∧ Aside0 (flyballref06_Add.j3 kq a0 a1 a2 t493 x9_22 t495 x11_24 = some (r1, r2)) ∧ Aside0 (kq ≤ kj22) ∧ Aside0 (Below w.heap.size w wc))
           case first =>
            have H := HC25.out
            clear HC25
            by_cases c26 : t495 = 0
            ·rw [if_pos c26] at H
             have c26b0 : (t495 == 0) = true := beq_iff_eq.mpr c26
             have c26b1 : (t495 != 0) = false := bne_eq_false_iff_eq.mpr c26
             clear c26
             (first | rw [c26b0] | (simp only [i64_w, i32_w]; rw [c26b0]) | skip)
             have H' := Aside0.mk H
             clear H
             go_wp2
             go_meet
             case rel => exact ⟨_, (x9_22), (by first | rfl | (simp; done) | (simp [*]; done)), H', ⟨by have := HJ3.out; have := HJ8.out; have := HJ22.out; first | omega | exact Nat.le_refl _⟩, ⟨zaB⟩⟩
            ·rw [if_neg c26] at H
             have c26b0 : (t495 == 0) = false := beq_eq_false_iff_ne.mpr c26
             have c26b1 : (t495 != 0) = true := bne_iff_ne.mpr c26
             (first | rw [c26b0] | (simp only [i64_w, i32_w]; rw [c26b0]) | skip)
             have H' := Aside0.mk H
             clear H
             go_wp2
             go_meet
             case rel => exact ⟨_, (t496), (by first | rfl | (simp; done) | (simp [*]; done)), H', ⟨by have := HJ3.out; have := HJ8.out; have := HJ22.out; first | omega | exact Nat.le_refl _⟩, ⟨zaB⟩⟩
           case rest =>
            clear HC25
            try clear c1
            try clear c2
            try clear p2
            try clear c6
            try clear c8
            try clear c11
            try clear c13
            try clear c16
            try clear c18
            try clear c20
            try clear c22
            try clear c24
            try clear c24b0
            try clear c24b1
            try clear c26
            try clear c26b0
            try clear c26b1
            try clear p2
            obtain ⟨kq, x11_24, rfl, HA, HJ24, HB⟩ := hcut
            cases kq with
            | zero => exact absurd HA.out (by simp [flyballref06_Add.j3])
            | succ kj24 =>
             have H := HA.out
             clear HA
             simp only [flyballref06_Add.j3] at H
             obtain ⟨ji27, hji27⟩ : ∃ j_ : Int, (mn x9_22 x11_24) = j_ := ⟨_, rfl⟩
             replace H : ((flyballref06_bits.f kj24 t493).bind fun t497 => ((flyballref01_Shl.f kj24 t497 (wrap64 (x9_22 - (ji27)))).bind fun t500 => ((flyballref06_bits.f kj24 t495).bind fun t503 => ((flyballref01_Shl.f kj24 t503 (wrap64 (x11_24 - (ji27)))).bind fun t506 => ((flyballref06_neg.f a0).bind fun t509 => ((flyballref06_neg.f a0).bind fun t510 => ((flyballref06_neg.f a1).bind fun t511 => (if (t510 == t511) = true then ((flyballref01_Add.f kj24 t500 t506).bind fun t512 => (flyballref06_Add.j4 kj24 a0 a1 a2 ji27 t509 t512)) else ((flyballref01_Cmp.f kj24 t500 t506).bind fun t515 => (if t515 ≥ 0 then ((flyballref01_Sub.f kj24 t500 t506 (wrap64 ((t500.length : Int) + (t506.length : Int)))).bind fun bt516 => (flyballref06_Add.j4 kj24 a0 a1 a2 ji27 t509 bt516.1)) else ((flyballref01_Sub.f kj24 t506 t500 (wrap64 ((t500.length : Int) + (t506.length : Int)))).bind fun bt520 => ((flyballref06_neg.f a1).bind fun t524 => (flyballref06_Add.j4 kj24 a0 a1 a2 ji27 t524 bt520.1))))))))))))) = some (r1, r2) := by first | (rw [hji27] at H; exact H) | (simp only [hji27] at H ⊢; exact H)
             have hji27_ : (if x11_24 < x9_22 then x11_24 else x9_22) = ji27 := hji27
             (try (have hji27n := hji27_; simp only [Int.ofNat_lt] at hji27n))
             obtain ⟨t497, A28, H⟩ := zbs H
             try dsimp only at H
             obtain ⟨t500, A29, H⟩ := zbs H
             try dsimp only at H
             obtain ⟨t503, A30, H⟩ := zbs H
             try dsimp only at H
             obtain ⟨t506, A31, H⟩ := zbs H
             try dsimp only at H
             obtain ⟨t509, A32, H⟩ := zbs H
             try dsimp only at H
             obtain ⟨t510, A33, H⟩ := zbs H
             try dsimp only at H
             obtain ⟨t511, A34, H⟩ := zbs H
             try dsimp only at H
             have HC35 := Aside0.mk H
             clear H
             go_upto_if 79 with (first | ((with_reducible refine gate_callee (f := 91) rfl ?_); refine goesL_ (some 62) rfl rfl Try.func91 (by kernel_rfl) rfl #[.int .u64 t493] rfl (by (try simp only [List.map_toArray, List.map_cons, List.map_nil]); first | done | rfl | (simp only [List.length_drop, List.length_take]; rfl)) ?_; (with_reducible refine (flyballref06_bits.calls kj24 t493 t497 _ A28.out).mono ?_); rintro e w36 ⟨v498, rfl, ho0, hb⟩; refine ⟨_, rfl, ?_⟩; have HO499 := Aside0.mk (Kd.R_lower ho0 (below_size zaB)); replace HB := Aside0.mk (below_step zaB hb); (try clear hb); (try clear ho0); obtain ⟨Ao37, co37, eo37⟩ := Kd.R_slice HO499.out; subst eo37) | ((with_reducible refine gate_callee (f := 90) rfl ?_); refine goesL_ (some 66) rfl rfl Try.func90 (by kernel_rfl) rfl #[.slice Ao37 t497.length co37, .int .i64 (wrap64 (x9_22 - (ji27)))] rfl (by (try simp only [List.map_toArray, List.map_cons, List.map_nil]); first | done | (simp only [hji27]; rfl) | rfl | (simp only [List.length_drop, List.length_take]; rfl)) ?_; (with_reducible refine (flyballref01_Shl.calls kj24 _ _ t497 (wrap64 (x9_22 - (ji27))) t500 _ ?side1 ?side2 A29.out).mono ?_); (case side1 => repeat (first | exact (Kd.R_reads' HO499.out).2.2 | (with_reducible refine Kd.C_alloc ?_ _) | (with_reducible refine Kd.C_drewN ?_ _) | (with_reducible refine Kd.C_drew ?_))); (case side2 => exact (Kd.R_reads' HO499.out).2.1); rintro e w38 ⟨v501, rfl, ho0, hb⟩; refine ⟨_, rfl, ?_⟩; have HO502 := Aside0.mk (Kd.R_lower (Kd.R_new' ho0 (Kd.R_lt (by (with_reducible repeat (first | apply Kd.R_alloc | apply Kd.R_drewN | apply Kd.R_drew)); exact HO499.out))) (below_size zaB)); replace HO499 := Aside0.mk (Kd.R_elder' (by (with_reducible repeat (first | apply Kd.R_alloc | apply Kd.R_drewN | apply Kd.R_drew)); exact HO499.out) (Kd.R_base ho0) hb); replace HB := Aside0.mk (below_step zaB hb); (try clear hb); (try clear ho0)) | ((with_reducible refine gate_callee (f := 91) rfl ?_); refine goesL_ (some 68) rfl rfl Try.func91 (by kernel_rfl) rfl #[.int .u64 t495] rfl (by (try simp only [List.map_toArray, List.map_cons, List.map_nil]); first | done | rfl | (simp only [List.length_drop, List.length_take]; rfl)) ?_; (with_reducible refine (flyballref06_bits.calls kj24 t495 t503 _ A30.out).mono ?_); rintro e w39 ⟨v504, rfl, ho0, hb⟩; refine ⟨_, rfl, ?_⟩; have HO505 := Aside0.mk (Kd.R_lower (Kd.R_new' (Kd.R_new' ho0 (Kd.R_lt (by (with_reducible repeat (first | apply Kd.R_alloc | apply Kd.R_drewN | apply Kd.R_drew)); exact HO499.out))) (Kd.R_lt (by (with_reducible repeat (first | apply Kd.R_alloc | apply Kd.R_drewN | apply Kd.R_drew)); exact HO502.out))) (below_size zaB)); replace HO499 := Aside0.mk (Kd.R_elder' (by (with_reducible repeat (first | apply Kd.R_alloc | apply Kd.R_drewN | apply Kd.R_drew)); exact HO499.out) (Kd.R_base ho0) hb); replace HO502 := Aside0.mk (Kd.R_elder' (by (with_reducible repeat (first | apply Kd.R_alloc | apply Kd.R_drewN | apply Kd.R_drew)); exact HO502.out) (Kd.R_base ho0) hb); replace HB := Aside0.mk (below_step zaB hb); (try clear hb); (try clear ho0); obtain ⟨Ao40, co40, eo40⟩ := Kd.R_slice HO505.out; subst eo40) | ((with_reducible refine gate_callee (f := 90) rfl ?_); refine goesL_ (some 72) rfl rfl Try.func90 (by kernel_rfl) rfl #[.slice Ao40 t503.length co40, .int .i64 (wrap64 (x11_24 - (ji27)))] rfl (by (try simp only [List.map_toArray, List.map_cons, List.map_nil]); first | done | (simp only [hji27]; rfl) | rfl | (simp only [List.length_drop, List.length_take]; rfl)) ?_; (with_reducible refine (flyballref01_Shl.calls kj24 _ _ t503 (wrap64 (x11_24 - (ji27))) t506 _ ?side1 ?side2 A31.out).mono ?_); (case side1 => repeat (first | exact (Kd.R_reads' HO505.out).2.2 | (with_reducible refine Kd.C_alloc ?_ _) | (with_reducible refine Kd.C_drewN ?_ _) | (with_reducible refine Kd.C_drew ?_))); (case side2 => exact (Kd.R_reads' HO505.out).2.1); rintro e w41 ⟨v507, rfl, ho0, hb⟩; refine ⟨_, rfl, ?_⟩; have HO508 := Aside0.mk (Kd.R_lower (Kd.R_new' (Kd.R_new' (Kd.R_new' ho0 (Kd.R_lt (by (with_reducible repeat (first | apply Kd.R_alloc | apply Kd.R_drewN | apply Kd.R_drew)); exact HO499.out))) (Kd.R_lt (by (with_reducible repeat (first | apply Kd.R_alloc | apply Kd.R_drewN | apply Kd.R_drew)); exact HO502.out))) (Kd.R_lt (by (with_reducible repeat (first | apply Kd.R_alloc | apply Kd.R_drewN | apply Kd.R_drew)); exact HO505.out))) (below_size zaB)); replace HO499 := Aside0.mk (Kd.R_elder' (by (with_reducible repeat (first | apply Kd.R_alloc | apply Kd.R_drewN | apply Kd.R_drew)); exact HO499.out) (Kd.R_base ho0) hb); replace HO502 := Aside0.mk (Kd.R_elder' (by (with_reducible repeat (first | apply Kd.R_alloc | apply Kd.R_drewN | apply Kd.R_drew)); exact HO502.out) (Kd.R_base ho0) hb); replace HO505 := Aside0.mk (Kd.R_elder' (by (with_reducible repeat (first | apply Kd.R_alloc | apply Kd.R_drewN | apply Kd.R_drew)); exact HO505.out) (Kd.R_base ho0) hb); replace HB := Aside0.mk (below_step zaB hb); (try clear hb); (try clear ho0)) | ((with_reducible refine gate_callee (f := 88) rfl ?_); refine zgL 74 Try.func88 (flyballref06_neg.calls a0 t509 _ A32.out) (h := ?_); rintro w' ⟨nd, rfl⟩) | ((with_reducible refine gate_callee (f := 88) rfl ?_); refine zgL 76 Try.func88 (flyballref06_neg.calls a0 t510 _ A33.out) (h := ?_); rintro w' ⟨nd, rfl⟩) | ((with_reducible refine gate_callee (f := 88) rfl ?_); refine zgL 78 Try.func88 (flyballref06_neg.calls a1 t511 _ A34.out) (h := ?_); rintro w' ⟨nd, rfl⟩))
             (try simp only [Act.put, List.setIfInBounds_toArray, List.set_cons_zero, List.set_cons_succ])
             go_cut [15, 16] (fun v15 v16 wc => ∃ (kq : Nat) (x15_34 : Bool) (x16_34 : List Bool), v15 = .bool x15_34 ∧ Aside0 (flyballref06_Add.j4 kq a0 a1 a2 ji27 x15_34 x16_34 = some (r1, r2)) ∧ Aside0 (kq ≤ kj24) ∧ Aside0 (Kd.R Kd.bool 4 wc w.heap.size (fun _ => True) v16 x16_34) ∧ Aside0 (Below w.heap.size w wc))
             case first =>
              have H := HC35.out
              clear HC35
              by_cases c42 : (t510 == t511) = true
              ·rw [if_pos c42] at H
               have c42b0 : (t510 == t511) = true := c42
               (try (have c42b1 : decide (t510 = t511) = true := by simpa using c42))
               (try (have c42b2 : (t510 == t511) = true := by simpa using c42))
               clear c42
               (first | rw [c42b0] | (simp only [i64_w, i32_w]; rw [c42b0]) | skip)
               obtain ⟨t512, A43, H⟩ := zbs H
               try dsimp only at H
               have H' := Aside0.mk H
               clear H
               obtain ⟨Ao44, co44, eo44⟩ := Kd.R_slice HO502.out
               subst eo44
               obtain ⟨Ao45, co45, eo45⟩ := Kd.R_slice HO508.out
               subst eo45
               go_wp2_with (first | ((with_reducible refine gate_callee (f := 92) rfl ?_); refine goesL_ (some 82) rfl rfl Try.func92 (by kernel_rfl) rfl #[.slice Ao44 t500.length co44, .slice Ao45 t506.length co45] rfl (by (try simp only [List.map_toArray, List.map_cons, List.map_nil]); first | done | rfl | (simp only [List.length_drop, List.length_take]; rfl)) ?_; (with_reducible refine (flyballref01_Add.calls kj24 _ _ t500 _ _ t506 t512 _ ?side1 ?side2 ?side3 ?side4 A43.out).mono ?_); (case side1 => repeat (first | exact (Kd.R_reads' HO502.out).2.2 | (with_reducible refine Kd.C_alloc ?_ _) | (with_reducible refine Kd.C_drewN ?_ _) | (with_reducible refine Kd.C_drew ?_))); (case side2 => exact (Kd.R_reads' HO502.out).2.1); (case side3 => repeat (first | exact (Kd.R_reads' HO508.out).2.2 | (with_reducible refine Kd.C_alloc ?_ _) | (with_reducible refine Kd.C_drewN ?_ _) | (with_reducible refine Kd.C_drew ?_))); (case side4 => exact (Kd.R_reads' HO508.out).2.1); rintro e w46 ⟨v513, rfl, ho0, hb⟩; refine ⟨_, rfl, ?_⟩; have HO514 := Aside0.mk (Kd.R_lower (Kd.R_new' (Kd.R_new' (Kd.R_new' (Kd.R_new' ho0 (Kd.R_lt (by (with_reducible repeat (first | apply Kd.R_alloc | apply Kd.R_drewN | apply Kd.R_drew)); exact HO499.out))) (Kd.R_lt (by (with_reducible repeat (first | apply Kd.R_alloc | apply Kd.R_drewN | apply Kd.R_drew)); exact HO502.out))) (Kd.R_lt (by (with_reducible repeat (first | apply Kd.R_alloc | apply Kd.R_drewN | apply Kd.R_drew)); exact HO505.out))) (Kd.R_lt (by (with_reducible repeat (first | apply Kd.R_alloc | apply Kd.R_drewN | apply Kd.R_drew)); exact HO508.out))) (below_size zaB)); replace HO499 := Aside0.mk (Kd.R_elder' (by (with_reducible repeat (first | apply Kd.R_alloc | apply Kd.R_drewN | apply Kd.R_drew)); exact HO499.out) (Kd.R_base ho0) hb); replace HO502 := Aside0.mk (Kd.R_elder' (by (with_reducible repeat (first | apply Kd.R_alloc | apply Kd.R_drewN | apply Kd.R_drew)); exact HO502.out) (Kd.R_base ho0) hb); replace HO505 := Aside0.mk (Kd.R_elder' (by (with_reducible repeat (first | apply Kd.R_alloc | apply Kd.R_drewN | apply Kd.R_drew)); exact HO505.out) (Kd.R_base ho0) hb); replace HO508 := Aside0.mk (Kd.R_elder' (by (with_reducible repeat (first | apply Kd.R_alloc | apply Kd.R_drewN | apply Kd.R_drew)); exact HO508.out) (Kd.R_base ho0) hb); replace HB := Aside0.mk (below_step zaB hb); (try clear hb); (try clear ho0)))
               go_meet
               case rel => exact ⟨_, (t509), (t512), (by first | rfl | (simp; done) | (simp [*]; done)), H', ⟨by have := HJ3.out; have := HJ8.out; have := HJ22.out; have := HJ24.out; first | omega | exact Nat.le_refl _⟩, ⟨by (with_reducible repeat (first | apply Kd.R_alloc | apply Kd.R_drewN | apply Kd.R_drew)); exact Kd.R_mono HO514.out (fun _ hk => trivial)⟩, ⟨zaB⟩⟩
              ·rw [if_neg c42] at H
               have c42b0 : (t510 == t511) = false := by simpa using c42
               (try (have c42b1 : decide (t510 = t511) = false := by simpa using c42))
               (try (have c42b2 : (t510 == t511) = false := by simpa using c42))
               (try (have c42b3 : ¬ (t510 = t511) := by simpa using c42))
               clear c42
               (first | rw [c42b0] | (simp only [i64_w, i32_w]; rw [c42b0]) | skip)
               obtain ⟨t515, A47, H⟩ := zbs H
               try dsimp only at H
               by_cases c48 : t515 ≥ 0
               ·rw [if_pos c48] at H
                have c48b0 : decide (0 ≤ t515) = true := decide_eq_true c48
                clear c48
                obtain ⟨⟨t516, t517⟩, A49, H⟩ := zbs H
                try dsimp only at H
                have H' := Aside0.mk H
                clear H
                obtain ⟨Ao50, co50, eo50⟩ := Kd.R_slice HO502.out
                subst eo50
                obtain ⟨Ao51, co51, eo51⟩ := Kd.R_slice HO508.out
                subst eo51
                go_wp2_with (first | ((with_reducible refine gate_callee (f := 93) rfl ?_); refine goesL_ (some 85) rfl rfl Try.func93 (by kernel_rfl) rfl #[.slice Ao50 t500.length co50, .slice Ao51 t506.length co51] rfl (by (try simp only [List.map_toArray, List.map_cons, List.map_nil]); first | done | rfl | (simp only [List.length_drop, List.length_take]; rfl)) ?_; (with_reducible refine (flyballref01_Cmp.calls kj24 _ _ t500 _ _ t506 t515 _ ?side1 ?side2 ?side3 ?side4 A47.out).mono ?_); (case side1 => repeat (first | exact (Kd.R_reads' HO502.out).2.2 | (with_reducible refine Kd.C_alloc ?_ _) | (with_reducible refine Kd.C_drewN ?_ _) | (with_reducible refine Kd.C_drew ?_))); (case side2 => exact (Kd.R_reads' HO502.out).2.1); (case side3 => repeat (first | exact (Kd.R_reads' HO508.out).2.2 | (with_reducible refine Kd.C_alloc ?_ _) | (with_reducible refine Kd.C_drewN ?_ _) | (with_reducible refine Kd.C_drew ?_))); (case side4 => exact (Kd.R_reads' HO508.out).2.1); rintro e w52 ⟨rfl, hb⟩; refine ⟨_, rfl, ?_⟩; replace HO499 := Aside0.mk (Kd.R_below (by (with_reducible repeat (first | apply Kd.R_alloc | apply Kd.R_drewN | apply Kd.R_drew)); exact HO499.out) hb); replace HO502 := Aside0.mk (Kd.R_below (by (with_reducible repeat (first | apply Kd.R_alloc | apply Kd.R_drewN | apply Kd.R_drew)); exact HO502.out) hb); replace HO505 := Aside0.mk (Kd.R_below (by (with_reducible repeat (first | apply Kd.R_alloc | apply Kd.R_drewN | apply Kd.R_drew)); exact HO505.out) hb); replace HO508 := Aside0.mk (Kd.R_below (by (with_reducible repeat (first | apply Kd.R_alloc | apply Kd.R_drewN | apply Kd.R_drew)); exact HO508.out) hb); replace HB := Aside0.mk (below_step zaB hb); (try clear hb)) | ((with_reducible refine gate_callee (f := 94) rfl ?_); refine goesL_ (some 95) rfl rfl Try.func94 (by kernel_rfl) rfl #[.slice Ao50 t500.length co50, .slice Ao51 t506.length co51, .int .i64 (wrap64 ((t500.length : Int) + (t506.length : Int)))] rfl (by (try simp only [List.map_toArray, List.map_cons, List.map_nil]); first | done | rfl | (simp only [List.length_drop, List.length_take]; rfl)) ?_; (with_reducible refine (flyballref01_Sub.calls kj24 _ _ t500 _ _ t506 (wrap64 ((t500.length : Int) + (t506.length : Int))) t516 t517 _ ?side1 ?side2 ?side3 ?side4 A49.out).mono ?_); (case side1 => repeat (first | exact (Kd.R_reads' HO502.out).2.2 | (with_reducible refine Kd.C_alloc ?_ _) | (with_reducible refine Kd.C_drewN ?_ _) | (with_reducible refine Kd.C_drew ?_))); (case side2 => exact (Kd.R_reads' HO502.out).2.1); (case side3 => repeat (first | exact (Kd.R_reads' HO508.out).2.2 | (with_reducible refine Kd.C_alloc ?_ _) | (with_reducible refine Kd.C_drewN ?_ _) | (with_reducible refine Kd.C_drew ?_))); (case side4 => exact (Kd.R_reads' HO508.out).2.1); rintro e w53 ⟨v518, rfl, ho0, hb⟩; refine ⟨_, rfl, ?_⟩; have HO519 := Aside0.mk (Kd.R_lower (Kd.R_new' (Kd.R_new' (Kd.R_new' (Kd.R_new' ho0 (Kd.R_lt (by (with_reducible repeat (first | apply Kd.R_alloc | apply Kd.R_drewN | apply Kd.R_drew)); exact HO499.out))) (Kd.R_lt (by (with_reducible repeat (first | apply Kd.R_alloc | apply Kd.R_drewN | apply Kd.R_drew)); exact HO502.out))) (Kd.R_lt (by (with_reducible repeat (first | apply Kd.R_alloc | apply Kd.R_drewN | apply Kd.R_drew)); exact HO505.out))) (Kd.R_lt (by (with_reducible repeat (first | apply Kd.R_alloc | apply Kd.R_drewN | apply Kd.R_drew)); exact HO508.out))) (below_size zaB)); replace HO499 := Aside0.mk (Kd.R_elder' (by (with_reducible repeat (first | apply Kd.R_alloc | apply Kd.R_drewN | apply Kd.R_drew)); exact HO499.out) (Kd.R_base ho0) hb); replace HO502 := Aside0.mk (Kd.R_elder' (by (with_reducible repeat (first | apply Kd.R_alloc | apply Kd.R_drewN | apply Kd.R_drew)); exact HO502.out) (Kd.R_base ho0) hb); replace HO505 := Aside0.mk (Kd.R_elder' (by (with_reducible repeat (first | apply Kd.R_alloc | apply Kd.R_drewN | apply Kd.R_drew)); exact HO505.out) (Kd.R_base ho0) hb); replace HO508 := Aside0.mk (Kd.R_elder' (by (with_reducible repeat (first | apply Kd.R_alloc | apply Kd.R_drewN | apply Kd.R_drew)); exact HO508.out) (Kd.R_base ho0) hb); replace HB := Aside0.mk (below_step zaB hb); (try clear hb); (try clear ho0)))
                go_meet
                case rel => exact ⟨_, (t509), (t516), (by first | rfl | (simp; done) | (simp [*]; done)), H', ⟨by have := HJ3.out; have := HJ8.out; have := HJ22.out; have := HJ24.out; first | omega | exact Nat.le_refl _⟩, ⟨by (with_reducible repeat (first | apply Kd.R_alloc | apply Kd.R_drewN | apply Kd.R_drew)); exact Kd.R_mono HO519.out (fun _ hk => trivial)⟩, ⟨zaB⟩⟩
               ·rw [if_neg c48] at H
                have c48b0 : decide (0 ≤ t515) = false := decide_eq_false c48
                clear c48
                obtain ⟨⟨t520, t521⟩, A54, H⟩ := zbs H
                try dsimp only at H
                obtain ⟨t524, A55, H⟩ := zbs H
                try dsimp only at H
                have H' := Aside0.mk H
                clear H
                obtain ⟨Ao56, co56, eo56⟩ := Kd.R_slice HO502.out
                subst eo56
                obtain ⟨Ao57, co57, eo57⟩ := Kd.R_slice HO508.out
                subst eo57
                go_wp2_with (first | ((with_reducible refine gate_callee (f := 93) rfl ?_); refine goesL_ (some 85) rfl rfl Try.func93 (by kernel_rfl) rfl #[.slice Ao56 t500.length co56, .slice Ao57 t506.length co57] rfl (by (try simp only [List.map_toArray, List.map_cons, List.map_nil]); first | done | rfl | (simp only [List.length_drop, List.length_take]; rfl)) ?_; (with_reducible refine (flyballref01_Cmp.calls kj24 _ _ t500 _ _ t506 t515 _ ?side1 ?side2 ?side3 ?side4 A47.out).mono ?_); (case side1 => repeat (first | exact (Kd.R_reads' HO502.out).2.2 | (with_reducible refine Kd.C_alloc ?_ _) | (with_reducible refine Kd.C_drewN ?_ _) | (with_reducible refine Kd.C_drew ?_))); (case side2 => exact (Kd.R_reads' HO502.out).2.1); (case side3 => repeat (first | exact (Kd.R_reads' HO508.out).2.2 | (with_reducible refine Kd.C_alloc ?_ _) | (with_reducible refine Kd.C_drewN ?_ _) | (with_reducible refine Kd.C_drew ?_))); (case side4 => exact (Kd.R_reads' HO508.out).2.1); rintro e w58 ⟨rfl, hb⟩; refine ⟨_, rfl, ?_⟩; replace HO499 := Aside0.mk (Kd.R_below (by (with_reducible repeat (first | apply Kd.R_alloc | apply Kd.R_drewN | apply Kd.R_drew)); exact HO499.out) hb); replace HO502 := Aside0.mk (Kd.R_below (by (with_reducible repeat (first | apply Kd.R_alloc | apply Kd.R_drewN | apply Kd.R_drew)); exact HO502.out) hb); replace HO505 := Aside0.mk (Kd.R_below (by (with_reducible repeat (first | apply Kd.R_alloc | apply Kd.R_drewN | apply Kd.R_drew)); exact HO505.out) hb); replace HO508 := Aside0.mk (Kd.R_below (by (with_reducible repeat (first | apply Kd.R_alloc | apply Kd.R_drewN | apply Kd.R_drew)); exact HO508.out) hb); replace HB := Aside0.mk (below_step zaB hb); (try clear hb)) | ((with_reducible refine gate_callee (f := 94) rfl ?_); refine goesL_ (some 106) rfl rfl Try.func94 (by kernel_rfl) rfl #[.slice Ao57 t506.length co57, .slice Ao56 t500.length co56, .int .i64 (wrap64 ((t500.length : Int) + (t506.length : Int)))] rfl (by (try simp only [List.map_toArray, List.map_cons, List.map_nil]); first | done | rfl | (simp only [List.length_drop, List.length_take]; rfl)) ?_; (with_reducible refine (flyballref01_Sub.calls kj24 _ _ t506 _ _ t500 (wrap64 ((t500.length : Int) + (t506.length : Int))) t520 t521 _ ?side1 ?side2 ?side3 ?side4 A54.out).mono ?_); (case side1 => repeat (first | exact (Kd.R_reads' HO508.out).2.2 | (with_reducible refine Kd.C_alloc ?_ _) | (with_reducible refine Kd.C_drewN ?_ _) | (with_reducible refine Kd.C_drew ?_))); (case side2 => exact (Kd.R_reads' HO508.out).2.1); (case side3 => repeat (first | exact (Kd.R_reads' HO502.out).2.2 | (with_reducible refine Kd.C_alloc ?_ _) | (with_reducible refine Kd.C_drewN ?_ _) | (with_reducible refine Kd.C_drew ?_))); (case side4 => exact (Kd.R_reads' HO502.out).2.1); rintro e w59 ⟨v522, rfl, ho0, hb⟩; refine ⟨_, rfl, ?_⟩; have HO523 := Aside0.mk (Kd.R_lower (Kd.R_new' (Kd.R_new' (Kd.R_new' (Kd.R_new' ho0 (Kd.R_lt (by (with_reducible repeat (first | apply Kd.R_alloc | apply Kd.R_drewN | apply Kd.R_drew)); exact HO499.out))) (Kd.R_lt (by (with_reducible repeat (first | apply Kd.R_alloc | apply Kd.R_drewN | apply Kd.R_drew)); exact HO502.out))) (Kd.R_lt (by (with_reducible repeat (first | apply Kd.R_alloc | apply Kd.R_drewN | apply Kd.R_drew)); exact HO505.out))) (Kd.R_lt (by (with_reducible repeat (first | apply Kd.R_alloc | apply Kd.R_drewN | apply Kd.R_drew)); exact HO508.out))) (below_size zaB)); replace HO499 := Aside0.mk (Kd.R_elder' (by (with_reducible repeat (first | apply Kd.R_alloc | apply Kd.R_drewN | apply Kd.R_drew)); exact HO499.out) (Kd.R_base ho0) hb); replace HO502 := Aside0.mk (Kd.R_elder' (by (with_reducible repeat (first | apply Kd.R_alloc | apply Kd.R_drewN | apply Kd.R_drew)); exact HO502.out) (Kd.R_base ho0) hb); replace HO505 := Aside0.mk (Kd.R_elder' (by (with_reducible repeat (first | apply Kd.R_alloc | apply Kd.R_drewN | apply Kd.R_drew)); exact HO505.out) (Kd.R_base ho0) hb); replace HO508 := Aside0.mk (Kd.R_elder' (by (with_reducible repeat (first | apply Kd.R_alloc | apply Kd.R_drewN | apply Kd.R_drew)); exact HO508.out) (Kd.R_base ho0) hb); replace HB := Aside0.mk (below_step zaB hb); (try clear hb); (try clear ho0)) | ((with_reducible refine gate_callee (f := 88) rfl ?_); refine zgL 110 Try.func88 (flyballref06_neg.calls a1 t524 _ A55.out) (h := ?_); rintro w' ⟨nd, rfl⟩))
                go_meet
                case rel => exact ⟨_, (t524), (t520), (by first | rfl | (simp; done) | (simp [*]; done)), H', ⟨by have := HJ3.out; have := HJ8.out; have := HJ22.out; have := HJ24.out; first | omega | exact Nat.le_refl _⟩, ⟨by (with_reducible repeat (first | apply Kd.R_alloc | apply Kd.R_drewN | apply Kd.R_drew)); exact Kd.R_mono HO523.out (fun _ hk => trivial)⟩, ⟨zaB⟩⟩
             case rest =>
              clear HC35
              try clear c1
              try clear c2
              try clear p2
              try clear c4
              try clear c6
              try clear p6
              try clear c8
              try clear c9
              try clear c11
              try clear c13
              try clear c16
              try clear c18
              try clear c20
              try clear c22
              try clear c24
              try clear c24b0
              try clear c24b1
              try clear c26
              try clear c26b0
              try clear c26b1
              try clear c42
              try clear c42b0
              try clear c42b1
              try clear c42b2
              try clear c48
              try clear c48b0
              try clear p2
              obtain ⟨kq, x15_34, x16_34, rfl, HA, HJ34, HO_16, HB⟩ := hcut
              cases kq with
              | zero => exact absurd HA.out (by simp [flyballref06_Add.j4])
              | succ kj34 =>
               have H := HA.out
               clear HA
               simp only [flyballref06_Add.j4] at H
               obtain ⟨t525, A60, H⟩ := zbs H
               try dsimp only at H
               by_cases c61 : t525 = 0
               ·rw [if_pos c61] at H
                have c61b0 : (t525 == 0) = true := beq_iff_eq.mpr c61
                have c61b1 : (t525 != 0) = false := bne_eq_false_iff_eq.mpr c61
                clear c61
                obtain ⟨t526, A62, H⟩ := zbs H
                try dsimp only at H
                obtain ⟨t527, A63, H⟩ := zbs H
                try dsimp only at H
                by_cases c64 : (t526 == t527) = true
                ·rw [if_pos c64] at H
                 have c64b0 : (t526 == t527) = true := c64
                 (try (have c64b1 : decide (t526 = t527) = true := by simpa using c64))
                 (try (have c64b2 : (t526 == t527) = true := by simpa using c64))
                 clear c64
                 obtain ⟨t528, A65, H⟩ := zbs H
                 try dsimp only at H
                 obtain ⟨t529, A66, H⟩ := zbs H
                 try dsimp only at H
                 simp only [Option.some.injEq, Prod.mk.injEq] at H
                 obtain ⟨rfl, rfl⟩ := H
                 obtain ⟨Ao67, co67, eo67⟩ := Kd.R_slice HO_16.out
                 subst eo67
                 go_wp2_with (first | ((with_reducible refine gate_callee (f := 95) rfl ?_); refine goesL_ (some 112) rfl rfl Try.func95 (by kernel_rfl) rfl #[.slice Ao67 x16_34.length co67] rfl (by (try simp only [List.map_toArray, List.map_cons, List.map_nil]); first | done | rfl | (simp only [List.length_drop, List.length_take]; rfl)) ?_; (with_reducible refine (flyballref01_Len.calls kj34 _ _ x16_34 t525 _ ?side1 ?side2 A60.out).mono ?_); (case side1 => repeat (first | exact (Kd.R_reads' HO_16.out).2.2 | (with_reducible refine Kd.C_alloc ?_ _) | (with_reducible refine Kd.C_drewN ?_ _) | (with_reducible refine Kd.C_drew ?_))); (case side2 => exact (Kd.R_reads' HO_16.out).2.1); rintro e w' ⟨rfl, ⟨nd, rfl⟩⟩; refine ⟨_, rfl, ?_⟩) | ((with_reducible refine gate_callee (f := 88) rfl ?_); refine zgL 115 Try.func88 (flyballref06_neg.calls a0 t526 _ A62.out) (h := ?_); rintro w' ⟨nd, rfl⟩) | ((with_reducible refine gate_callee (f := 88) rfl ?_); refine zgL 117 Try.func88 (flyballref06_neg.calls a1 t527 _ A63.out) (h := ?_); rintro w' ⟨nd, rfl⟩) | ((with_reducible refine gate_callee (f := 88) rfl ?_); refine zgL 120 Try.func88 (flyballref06_neg.calls a0 t528 _ A65.out) (h := ?_); rintro w' ⟨nd, rfl⟩) | ((with_reducible refine gate_callee (f := 96) rfl ?_); refine zgL 121 Try.func96 (flyballref06_zero.calls t528 t529 _ A66.out) (h := ?_); rintro w' ⟨nd, rfl⟩))
                 go_ret2
                 exact ⟨by first | rfl | (simp [errW_none, errW_some] <;> rfl) | (simp only [← hji27]; first | rfl | (simp [errW_none, errW_some] <;> rfl)) | (simp [*, errW_none, errW_some] <;> rfl), zaB⟩
                ·rw [if_neg c64] at H
                 have c64b0 : (t526 == t527) = false := by simpa using c64
                 (try (have c64b1 : decide (t526 = t527) = false := by simpa using c64))
                 (try (have c64b2 : (t526 == t527) = false := by simpa using c64))
                 (try (have c64b3 : ¬ (t526 = t527) := by simpa using c64))
                 clear c64
                 obtain ⟨t530, A68, H⟩ := zbs H
                 try dsimp only at H
                 simp only [Option.some.injEq, Prod.mk.injEq] at H
                 obtain ⟨rfl, rfl⟩ := H
                 obtain ⟨Ao69, co69, eo69⟩ := Kd.R_slice HO_16.out
                 subst eo69
                 go_wp2_with (first | ((with_reducible refine gate_callee (f := 95) rfl ?_); refine goesL_ (some 112) rfl rfl Try.func95 (by kernel_rfl) rfl #[.slice Ao69 x16_34.length co69] rfl (by (try simp only [List.map_toArray, List.map_cons, List.map_nil]); first | done | rfl | (simp only [List.length_drop, List.length_take]; rfl)) ?_; (with_reducible refine (flyballref01_Len.calls kj34 _ _ x16_34 t525 _ ?side1 ?side2 A60.out).mono ?_); (case side1 => repeat (first | exact (Kd.R_reads' HO_16.out).2.2 | (with_reducible refine Kd.C_alloc ?_ _) | (with_reducible refine Kd.C_drewN ?_ _) | (with_reducible refine Kd.C_drew ?_))); (case side2 => exact (Kd.R_reads' HO_16.out).2.1); rintro e w' ⟨rfl, ⟨nd, rfl⟩⟩; refine ⟨_, rfl, ?_⟩) | ((with_reducible refine gate_callee (f := 88) rfl ?_); refine zgL 115 Try.func88 (flyballref06_neg.calls a0 t526 _ A62.out) (h := ?_); rintro w' ⟨nd, rfl⟩) | ((with_reducible refine gate_callee (f := 88) rfl ?_); refine zgL 117 Try.func88 (flyballref06_neg.calls a1 t527 _ A63.out) (h := ?_); rintro w' ⟨nd, rfl⟩) | ((with_reducible refine gate_callee (f := 96) rfl ?_); refine zgL 124 Try.func96 (flyballref06_zero.calls (a2 == 2) t530 _ A68.out) (h := ?_); rintro w' ⟨nd, rfl⟩))
                 go_ret2
                 exact ⟨by first | rfl | (simp [errW_none, errW_some] <;> rfl) | (simp only [← hji27]; first | rfl | (simp [errW_none, errW_some] <;> rfl)) | (simp [*, errW_none, errW_some] <;> rfl), zaB⟩
               ·rw [if_neg c61] at H
                have c61b0 : (t525 == 0) = false := beq_eq_false_iff_ne.mpr c61
                have c61b1 : (t525 != 0) = true := bne_iff_ne.mpr c61
                obtain ⟨⟨t531, t532⟩, A70, H⟩ := zbs H
                try dsimp only at H
                simp only [Option.some.injEq, Prod.mk.injEq] at H
                obtain ⟨rfl, rfl⟩ := H
                obtain ⟨Ao71, co71, eo71⟩ := Kd.R_slice HO_16.out
                subst eo71
                go_wp2_with (first | ((with_reducible refine gate_callee (f := 95) rfl ?_); refine goesL_ (some 112) rfl rfl Try.func95 (by kernel_rfl) rfl #[.slice Ao71 x16_34.length co71] rfl (by (try simp only [List.map_toArray, List.map_cons, List.map_nil]); first | done | rfl | (simp only [List.length_drop, List.length_take]; rfl)) ?_; (with_reducible refine (flyballref01_Len.calls kj34 _ _ x16_34 t525 _ ?side1 ?side2 A60.out).mono ?_); (case side1 => repeat (first | exact (Kd.R_reads' HO_16.out).2.2 | (with_reducible refine Kd.C_alloc ?_ _) | (with_reducible refine Kd.C_drewN ?_ _) | (with_reducible refine Kd.C_drew ?_))); (case side2 => exact (Kd.R_reads' HO_16.out).2.1); rintro e w' ⟨rfl, ⟨nd, rfl⟩⟩; refine ⟨_, rfl, ?_⟩) | ((with_reducible refine gate_callee (f := 97) rfl ?_); refine goesL_ (some 129) rfl rfl Try.func97 (by kernel_rfl) rfl #[.bool x15_34, .slice Ao71 x16_34.length co71, .int .i64 ji27, .bool false, .int .u8 a2] rfl (by (try simp only [List.map_toArray, List.map_cons, List.map_nil]); first | done | (simp only [hji27]; rfl) | rfl | (simp only [List.length_drop, List.length_take]; rfl)) ?_; (with_reducible refine (flyballref05_Round.calls kj34 x15_34 _ _ x16_34 ji27 false a2 t531 t532 _ ?side1 ?side2 A70.out).mono ?_); (case side1 => repeat (first | exact (Kd.R_reads' HO_16.out).2.2 | (with_reducible refine Kd.C_alloc ?_ _) | (with_reducible refine Kd.C_drewN ?_ _) | (with_reducible refine Kd.C_drew ?_))); (case side2 => exact (Kd.R_reads' HO_16.out).2.1); rintro e w72 ⟨rfl, hb⟩; refine ⟨_, rfl, ?_⟩; replace HO_16 := Aside0.mk (Kd.R_below (by (with_reducible repeat (first | apply Kd.R_alloc | apply Kd.R_drewN | apply Kd.R_drew)); exact HO_16.out) hb); replace HB := Aside0.mk (below_step zaB hb); (try clear hb)))
                go_ret2
                exact ⟨by first | rfl | (simp [errW_none, errW_some] <;> rfl) | (simp only [← hji27]; first | rfl | (simp [errW_none, errW_some] <;> rfl)) | (simp [*, errW_none, errW_some] <;> rfl), zaB⟩
end Go.Proofs.Ytmadjhmecfbcmaa.F
end
section
namespace Go.Proofs.Ytmadjhmecfbcmaa.F
open Go.RowKit Go.Proofs.YtmadjhmecfbcmaaW.PrintWords Go.Proofs.YtmadjhmecfbcmaaW.PrintLast Go.Proofs.YtmadjhmecfbcmaaW.PrintMore
attribute [local go_sem] max2_int min2_int max_two min_two max_three min_three max_four min_four
set_option linter.unusedVariables false
set_option linter.unusedSimpArgs false
set_option maxHeartbeats 8000000 in
set_option maxRecDepth 100000 in
theorem flyballlaw06_SoftSums.calls (k : Nat) (a0 : Int) (A1 : Option Addr) (c1 : Nat) (l1 : List Int) (r : Bool) (w : World) (hr1 : Kd.C (Kd.int .u64) w A1 l1.length l1) (hc1 : l1.length ≤ c1) (h : flyballlaw06_SoftSums.f k a0 l1 = some r) :
  Calls Try.prog 7 #[.int .u8 a0, .slice A1 l1.length c1] w fun e w' => e = .returned (.bool r) ∧ Below w.heap.size w w' := by
 have HR1 := Aside0.mk hr1
 have HC1 := Aside0.mk hc1
 clear hr1 hc1
 have HB := Aside0.mk (Below.refl w.heap.size w)
 have H : ((flyballlaw06_works.f k).bind fun t659 => (if t659 = true then (if (l1.length : Int) > 100 then (some t659) else (flyballlaw06_SoftSums.l0 k a0 l1 t659 0 0)) else (some false))) = some r := h
 clear h
 obtain ⟨t659, A3, H⟩ := zbs H
 try dsimp only at H
 by_cases c4 : t659 = true
 ·subst c4
  have H1 : (if (l1.length : Int) > 100 then (some true) else (flyballlaw06_SoftSums.l0 k a0 l1 true 0 0)) = some r := by rw [if_pos rfl] at H; exact H
  clear H
  have H := H1
  clear H1
  by_cases c5 : (l1.length : Int) > 100
  ·rw [if_pos c5] at H
   have c5b0 : decide (100 < (l1.length : Int)) = true := decide_eq_true c5
   have c5b1 : decide (100 < l1.length) = true := decide_eq_true (by omega)
   clear c5
   obtain rfl := Option.some.inj H
   go_enter Try.func7, Try.ntmps7
   go_wp2_with (first | ((with_reducible refine gate_callee (f := 20) rfl ?_); refine zgL 8 Try.func20 (flyballlaw06_works.calls k  true _ A3.out) (h := ?_); rintro w6 hb; replace HB := Aside0.mk (below_step zaB hb); (try clear hb)))
   go_ret
   exact ⟨zaE, zaB⟩
  ·rw [if_neg c5] at H
   have c5b0 : decide (100 < (l1.length : Int)) = false := decide_eq_false c5
   have c5b1 : decide (100 < l1.length) = false := decide_eq_false (by omega)
   clear c5
   have H' := Aside0.mk H
   clear H
   go_enter Try.func7, Try.ntmps7
   go_wp2_with (first | ((with_reducible refine gate_callee (f := 20) rfl ?_); refine zgL 8 Try.func20 (flyballlaw06_works.calls k  true _ A3.out) (h := ?_); rintro w7 hb; replace HB := Aside0.mk (below_step zaB hb); (try clear hb)))
   (try simp only [Act.put, List.setIfInBounds_toArray, List.set_cons_zero, List.set_cons_succ])
   go_loopg [6, 7] k (fun kq v6 v7 w' => ∃ (x6_1 : Int) (x7_1 : Int), v6 = .int .u64 x6_1 ∧ v7 = .int .i64 x7_1 ∧ Aside0 (flyballlaw06_SoftSums.l0 kq a0 l1 true x6_1 x7_1 = some r) ∧ Aside0 (kq ≤ k) ∧ Aside0 (Below w.heap.size w w'))
   case atStart => exact ⟨(0), (0), (by first | rfl | (simp; done) | (simp [*]; done)), (by first | rfl | (simp; done) | (simp [*]; done)), H', ⟨Nat.le_refl _⟩, ⟨zaB⟩⟩
   case round =>
    clear H'
    try clear c1
    try clear c2
    try clear p2
    try clear c4
    try clear c5
    try clear c5b0
    try clear c5b1
    try clear c7
    obtain ⟨x6_1, x7_1, rfl, rfl, HA, HK1, HB⟩ := hrel
    cases gk with
    | zero => exact absurd HA.out (by simp [flyballlaw06_SoftSums.l0])
    | succ k1 =>
     have H := HA.out
     clear HA
     simp only [flyballlaw06_SoftSums.l0] at H
     by_cases c8 : x7_1 < (l1.length : Int)
     ·rw [if_pos c8] at H
      have c8b0 : decide (x7_1 < (l1.length : Int)) = true := decide_eq_true c8
      clear c8
      by_cases c9 : 0 ≤ x7_1
      ·rw [if_pos c9] at H
       have c9b0 : decide (0 ≤ x7_1) = true := decide_eq_true c9
       clear c9
       obtain ⟨⟨t661, t662⟩, A10, H⟩ := zbs H
       try dsimp only at H
       have H' := Aside0.mk H
       clear H
       have p660 : 0 ≤ (x7_1 : Int) := of_decide_eq_true (by first | (with_reducible assumption) | assumption)
       have q660 : x7_1 < (l1.length : Int) := of_decide_eq_true (by first | (with_reducible assumption) | assumption)
       obtain ⟨ad660, e660, hx660_0⟩ := Kd.at_int HR1.out x7_1 p660 q660
       cases e660
       replace hx660_0 := (HB.out.cell (World.block_lt_of_cell? w _ hx660_0)).trans hx660_0
       replace p660 := eq_true p660
       replace q660 := eq_true q660
       go_wp2_with (first | ((with_reducible refine gate_callee (f := 22) rfl ?_); refine zgL 28 Try.func22 (flyballref06_Add.calls k1 x6_1 (rd l1 x7_1) a0 t661 t662 _ A10.out) (h := ?_); rintro w11 hb; replace HB := Aside0.mk (below_step zaB hb); (try clear hb)))
       go_roundg k1
       case measure => have := HK1.out; omega
       case rel => exact ⟨(t661), (wrap64 (x7_1 + 1)), (by first | rfl | (simp; done) | (simp [*]; done)), (by first | rfl | (simp; done) | (simp [*]; done)), H', ⟨by have := HK1.out; omega⟩, ⟨zaB⟩⟩
      ·rw [if_neg c9] at H
       exact absurd H (by simp)
     ·rw [if_neg c8] at H
      have c8b0 : decide (x7_1 < (l1.length : Int)) = false := decide_eq_false c8
      clear c8
      by_cases c12 : true = true
      ·skip
       have H1 : ((soft_Sum.f k1 a0 l1).bind fun t663 => (some (t663 == x6_1))) = some r := by first | (rw [if_pos rfl] at H; exact H) | (rw [if_pos trivial] at H; exact H)
       clear H
       have H := H1
       clear H1
       obtain ⟨t663, A13, H⟩ := zbs H
       try dsimp only at H
       obtain rfl := Option.some.inj H
       go_wp2_with (first | (go_at_call 31; (with_reducible refine (soft_Sum.calls k1 a0 _ _ l1 t663 _ ?side1 ?side2 A13.out).mono ?_); (case side1 => repeat (first | exact (Kd.C_below HR1.out HB.out) | (with_reducible refine Kd.C_alloc ?_ _) | (with_reducible refine Kd.C_drewN ?_ _) | (with_reducible refine Kd.C_drew ?_))); (case side2 => exact HC1.out); rintro e w14 ⟨rfl, hb⟩; replace HB := Aside0.mk (below_step zaB hb); (try clear hb)))
       go_ret
       exact ⟨zaE, zaB⟩
      ·exact absurd rfl c12
 ·replace c4 := Bool.eq_false_iff.mpr c4
  subst c4
  have H1 : (some false) = some r := by rw [if_neg (show ¬ (false = true) by decide)] at H; exact H
  clear H
  have H := H1
  clear H1
  obtain rfl := Option.some.inj H
  go_enter Try.func7, Try.ntmps7
  go_wp2_with (first | ((with_reducible refine gate_callee (f := 20) rfl ?_); refine zgL 8 Try.func20 (flyballlaw06_works.calls k  false _ A3.out) (h := ?_); rintro w15 hb; replace HB := Aside0.mk (below_step zaB hb); (try clear hb)))
  go_ret
  exact ⟨zaE, zaB⟩
theorem flyballlaw06_SoftSums.walk (P : flyballlaw06_SoftSums.Pure) (a0 : Int) (a1 : Option Addr) (len1 cap1 : Nat) (z1 : List Int) (w : World) (w0 : (Lit.int .u8 a0).wf = true) (w1 : (a1 = none ∧ len1 = 0 ∧ cap1 = 0 ∧ z1 = []) ∨ ∃ x, a1 = some x ∧ len1 ≤ cap1 ∧ cap1 ≤ maxLen ∧ z1.length = cap1 ∧ (∀ i, i < z1.length → w.cell? (x.add i) = some (.int .u64 (z1.getD i 0))) ∧ ∀ n ∈ z1, (Lit.int .u64 n).wf = true) (y1 : len1 * 8 ≤ 140737488351232) :
  Calls Try.prog 7 #[.int .u8 a0, .slice a1 len1 cap1] w fun e w' => e = .returned (.bool true) ∧ Below w.heap.size w w' := by
 obtain ⟨l1, rfl, hr1, hm1, hw1, hc1⟩ := ReadsInt.ofRowC w1
 obtain ⟨k, h⟩ := P a0 l1 w0 hm1 y1 hw1
 refine (flyballlaw06_SoftSums.calls k a0 _ _ l1 true w (Kd.C_of_reads (d := (0 : Int)) (h1 := fun _ => rfl) hr1) hc1 h).mono ?_
 rintro e w' ⟨rfl, hd⟩
 exact ⟨rfl, hd⟩
end Go.Proofs.Ytmadjhmecfbcmaa.F
end
section
namespace Go.Proofs.Ytmadjhmecfbcmaa.M
open Go.RowKit Go.Proofs.YtmadjhmecfbcmaaW.PrintWords Go.Proofs.YtmadjhmecfbcmaaW.PrintLast Go.Proofs.YtmadjhmecfbcmaaW.PrintMore Go.Proofs.Ytmadjhmecfbcmaa.F
def sgn (a : Nat) : Bool := a / 9223372036854775808 == 1
def ex (a : Nat) : Nat := a / 4503599627370496 % 2048
def fr (a : Nat) : Nat := a % 4503599627370496
def cls (a : Nat) : Nat := if ex a = 2047 then (if fr a = 0 then 3 else 4) else if ex a = 0 then (if fr a = 0 then 0 else 1) else 2
def spm (a : Nat) : Nat := if cls a = 2 then 4503599627370496 + fr a else if cls a = 1 then fr a else 0
def spe (a : Nat) : Int := if cls a = 2 then (ex a : Int) - 1075 else if cls a = 1 then -1074 else 0
def key (a : Nat) : Nat := a % 9223372036854775808
def U (a : Nat) : Prop := a < 18446744073709551616
theorem sgn_cast (a : Nat) : ((a : Int) / 9223372036854775808 == 1) = sgn a := by
  unfold sgn
  rw [Bool.eq_iff_iff, beq_iff_eq, beq_iff_eq]; omega
theorem ex_lt (a : Nat) : ex a < 2048 := by unfold ex; omega
theorem fr_lt (a : Nat) : fr a < 4503599627370496 := by unfold fr; omega
theorem key_parts' (a : Nat) : key a = ex a * 4503599627370496 + fr a := by unfold key ex fr; omega
theorem a_parts (a : Nat) (h : U a) : a = sg (sgn a) + key a := by
  unfold sg sgn key U at *
  by_cases e : a / 9223372036854775808 = 1
  · rw [beq_iff_eq.2 e, if_pos rfl]; omega
  · rw [beq_eq_false_iff_ne.2 e, if_neg (by simp)]; omega
theorem Parts_ok (a : Nat) (h : U a) : pattern_Parts.f (a : Int) = some (sgn a, (ex a : Int), (fr a : Int)) := by
  unfold pattern_Parts.f U at *
  rw [sgn_cast, show (a : Int) / 4503599627370496 = ((a / 4503599627370496 : Nat) : Int) from by omega, and_2047 _ (by omega), and_52 _ h, w64 (by omega) (by omega)]
  rfl
theorem ref_Parts_ok (a : Nat) (h : U a) : flyballref04_Parts.f (a : Int) = some (sgn a, (ex a : Int), (fr a : Int)) := by
  unfold flyballref04_Parts.f U at *
  have e1 : Int.tdiv (a : Int) 9223372036854775808 = (a : Int) / 9223372036854775808 := Int.tdiv_eq_ediv_of_nonneg (by omega)
  have e2 : Int.tdiv (a : Int) 4503599627370496 = (a : Int) / 4503599627370496 := Int.tdiv_eq_ediv_of_nonneg (by omega)
  have e3 : Int.tmod (a : Int) 4503599627370496 = (a : Int) % 4503599627370496 := Int.tmod_eq_emod_of_nonneg (by omega)
  rw [e1, e2, e3, wu64 (by omega) (by omega), wu64 (by omega) (by omega), sgn_cast, Int.tmod_eq_emod_of_nonneg (by omega), w64 (by omega) (by omega)]
  unfold ex fr
  congr 3
theorem Class_ev (a : Nat) (h : U a) : Ev (fun k => pattern_Class.f k (a : Int)) (cls a : Int) := by
  refine Ev.later 2 fun k => ?_
  unfold pattern_Class.f
  rw [bind_of _ (Parts_ok a h)]
  dsimp only
  have e1 : ((fr a : Int) == 0) = decide (fr a = 0) := by rw [Bool.eq_iff_iff]; simp
  rw [e1]
  unfold cls
  by_cases c1 : ex a = 2047
  · rw [if_pos (by omega), if_pos c1]
    by_cases c2 : fr a = 0
    · simp [pattern_Class.j0, c2]
    · simp [pattern_Class.j0, c2, c1]
  · rw [if_neg (by omega), if_neg c1]
    by_cases c3 : ex a = 0
    · by_cases c2 : fr a = 0
      · simp [pattern_Class.j0, pattern_Class.j1, c2, c3]
      · simp [pattern_Class.j0, pattern_Class.j1, c2, c3]
    · have : ¬ ((ex a : Int) = 2047) := by omega
      simp [pattern_Class.j0, pattern_Class.j1, this, c3]
theorem ref_Class_ev (a : Nat) (h : U a) : Ev (fun k => flyballref04_Class.f k (a : Int)) (cls a : Int) := by
  refine Ev.later 2 fun k => ?_
  unfold flyballref04_Class.f
  rw [bind_of _ (ref_Parts_ok a h)]
  dsimp only
  have e1 : ((fr a : Int) == 0) = decide (fr a = 0) := by rw [Bool.eq_iff_iff]; simp
  rw [e1]
  unfold cls
  by_cases c1 : ex a = 2047
  · rw [if_pos (by omega), if_pos c1]
    by_cases c2 : fr a = 0
    · simp [flyballref04_Class.j0, c2]
    · simp [flyballref04_Class.j0, c2, c1]
  · rw [if_neg (by omega), if_neg c1]
    by_cases c3 : ex a = 0
    · by_cases c2 : fr a = 0
      · simp [flyballref04_Class.j0, flyballref04_Class.j1, c2, c3]
      · simp [flyballref04_Class.j0, flyballref04_Class.j1, c2, c3]
    · have : ¬ ((ex a : Int) = 2047) := by omega
      simp [flyballref04_Class.j0, flyballref04_Class.j1, this, c3]
theorem cls_le (a : Nat) : cls a ≤ 4 := by unfold cls; (repeat' split) <;> omega
theorem spm_lt (a : Nat) : spm a < 9007199254740992 := by have := fr_lt a; unfold spm; (repeat' split) <;> omega
theorem spe_bd (a : Nat) : -1074 ≤ spe a ∧ spe a ≤ 971 := by
  unfold spe
  split
  · rename_i h
    have := ex_lt a
    have : 1 ≤ ex a ∧ ex a ≠ 2047 := by unfold cls at h; (repeat' split at h) <;> first | omega | (refine ⟨by omega, by omega⟩)
    omega
  · split <;> omega
theorem split_mn (a : Nat) : (if (cls a : Int) = 2 then (some ((4503599627370496 : Int) + (fr a : Int), (ex a : Int) - 1075)) else (if (cls a : Int) = 1 then (some ((fr a : Int), (-1074 : Int))) else (some (0, 0)))) = some ((spm a : Int), spe a) := by
  unfold spm spe
  by_cases c1 : cls a = 2
  · simp only [c1, if_true]; rw [Int.natCast_add]; rfl
  · have h1 : ¬ (cls a : Int) = 2 := by omega
    by_cases c2 : cls a = 1
    · have h2 : (cls a : Int) = 1 := by omega
      rw [if_neg h1, if_pos h2, if_neg c1, if_neg c1, if_pos c2, if_pos c2]
    · have h2 : ¬ (cls a : Int) = 1 := by omega
      rw [if_neg h1, if_neg h2, if_neg c1, if_neg c1, if_neg c2, if_neg c2]; rfl
theorem Split_ev (a : Nat) (h : U a) : Ev (fun k => pattern_Split.f k (a : Int)) ((spm a : Int), spe a) := by
  unfold pattern_Split.f
  refine Ev.b _ (Ev.const (Parts_ok a h)) (Ev.b _ (Class_ev a h) (Ev.const ?_))
  dsimp only
  have h1 := fr_lt a
  have h2 := ex_lt a
  have e1 : bits .or .u64 4503599627370496 (fr a : Int) = 4503599627370496 + (fr a : Int) := by
    have := or_join 4503599627370496 (fr a) 52 (by decide) (by omega) (by decide) (by omega)
    rw [Int.natCast_add] at this; exact this
  have e2 : wrap64 ((ex a : Int) - 1075) = (ex a : Int) - 1075 := w64 (by omega) (by omega)
  refine Eq.trans ?_ (split_mn a)
  rw [e1, e2]
theorem ref_Split_ev (a : Nat) (h : U a) : Ev (fun k => flyballref04_Split.f k (a : Int)) ((spm a : Int), spe a) := by
  unfold flyballref04_Split.f
  refine Ev.b _ (Ev.const (ref_Parts_ok a h)) (Ev.b _ (ref_Class_ev a h) (Ev.const ?_))
  dsimp only
  have h1 := fr_lt a
  have h2 := ex_lt a
  have e1 : IntKind.u64.wrap (4503599627370496 + (fr a : Int)) = 4503599627370496 + (fr a : Int) := wu64 (by omega) (by omega)
  have e2 : wrap64 ((ex a : Int) - 1075) = (ex a : Int) - 1075 := w64 (by omega) (by omega)
  refine Eq.trans ?_ (split_mn a)
  rw [e1, e2]
theorem of_ev (a : Nat) (h : U a) : Ev (fun k => soft_of.f k (a : Int)) ((a : Int), (cls a : Int), sgn a, (spm a : Int), spe a) := by
  unfold soft_of.f
  refine Ev.b _ (Split_ev a h) (Ev.b _ (Class_ev a h) (Ev.const ?_))
  rw [sgn_cast]
def mk (neg : Bool) (e f : Nat) : Nat := sg neg + (e * 4503599627370496 + f)
theorem Make_ev (neg : Bool) (e f : Nat) (he : e ≤ 2047) (hf : f < 4503599627370496) : Ev (fun k => pattern_Make.f k neg (e : Int) (f : Int)) ((mk neg e f : Int), 0) := by
  refine Ev.later 1 fun k => ?_
  unfold pattern_Make.f
  rw [if_neg (by omega), if_neg (by omega), decide_eq_false (by omega)]
  simp only [pattern_Make.j0]
  rw [if_neg (by simp), wu64 (n := (e : Int)) (by omega) (by omega), wu64 (n := (e : Int) * 4503599627370496) (by omega) (by omega)]
  rw [show (e : Int) * 4503599627370496 = ((e * 4503599627370496 : Nat) : Int) from by omega]
  rw [or_join (e * 4503599627370496) f 52 (by omega) hf (by omega) (by omega)]
  unfold mk sg
  cases neg
  · rw [if_neg (by simp)]; simp
  · rw [if_pos rfl, show (9223372036854775808 : Int) = ((9223372036854775808 : Nat) : Int) from rfl, or_join' 9223372036854775808 _ 63 (by decide) (by omega) (by decide) (by omega)]
    simp
theorem ref_Make_ok (neg : Bool) (e f : Nat) (he : e ≤ 2047) (hf : f < 4503599627370496) : flyballref04_Make.f neg (e : Int) (f : Int) = some (mk neg e f : Int) := by
  unfold flyballref04_Make.f mk sg
  rw [wu64 (n := (e : Int)) (by omega) (by omega), wu64 (n := (e : Int) * 4503599627370496) (by omega) (by omega), wu64 (n := (e : Int) * 4503599627370496 + f) (by omega) (by omega)]
  cases neg
  · rw [if_neg (by simp)]; simp
  · rw [if_pos rfl, wu64 (by omega) (by omega)]; congr 1; simp; omega
theorem zero_ev (neg : Bool) : Ev (fun k => soft_zero.f k neg) (sg neg : Int) := by
  unfold soft_zero.f
  exact Ev.b _ (Make_ev neg 0 0 (by omega) (by omega)) (Ev.now _)
theorem Inf_ev (neg : Bool) : Ev (fun k => pattern_Inf.f k neg) ((sg neg + 9218868437227405312 : Nat) : Int) := by
  unfold pattern_Inf.f
  exact Ev.b _ (Make_ev neg 2047 0 (by omega) (by omega)) (Ev.now _)
theorem ref_zero_ok (neg : Bool) : flyballref06_zero.f neg = some (sg neg : Int) := by
  unfold flyballref06_zero.f
  rw [show (0 : Int) = ((0 : Nat) : Int) from rfl, ref_Make_ok neg 0 0 (by omega) (by omega)]; rfl
theorem nan_ev (a : Nat) (h : U a) : Ev (fun k => pattern_nan.f k (a : Int)) (decide (cls a = 4)) := by
  unfold pattern_nan.f
  refine Ev.b _ (Class_ev a h) (Ev.const ?_)
  congr 1; rw [Bool.eq_iff_iff, beq_iff_eq, decide_eq_true_iff]; omega
theorem flip_U (a : Nat) (h : U a) : U (flip a) := by unfold U flip at *; split <;> omega
def ng (a : Nat) : Nat := if cls a = 4 then a else flip a
theorem ng_U (a : Nat) (h : U a) : U (ng a) := by unfold ng; split; exact h; exact flip_U a h
theorem Neg_ev (a : Nat) (h : U a) : Ev (fun k => pattern_Neg.f k (a : Int)) (ng a : Int) := by
  unfold pattern_Neg.f
  refine Ev.b _ (nan_ev a h) (Ev.const ?_)
  unfold ng
  by_cases c : cls a = 4
  · rw [decide_eq_true c, if_pos rfl, if_pos c]
  · rw [decide_eq_false c, if_neg (by simp), if_neg c, xor_sign a h]
theorem ref_is_ev (a c : Nat) (h : U a) : Ev (fun k => flyballref06_is.f k (a : Int) (c : Int)) (decide (cls a = c)) := by
  unfold flyballref06_is.f
  refine Ev.b _ (ref_Class_ev a h) (Ev.const ?_)
  congr 1; rw [Bool.eq_iff_iff, beq_iff_eq, decide_eq_true_iff]; omega
theorem ref_neg_ok (a : Nat) : flyballref06_neg.f (a : Int) = some (sgn a) := by unfold flyballref06_neg.f; rw [sgn_cast]
end Go.Proofs.Ytmadjhmecfbcmaa.M
end
section
namespace Go.Proofs.Ytmadjhmecfbcmaa.M
open Go.RowKit Go.Proofs.YtmadjhmecfbcmaaW.PrintWords Go.Proofs.YtmadjhmecfbcmaaW.PrintLast Go.Proofs.YtmadjhmecfbcmaaW.PrintMore Go.Proofs.Ytmadjhmecfbcmaa.F
theorem mod_mul_add (x B d : Nat) (hd : d < B) : (x * B + d) % (B * B) = x % B * B + d := by
  have h1 := Nat.div_add_mod x B
  have hB : 0 < B := by omega
  have h2 : x * B + d = (x % B * B + d) + (B * B) * (x / B) := by
    have : x * B = (B * (x / B) + x % B) * B := by rw [h1]
    rw [this, Nat.add_mul]; grind
  rw [h2, Nat.add_mul_mod_self_left]
  apply Nat.mod_eq_of_lt
  have : x % B + 1 ≤ B := Nat.mod_lt x hB
  have : (x % B + 1) * B ≤ B * B := Nat.mul_le_mul_right B this
  rw [Nat.add_mul] at this; omega
theorem mul_mod_join (hi c B P Q : Nat) (hPQ : P * Q = B) (hQ : 0 < Q) (hc : c < P) : (hi * P + c) % B = hi * P % B + c := by
  have e : hi * P % B = hi % Q * P := by
    rw [← hPQ, Nat.mul_comm hi P, Nat.mul_mod_mul_left, Nat.mul_comm]
  have h1 := Nat.div_add_mod hi Q
  have h2 : hi * P + c = (hi % Q * P + c) + B * (hi / Q) := by
    have : hi * P = (Q * (hi / Q) + hi % Q) * P := by rw [h1]
    rw [this, ← hPQ]; grind
  rw [h2, Nat.add_mul_mod_self_left, e]
  apply Nat.mod_eq_of_lt
  have : hi % Q + 1 ≤ Q := Nat.mod_lt hi hQ
  have : (hi % Q + 1) * P ≤ Q * P := Nat.mul_le_mul_right P this
  rw [Nat.add_mul, Nat.mul_comm Q P] at this; omega
def tw (V : Nat) : Int × Int := (((V / 18446744073709551616 : Nat) : Int), ((V % 18446744073709551616 : Nat) : Int))
theorem tw_join (q d : Nat) (h : d < 18446744073709551616) : tw (q * 18446744073709551616 + d) = ((q : Int), (d : Int)) := by
  rw [tw, show (q * 18446744073709551616 + d) / 18446744073709551616 = q by omega, show (q * 18446744073709551616 + d) % 18446744073709551616 = d by omega]
theorem shl_arith (hi lo n : Nat) (h1 : lo < 18446744073709551616) (hn : n < 64) :
    (hi * 18446744073709551616 + lo) * 2 ^ n % (18446744073709551616 * 18446744073709551616) =
      (hi * 2 ^ n % 18446744073709551616 + lo / 2 ^ (64 - n)) * 18446744073709551616 + lo * 2 ^ n % 18446744073709551616 := by
  have hPQ : 2 ^ n * 2 ^ (64 - n) = 18446744073709551616 := by rw [← Nat.pow_add, show n + (64 - n) = 64 by omega]
  have hc : lo * 2 ^ n / 18446744073709551616 = lo / 2 ^ (64 - n) := by
    rw [← hPQ, Nat.mul_comm lo, Nat.mul_div_mul_left _ _ (two_pos n)]
  have hc2 : lo / 2 ^ (64 - n) < 2 ^ n := by rw [Nat.div_lt_iff_lt_mul (two_pos _), hPQ]; exact h1
  have h2 := Nat.div_add_mod (lo * 2 ^ n) 18446744073709551616
  have e : (hi * 18446744073709551616 + lo) * 2 ^ n = (hi * 2 ^ n + lo / 2 ^ (64 - n)) * 18446744073709551616 + lo * 2 ^ n % 18446744073709551616 := by
    rw [← hc, Nat.add_mul, Nat.add_mul, Nat.mul_right_comm]; omega
  rw [e, mod_mul_add _ _ _ (Nat.mod_lt _ (by decide)), mul_mod_join _ _ _ _ _ hPQ (two_pos _) hc2]
theorem Shl_ev (n : Nat) : ∀ (hi lo : Nat), hi < 18446744073709551616 → lo < 18446744073709551616 → n < 1000000 →
    Ev (fun k => wide_U128_Shl.l0 k (n : Int) (hi : Int) (lo : Int)) (tw ((hi * 18446744073709551616 + lo) * 2 ^ n % (18446744073709551616 * 18446744073709551616))) := by
  induction n using Nat.strongRecOn with
  | _ n ih =>
  intro hi lo hhi hlo hn
  refine Ev.next ?_
  simp only [wide_U128_Shl.l0]
  by_cases c : 64 ≤ n
  · have hB : 2 ^ n = 18446744073709551616 * 2 ^ (n - 64) := by rw [← show 64 + (n - 64) = n by omega, Nat.pow_add, show 64 + (n - 64) - 64 = n - 64 by omega]
    have e : (hi * 18446744073709551616 + lo) * 2 ^ n % (18446744073709551616 * 18446744073709551616) = (lo * 18446744073709551616 + 0) * 2 ^ (n - 64) % (18446744073709551616 * 18446744073709551616) := by
      have : (hi * 18446744073709551616 + lo) * 2 ^ n = (lo * 18446744073709551616 + 0) * 2 ^ (n - 64) + (18446744073709551616 * 18446744073709551616) * (hi * 2 ^ (n - 64)) := by rw [hB]; grind
      rw [this, Nat.add_mul_mod_self_left]
    rw [e]
    by_cases z : lo = 0
    · subst z
      refine Ev.all fun k => ?_
      rw [if_pos (by omega), if_pos (by rfl)]
      simp [tw]
    · have := ih (n - 64) (by omega) lo 0 hlo (by omega) (by omega)
      refine Ev.congr (fun k => ?_) this
      have z' : ¬ ((lo : Int) == 0) = true := by rw [beq_iff_eq]; omega
      rw [if_pos (by omega), if_neg z', w64 (by omega) (by omega), show (n : Int) - 64 = ((n - 64 : Nat) : Int) from by omega]; rfl
  · refine Ev.all fun k => ?_
    rw [if_neg (by omega)]
    by_cases z : n = 0
    · subst z
      rw [if_pos (by omega)]
      have : (hi * 18446744073709551616 + lo) * 2 ^ 0 % (18446744073709551616 * 18446744073709551616) = hi * 18446744073709551616 + lo := by omega
      rw [this, tw, show (hi * 18446744073709551616 + lo) / 18446744073709551616 = hi by omega, show (hi * 18446744073709551616 + lo) % 18446744073709551616 = lo by omega]
    · rw [if_neg (by omega), if_pos (by omega), w64 (by omega) (by omega), if_pos (by omega), shl_arith hi lo n hlo (by omega)]
      rw [show (64 : Int) - (n : Int) = ((64 - n : Nat) : Int) from by omega, shl_nat _ _ (by omega), shl_nat _ _ (by omega), shr_nat _ _ (by omega)]
      have hPQ : 2 ^ n * 2 ^ (64 - n) = 18446744073709551616 := by rw [← Nat.pow_add, show n + (64 - n) = 64 by omega]
      have hc2 : lo / 2 ^ (64 - n) < 2 ^ n := by rw [Nat.div_lt_iff_lt_mul (two_pos _), hPQ]; exact hlo
      have hm : hi * 2 ^ n % 18446744073709551616 % 2 ^ n = 0 := by
        rw [← hPQ, Nat.mul_comm hi, Nat.mul_mod_mul_left, Nat.mul_mod_right]
      have hl : lo / 2 ^ (64 - n) ≤ lo := Nat.div_le_self _ _
      have hlt : hi * 2 ^ n % 18446744073709551616 + lo / 2 ^ (64 - n) < 18446744073709551616 := by
        have := mul_mod_join hi (lo / 2 ^ (64 - n)) 18446744073709551616 (2 ^ n) (2 ^ (64 - n)) hPQ (two_pos _) hc2
        rw [← this]; exact Nat.mod_lt _ (by decide)
      rw [or_join _ _ n (Nat.mod_lt _ (by decide)) hc2 hm (by omega)]
      have hd : lo * 2 ^ n % 18446744073709551616 < 18446744073709551616 := Nat.mod_lt _ (by decide)
      generalize lo * 2 ^ n % 18446744073709551616 = d at *
      generalize hi * 2 ^ n % 18446744073709551616 + lo / 2 ^ (64 - n) = q at *
      rw [tw_join q d hd]
theorem U128_Shl (hi lo n : Nat) (h1 : hi < 18446744073709551616) (h2 : lo < 18446744073709551616) (hn : n < 1000000) :
    Ev (fun k => wide_U128_Shl.f k (hi : Int) (lo : Int) (n : Int)) (tw ((hi * 18446744073709551616 + lo) * 2 ^ n % (18446744073709551616 * 18446744073709551616))) := Shl_ev n hi lo h1 h2 hn
theorem shr_arith (hi lo n : Nat) (hlo : lo < 18446744073709551616) (h0 : 0 < n) (hn : n < 64) :
    (hi * 18446744073709551616 + lo) / 2 ^ n = hi / 2 ^ n * 18446744073709551616 + (hi * 2 ^ (64 - n) % 18446744073709551616 + lo / 2 ^ n) ∧
    (hi * 18446744073709551616 + lo) % 2 ^ n = lo % 2 ^ n ∧ hi * 2 ^ (64 - n) % 18446744073709551616 % 2 ^ (64 - n) = 0 ∧ lo / 2 ^ n < 2 ^ (64 - n) ∧
    hi * 2 ^ (64 - n) % 18446744073709551616 + lo / 2 ^ n < 18446744073709551616 ∧ (lo * 2 ^ (64 - n) % 18446744073709551616 = 0 ↔ lo % 2 ^ n = 0) := by
  have hPQ : 2 ^ n * 2 ^ (64 - n) = 18446744073709551616 := by rw [← Nat.pow_add, show n + (64 - n) = 64 by omega]
  have hQP : 2 ^ (64 - n) * 2 ^ n = 18446744073709551616 := by rw [Nat.mul_comm]; exact hPQ
  have hc2 : lo / 2 ^ n < 2 ^ (64 - n) := by rw [Nat.div_lt_iff_lt_mul (two_pos _), hQP]; exact hlo
  have p1 := two_pos n
  have p2 := two_pos (64 - n)
  have h4 : hi * 2 ^ (64 - n) % 18446744073709551616 = hi % 2 ^ n * 2 ^ (64 - n) := by
    rw [← hQP, Nat.mul_comm hi, Nat.mul_mod_mul_left, Nat.mul_comm]
  have h5 : lo * 2 ^ (64 - n) % 18446744073709551616 = lo % 2 ^ n * 2 ^ (64 - n) := by
    rw [← hQP, Nat.mul_comm lo, Nat.mul_mod_mul_left, Nat.mul_comm]
  have hx : hi % 2 ^ n < 2 ^ n := Nat.mod_lt _ p1
  refine ⟨?_, ?_, ?_, hc2, ?_, ?_⟩
  · rw [h4]
    have e : hi * 18446744073709551616 + lo = lo + 2 ^ n * (hi * 2 ^ (64 - n)) := by rw [← hPQ]; grind
    rw [e, Nat.add_mul_div_left _ _ p1]
    have := Nat.div_add_mod hi (2 ^ n)
    have e2 : hi * 2 ^ (64 - n) = hi / 2 ^ n * 18446744073709551616 + hi % 2 ^ n * 2 ^ (64 - n) := by
      rw [← hPQ]
      have : hi * 2 ^ (64 - n) = (2 ^ n * (hi / 2 ^ n) + hi % 2 ^ n) * 2 ^ (64 - n) := by rw [this]
      rw [this]; grind
    rw [e2]; omega
  · have e : hi * 18446744073709551616 + lo = lo + 2 ^ n * (hi * 2 ^ (64 - n)) := by rw [← hPQ]; grind
    rw [e, Nat.add_mul_mod_self_left]
  · rw [h4, Nat.mul_mod_left]
  · rw [h4]
    have h6 : (hi % 2 ^ n + 1) * 2 ^ (64 - n) ≤ 2 ^ n * 2 ^ (64 - n) := Nat.mul_le_mul_right _ hx
    rw [hPQ, Nat.add_mul] at h6; omega
  · rw [h5]
    constructor
    · intro h; rcases Nat.mul_eq_zero.1 h with h | h <;> omega
    · intro h; rw [h, Nat.zero_mul]
theorem Shr_ev (n : Nat) : ∀ (hi lo : Nat) (lost : Bool), hi < 18446744073709551616 → lo < 18446744073709551616 → n < 1000000 →
    Ev (fun k => wide_U128_Shr.l0 k (n : Int) lost (hi : Int) (lo : Int)) ((tw ((hi * 18446744073709551616 + lo) / 2 ^ n)).1, (tw ((hi * 18446744073709551616 + lo) / 2 ^ n)).2, lost || decide ((hi * 18446744073709551616 + lo) % 2 ^ n ≠ 0)) := by
  induction n using Nat.strongRecOn with
  | _ n ih =>
  intro hi lo lost hhi hlo hn
  refine Ev.next ?_
  simp only [wide_U128_Shr.l0]
  by_cases c : 64 ≤ n
  · have hB : 2 ^ n = 18446744073709551616 * 2 ^ (n - 64) := by rw [← show 64 + (n - 64) = n by omega, Nat.pow_add, show 64 + (n - 64) - 64 = n - 64 by omega]
    have e : (hi * 18446744073709551616 + lo) / 2 ^ n = (0 * 18446744073709551616 + hi) / 2 ^ (n - 64) := by
      rw [hB, ← Nat.div_div_eq_div_mul]; congr 1; omega
    have e2 : (hi * 18446744073709551616 + lo) % 2 ^ n ≠ 0 ↔ lo ≠ 0 ∨ (0 * 18446744073709551616 + hi) % 2 ^ (n - 64) ≠ 0 := by
      rw [hB, Nat.mod_mul, show (hi * 18446744073709551616 + lo) % 18446744073709551616 = lo by omega, show (hi * 18446744073709551616 + lo) / 18446744073709551616 = 0 * 18446744073709551616 + hi by omega]
      have := two_pos (n - 64)
      constructor
      · intro h; by_cases z : lo = 0
        · right; intro h2; apply h; rw [h2, z]
        · exact .inl z
      · rintro (h | h) h2
        · omega
        · apply h; rcases Nat.eq_zero_of_add_eq_zero h2 with ⟨_, h3⟩
          rcases Nat.mul_eq_zero.1 h3 with h4 | h4
          · cases h4
          · exact h4
    have l1 : ((lo : Int) != 0) = decide (lo ≠ 0) := by rw [Bool.eq_iff_iff]; simp
    have e3 : (lost || decide ((hi * 18446744073709551616 + lo) % 2 ^ n ≠ 0)) = ((lost || decide (lo ≠ 0)) || decide ((0 * 18446744073709551616 + hi) % 2 ^ (n - 64) ≠ 0)) := by
      rw [Bool.eq_iff_iff]; simp only [Bool.or_eq_true, decide_eq_true_iff, e2]; grind
    rw [e, e3]
    by_cases z : hi = 0
    · subst z
      refine Ev.all fun k => ?_
      rw [if_pos (by omega)]
      cases lost
      · rw [if_neg (by simp), if_pos (by rfl), l1]; simp [tw]
      · rw [if_pos rfl, if_pos (by rfl)]; simp [tw]
    · have z' : ¬ ((hi : Int) == 0) = true := by rw [beq_iff_eq]; omega
      have hc : (n : Int) - 64 = ((n - 64 : Nat) : Int) := by omega
      cases lost
      · have := ih (n - 64) (by omega) 0 hi (decide (lo ≠ 0)) (by omega) hhi (by omega)
        refine Ev.congr (fun k => ?_) (by rw [Bool.false_or]; exact this)
        rw [if_pos (by omega), if_neg (by simp), if_neg z', w64 (by omega) (by omega), hc, l1]; rfl
      · have := ih (n - 64) (by omega) 0 hi true (by omega) hhi (by omega)
        refine Ev.congr (fun k => ?_) (by rw [Bool.true_or]; exact this)
        rw [if_pos (by omega), if_pos rfl, if_neg z', w64 (by omega) (by omega), hc]; rfl
  · refine Ev.all fun k => ?_
    rw [if_neg (by omega)]
    by_cases z : n = 0
    · subst z
      rw [if_pos (by omega)]
      have : (hi * 18446744073709551616 + lo) / 2 ^ 0 = hi * 18446744073709551616 + lo := by omega
      rw [this, tw, show (hi * 18446744073709551616 + lo) / 18446744073709551616 = hi by omega, show (hi * 18446744073709551616 + lo) % 18446744073709551616 = lo by omega]
      have : (hi * 18446744073709551616 + lo) % 2 ^ 0 = 0 := by omega
      rw [this]; simp
    · obtain ⟨a1, a2, a3, a4, a5, a6⟩ := shr_arith hi lo n hlo (by omega) (by omega)
      have hl : lo / 2 ^ n ≤ lo := Nat.div_le_self _ _
      have hd : hi / 2 ^ n ≤ hi := Nat.div_le_self _ _
      rw [if_neg (by omega), if_pos (by omega), w64 (by omega) (by omega), if_pos (by omega)]
      rw [show (64 : Int) - (n : Int) = ((64 - n : Nat) : Int) from by omega, shr_nat _ _ (by omega), shr_nat _ _ (by omega), shl_nat _ _ (by omega), shl_nat _ _ (by omega)]
      rw [or_join' _ _ (64 - n) (Nat.mod_lt _ (by decide)) a4 a3 (by omega), a1, a2]
      have l1 : (((lo * 2 ^ (64 - n) % 18446744073709551616 : Nat) : Int) != 0) = decide (lo % 2 ^ n ≠ 0) := by
        rw [Bool.eq_iff_iff]; simp only [bne_iff_ne, decide_eq_true_iff, Ne, ← a6]; omega
      generalize hi * 2 ^ (64 - n) % 18446744073709551616 + lo / 2 ^ n = d at *
      generalize hi / 2 ^ n = q at *
      rw [tw_join q d a5]
      cases lost
      · rw [if_neg (by simp), l1]; rfl
      · rw [if_pos rfl]; rfl
theorem U128_Shr (hi lo n : Nat) (h1 : hi < 18446744073709551616) (h2 : lo < 18446744073709551616) (hn : n < 1000000) :
    Ev (fun k => wide_U128_Shr.f k (hi : Int) (lo : Int) (n : Int)) ((tw ((hi * 18446744073709551616 + lo) / 2 ^ n)).1, (tw ((hi * 18446744073709551616 + lo) / 2 ^ n)).2, decide ((hi * 18446744073709551616 + lo) % 2 ^ n ≠ 0)) := by
  have := Shr_ev n hi lo false h1 h2 hn
  rw [Bool.false_or] at this; exact this
def bl (x : Nat) : Nat := if x = 0 then 0 else x.log2 + 1
theorem Len64_ok (x : Nat) (h : x < 18446744073709551616) : bits_Len64.f (x : Int) = some (bl x : Int) := by
  unfold bits_Len64.f bl
  rw [if_pos (by omega), Int.toNat_natCast]
  split
  · rename_i e; subst e; rfl
  · rename_i e; rw [bitLen_log2 x e h]
theorem log2_join (hi lo : Nat) (h : hi ≠ 0) (h2 : lo < 18446744073709551616) : (hi * 18446744073709551616 + lo).log2 = hi.log2 + 64 := by
  have a1 := Nat.log2_self_le h
  have a2 : hi < 2 ^ (hi.log2 + 1) := Nat.lt_log2_self
  have n0 : hi * 18446744073709551616 + lo ≠ 0 := by omega
  have b1 : hi.log2 + 64 ≤ (hi * 18446744073709551616 + lo).log2 := by
    rw [Nat.le_log2 n0, Nat.pow_add]; omega
  have b2 : (hi * 18446744073709551616 + lo).log2 < hi.log2 + 1 + 64 := by
    rw [Nat.log2_lt n0, Nat.pow_add]; omega
  omega
theorem bl_le {x n : Nat} (h : x < 2 ^ n) : bl x ≤ n := by
  unfold bl; split
  · omega
  · rename_i e; have := (Nat.log2_lt e).2 h; omega
theorem U128_Len (hi lo : Nat) (h1 : hi < 18446744073709551616) (h2 : lo < 18446744073709551616) :
    wide_U128_Len.f (hi : Int) (lo : Int) = some (bl (hi * 18446744073709551616 + lo) : Int) := by
  unfold wide_U128_Len.f
  by_cases c : hi = 0
  · subst c
    rw [if_neg (by omega), bind_of _ (Len64_ok lo h2), show 0 * 18446744073709551616 + lo = lo by omega]
  · rw [if_pos (by omega), bind_of _ (Len64_ok hi h1)]
    have := bl_le (x := hi) (n := 64) h1
    rw [w64 (by omega) (by omega)]
    unfold bl
    rw [if_neg c, if_neg (by omega), log2_join hi lo c h2]; congr 1; omega
end Go.Proofs.Ytmadjhmecfbcmaa.M
end
section
namespace Go.Proofs.Ytmadjhmecfbcmaa.M
open Go.RowKit Go.Proofs.YtmadjhmecfbcmaaW.PrintWords Go.Proofs.YtmadjhmecfbcmaaW.PrintLast Go.Proofs.YtmadjhmecfbcmaaW.PrintMore Go.Proofs.Ytmadjhmecfbcmaa.F
def FN (A : Nat) (e : Int) : Nat := A * 2 ^ (e + 1075).toNat
def FD (B : Nat) (e : Int) : Nat := B * 2 ^ (-(e + 1075)).toNat
def FX (A B : Nat) (e : Int) : Nat := FN A e / FD B e
def FS (A B : Nat) (e : Int) (rest : Bool) : Bool := rest || decide (FN A e % FD B e ≠ 0)
theorem shift_div (m p n : Nat) : m * 2 ^ p / 2 ^ n = if p ≤ n then m / 2 ^ (n - p) else m * 2 ^ (p - n) := by
  split
  · rename_i h
    have : 2 ^ n = 2 ^ p * 2 ^ (n - p) := by rw [← Nat.pow_add, show p + (n - p) = n by omega]
    rw [this, Nat.mul_comm m, Nat.mul_div_mul_left _ _ (two_pos p)]
  · rename_i h
    have : 2 ^ p = 2 ^ n * 2 ^ (p - n) := by rw [← Nat.pow_add, show n + (p - n) = p by omega]
    rw [this, Nat.mul_left_comm, Nat.mul_div_cancel_left _ (two_pos n)]
theorem shift_mod (m p n : Nat) : m * 2 ^ p % 2 ^ n = 0 ↔ n ≤ p ∨ m % 2 ^ (n - p) = 0 := by
  by_cases h : n ≤ p
  · have : 2 ^ p = 2 ^ n * 2 ^ (p - n) := by rw [← Nat.pow_add, show n + (p - n) = p by omega]
    rw [this, Nat.mul_left_comm, Nat.mul_mod_right]; simp [h]
  · have : 2 ^ n = 2 ^ p * 2 ^ (n - p) := by rw [← Nat.pow_add, show p + (n - p) = n by omega]
    rw [this, Nat.mul_comm m, Nat.mul_mod_mul_left, Nat.mul_eq_zero]
    have := two_pos p
    constructor
    · rintro (h2 | h2)
      · omega
      · exact .inr h2
    · rintro (h2 | h2)
      · omega
      · exact .inr h2
theorem FX_one (m : Nat) (e : Int) : FX m 1 e = m * 2 ^ (e + 1075).toNat / 2 ^ (-(e + 1075)).toNat := by unfold FX FN FD; rw [Nat.one_mul]
theorem FS_one (m : Nat) (e : Int) (r : Bool) : FS m 1 e r = (r || decide (m * 2 ^ (e + 1075).toNat % 2 ^ (-(e + 1075)).toNat ≠ 0)) := by unfold FS FN FD; rw [Nat.one_mul]
theorem bl_bd (m : Nat) (h : m ≠ 0) : 1 ≤ bl m ∧ 2 ^ (bl m - 1) ≤ m ∧ m < 2 ^ bl m := by
  unfold bl; rw [if_neg h]
  exact ⟨by omega, by rw [show m.log2 + 1 - 1 = m.log2 by omega]; exact Nat.log2_self_le h, Nat.lt_log2_self⟩
theorem FX_lt (m : Nat) (e : Int) (n : Nat) (h : (bl m : Int) + e + 1075 ≤ n) (h0 : m ≠ 0) : FX m 1 e < 2 ^ n := by
  have hb := bl_bd m h0
  rw [FX_one, Nat.div_lt_iff_lt_mul (two_pos _), ← Nat.pow_add]
  have h1 : m * 2 ^ (e + 1075).toNat < 2 ^ bl m * 2 ^ (e + 1075).toNat := Nat.mul_lt_mul_of_pos_right hb.2.2 (two_pos _)
  rw [← Nat.pow_add] at h1
  have h2 : 2 ^ (bl m + (e + 1075).toNat) ≤ 2 ^ (n + (-(e + 1075)).toNat) := pow_le (by omega)
  omega
theorem FX_ge (m : Nat) (e : Int) (n : Nat) (h : (n : Int) ≤ (bl m : Int) - 1 + e + 1075) (h0 : m ≠ 0) : 2 ^ n ≤ FX m 1 e := by
  have hb := bl_bd m h0
  rw [FX_one, Nat.le_div_iff_mul_le (two_pos _), ← Nat.pow_add]
  have h1 : 2 ^ (bl m - 1) * 2 ^ (e + 1075).toNat ≤ m * 2 ^ (e + 1075).toNat := Nat.mul_le_mul_right _ hb.2.1
  rw [← Nat.pow_add] at h1
  have h2 : 2 ^ (n + (-(e + 1075)).toNat) ≤ 2 ^ (bl m - 1 + (e + 1075).toNat) := pow_le (by omega)
  omega
theorem sh_FX (m : Nat) (e q : Int) (h0 : m ≠ 0) (hq : q = (bl m : Int) - 53 + e ∧ -1074 ≤ q ∨ q = -1074 ∧ (bl m : Int) - 53 + e ≤ -1074) : sh (FX m 1 e) = (q + 1075).toNat := by
  apply sh_unique
  by_cases c : q = -1074
  · left
    refine ⟨by omega, ?_⟩
    have := FX_lt m e 54 (by omega) h0
    omega
  · right
    refine ⟨by omega, ?_, ?_⟩
    · exact FX_ge m e _ (by omega) h0
    · exact FX_lt m e _ (by omega) h0
theorem keep_out (m : Nat) (e q : Int) (r : Bool) (h : -1074 ≤ q) (hs : sh (FX m 1 e) = (q + 1075).toNat) (hd : 0 < q - e) :
    wd (FX m 1 e) = m / 2 ^ (q - e).toNat ∧ hf (FX m 1 e) = (m / 2 ^ (q - e - 1).toNat % 2 == 1) ∧ rs (FX m 1 e) (FS m 1 e r) = (r || decide (m % 2 ^ (q - e - 1).toNat ≠ 0)) := by
  unfold wd hf rs
  rw [hs, FX_one, FS_one]
  have a1 : ∀ n, m * 2 ^ (e + 1075).toNat / 2 ^ (-(e + 1075)).toNat / 2 ^ n = m * 2 ^ (e + 1075).toNat / 2 ^ ((-(e + 1075)).toNat + n) := by
    intro n; rw [Nat.div_div_eq_div_mul, ← Nat.pow_add]
  refine ⟨?_, ?_, ?_⟩
  · rw [a1, shift_div, if_pos (by omega), show (-(e + 1075)).toNat + (q + 1075).toNat - (e + 1075).toNat = (q - e).toNat by omega]
  · rw [a1, shift_div, if_pos (by omega), show (-(e + 1075)).toNat + ((q + 1075).toNat - 1) - (e + 1075).toNat = (q - e - 1).toNat by omega]
  · rw [Bool.or_assoc]; congr 1
    rw [Bool.eq_iff_iff, Bool.or_eq_true, bne_iff_ne, decide_eq_true_iff, decide_eq_true_iff]
    have k : m * 2 ^ (e + 1075).toNat % 2 ^ ((-(e + 1075)).toNat + ((q + 1075).toNat - 1)) = 0 ↔ m * 2 ^ (e + 1075).toNat % 2 ^ (-(e + 1075)).toNat = 0 ∧ m * 2 ^ (e + 1075).toNat / 2 ^ (-(e + 1075)).toNat % 2 ^ ((q + 1075).toNat - 1) = 0 := by
      rw [Nat.pow_add, Nat.mod_mul]
      have := two_pos (-(e + 1075)).toNat
      constructor
      · intro h; obtain ⟨h1, h2⟩ := Nat.eq_zero_of_add_eq_zero h
        refine ⟨h1, ?_⟩
        rcases Nat.mul_eq_zero.1 h2 with h3 | h3
        · omega
        · exact h3
      · rintro ⟨h1, h2⟩; rw [h1, h2, Nat.mul_zero]
    rw [shift_mod, show (-(e + 1075)).toNat + ((q + 1075).toNat - 1) - (e + 1075).toNat = (q - e - 1).toNat by omega] at k
    constructor
    · intro h1 h2
      have := k.1 (.inr h2)
      rcases h1 with h1 | h1
      · exact h1 this.1
      · exact h1 this.2
    · intro h1
      by_cases c : m * 2 ^ (e + 1075).toNat % 2 ^ (-(e + 1075)).toNat = 0
      · right; intro h2
        rcases k.2 ⟨c, h2⟩ with h3 | h3
        · have : (q - e - 1).toNat = 0 := by omega
          rw [this] at h1; omega
        · exact h1 h3
      · exact .inl c
theorem keep_in (m : Nat) (e q : Int) (h : -1074 ≤ q) (hs : sh (FX m 1 e) = (q + 1075).toNat) (hd : q - e ≤ 0) :
    wd (FX m 1 e) = m * 2 ^ (e - q).toNat ∧ hf (FX m 1 e) = false ∧ rs (FX m 1 e) (FS m 1 e false) = false := by
  unfold wd hf rs
  have h0 : (-(e + 1075)).toNat = 0 := by omega
  rw [hs, FX_one, FS_one, h0]
  have e1 : 2 ^ (e + 1075).toNat = 2 ^ (q + 1075).toNat * 2 ^ (e - q).toNat := by rw [← Nat.pow_add]; congr 1; omega
  have e2 : 2 ^ (q + 1075).toNat = 2 ^ ((q + 1075).toNat - 1) * 2 := by rw [← Nat.pow_succ]; congr 1; omega
  rw [Nat.pow_zero, Nat.div_one]
  refine ⟨?_, ?_, ?_⟩
  · rw [e1, Nat.mul_left_comm, Nat.mul_div_cancel_left _ (two_pos _)]
  · rw [e1, e2, show m * (2 ^ ((q + 1075).toNat - 1) * 2 * 2 ^ (e - q).toNat) = 2 ^ ((q + 1075).toNat - 1) * (2 * (m * 2 ^ (e - q).toNat)) by grind, Nat.mul_div_cancel_left _ (two_pos _), beq_eq_false_iff_ne]
    omega
  · have : m * 2 ^ (e + 1075).toNat % 2 ^ ((q + 1075).toNat - 1) = 0 := by
      rw [e1, e2, show m * (2 ^ ((q + 1075).toNat - 1) * 2 * 2 ^ (e - q).toNat) = 2 ^ ((q + 1075).toNat - 1) * (2 * (m * 2 ^ (e - q).toNat)) by grind, Nat.mul_mod_right]
    rw [this]; simp [Nat.mod_one]
theorem up_ok (neg : Bool) (h l e : Int) (r0 : Bool) (mode : Nat) (odd half rest : Bool) :
    round_number_up.f neg h l e r0 (mode : Int) odd half rest = some (if dir neg mode = 1 then half || rest else if dir neg mode = 2 then false else half && (rest || odd)) := by
  unfold round_number_up.f round_number_away.f round_number_towards.f dir
  by_cases m1 : mode = 1
  · subst m1
    cases neg <;> cases half <;> cases rest <;> simp
  · by_cases m2 : mode = 2
    · subst m2
      cases neg <;> cases half <;> cases rest <;> simp
    · have c1 : ¬ (mode : Int) = 1 := by omega
      have c2 : ¬ (mode : Int) = 2 := by omega
      cases half <;> cases rest <;> simp [c1, c2, m1, m2]
theorem towards_ok (neg : Bool) (h l e : Int) (r0 : Bool) (mode : Nat) : round_number_towards.f neg h l e r0 (mode : Int) = some (decide (dir neg mode = 2)) := by
  unfold round_number_towards.f dir
  by_cases m1 : mode = 1
  · subst m1; cases neg <;> simp
  · by_cases m2 : mode = 2
    · subst m2; cases neg <;> simp
    · have c1 : ¬ (mode : Int) = 1 := by omega
      have c2 : ¬ (mode : Int) = 2 := by omega
      simp [c1, c2, m1, m2]
theorem over_ev (neg : Bool) (h l e : Int) (r0 : Bool) (mode : Nat) :
    Ev (fun k => round_number_over.f k neg h l e r0 (mode : Int)) (((sg neg + (if dir neg mode = 2 then 9218868437227405311 else 9218868437227405312) : Nat) : Int), 5) := by
  unfold round_number_over.f
  refine Ev.b _ (Inf_ev neg) (Ev.b _ (Ev.const (towards_ok neg h l e r0 mode)) (Ev.const ?_))
  by_cases c : dir neg mode = 2
  · rw [decide_eq_true c, if_pos rfl, if_pos c]
    cases neg <;> rfl
  · rw [decide_eq_false c, if_neg (by simp), if_neg c]
theorem bits_or_1_2 : bits .or .u8 1 2 = 3 := by decide
theorem j3_ev (neg : Bool) (h l e : Int) (r0 : Bool) (n q w : Nat) (inx : Bool) (hq : q ≤ 2045) (hw : w < 9007199254740992) (hn : n ≤ 1000) (he : -5000 ≤ e ∧ e ≤ 5000) :
    Ev (fun k => round_number_float.j3 k (n : Int) ((q : Int) - 1074) (w : Int) 0 inx neg h l e r0)
      (((sg neg + (if 4503599627370496 ≤ w then q * 4503599627370496 + w else w) : Nat) : Int), if inx then (if (n : Int) + e ≤ -1022 then 3 else 1) else 0) := by
  have hm : bits .and .u64 (w : Int) 4503599627370495 = ((w % 4503599627370496 : Nat) : Int) := and_52 w (by omega)
  have e1 : wrap64 (wrap64 ((q : Int) - 1074 - -1074) + 1) = ((q + 1 : Nat) : Int) := by rw [w64 (n := (q : Int) - 1074 - -1074) (by omega) (by omega), w64 (by omega) (by omega)]; omega
  have e2 : wrap64 ((n : Int) + e) = (n : Int) + e := w64 (by omega) (by omega)
  have mk1 : 4503599627370496 ≤ w → mk neg (q + 1) (w % 4503599627370496) = sg neg + (q * 4503599627370496 + w) := by intro hw2; unfold mk; omega
  have mk0 : w < 4503599627370496 → mk neg 0 (w % 4503599627370496) = sg neg + w := by intro hw2; unfold mk; omega
  refine Ev.next ?_
  simp only [round_number_float.j3]
  rw [hm, e1, e2, bits_or_1_2]
  by_cases c1 : 4503599627370496 ≤ w
  · have d1 : (w : Int) / 4503599627370496 = 1 := by omega
    have M := Make_ev neg (q + 1) (w % 4503599627370496) (by omega) (Nat.mod_lt _ (by decide))
    rw [mk1 c1] at M
    rw [if_pos c1]
    cases inx
    · exact Ev.congr (fun k => by rw [if_neg (by simp), if_pos d1]) (Ev.b (f := fun _ b => some (b.1, (0 : Int))) _ M (Ev.now _))
    · by_cases c2 : (n : Int) + e ≤ -1022
      · rw [if_pos rfl, if_pos c2]
        exact Ev.congr (fun k => by rw [if_pos rfl, if_pos c2, if_pos d1]) (Ev.b (f := fun _ b => some (b.1, (3 : Int))) _ M (Ev.now _))
      · rw [if_pos rfl, if_neg c2]
        exact Ev.congr (fun k => by rw [if_pos rfl, if_neg c2, if_pos d1]) (Ev.b (f := fun _ b => some (b.1, (1 : Int))) _ M (Ev.now _))
  · have d1 : ¬ (w : Int) / 4503599627370496 = 1 := by omega
    have M : Ev (fun k => pattern_Make.f k neg 0 ((w % 4503599627370496 : Nat) : Int)) ((mk neg 0 (w % 4503599627370496) : Int), 0) := Make_ev neg 0 (w % 4503599627370496) (by omega) (Nat.mod_lt _ (by decide))
    rw [mk0 (by omega)] at M
    rw [if_neg c1]
    cases inx
    · exact Ev.congr (fun k => by rw [if_neg (by simp), if_neg d1]) (Ev.b (f := fun _ b => some (b.1, (0 : Int))) _ M (Ev.now _))
    · by_cases c2 : (n : Int) + e ≤ -1022
      · rw [if_pos rfl, if_pos c2]
        exact Ev.congr (fun k => by rw [if_pos rfl, if_pos c2, if_neg d1]) (Ev.b (f := fun _ b => some (b.1, (3 : Int))) _ M (Ev.now _))
      · rw [if_pos rfl, if_neg c2]
        exact Ev.congr (fun k => by rw [if_pos rfl, if_neg c2, if_neg d1]) (Ev.b (f := fun _ b => some (b.1, (1 : Int))) _ M (Ev.now _))
theorem j1_ev (neg : Bool) (h l e : Int) (r0 : Bool) (mode n q w : Nat) (half rest : Bool) (hq : q ≤ 20000) (hw : w ≤ 9007199254740992) (hn : n ≤ 1000) (he : -5000 ≤ e ∧ e ≤ 5000)
    (hp : q = 0 ∨ 4503599627370496 ≤ w) :
    Ev (fun k => round_number_float.j1 k (mode : Int) (n : Int) ((q : Int) - 1074) half rest (w : Int) neg h l e r0)
      (if 9218868437227405312 ≤ q * 4503599627370496 + w then (((sg neg + (if dir neg mode = 2 then 9218868437227405311 else 9218868437227405312) : Nat) : Int), 5)
       else (((sg neg + (q * 4503599627370496 + w) : Nat) : Int), if half || rest then (if (n : Int) + e ≤ -1022 then 3 else 1) else 0)) := by
  have J2 : ∀ (q w : Nat), q ≤ 20001 → w < 9007199254740992 → (q = 0 ∨ 4503599627370496 ≤ w) →
      Ev (fun k => round_number_float.j2 k (mode : Int) (n : Int) ((q : Int) - 1074) half rest (w : Int) neg h l e r0)
      (if 9218868437227405312 ≤ q * 4503599627370496 + w then (((sg neg + (if dir neg mode = 2 then 9218868437227405311 else 9218868437227405312) : Nat) : Int), 5)
       else (((sg neg + (q * 4503599627370496 + w) : Nat) : Int), if half || rest then (if (n : Int) + e ≤ -1022 then 3 else 1) else 0)) := by
    intro q w hq hw hp
    refine Ev.next ?_
    simp only [round_number_float.j2]
    by_cases c : (q : Int) - 1074 > 971
    · rw [if_pos (by omega)]
      exact Ev.congr (fun k => by rw [if_pos c]) (Ev.b _ (over_ev neg h l e r0 mode) (Ev.now _))
    · rw [if_neg (by omega)]
      have J := j3_ev neg h l e r0 n q w (half || rest) (by omega) hw hn he
      have e1 : (if 4503599627370496 ≤ w then q * 4503599627370496 + w else w) = q * 4503599627370496 + w := by split <;> omega
      rw [e1] at J
      cases half
      · exact Ev.congr (fun k => by rw [if_neg c, if_neg (by simp)]; rfl) J
      · exact Ev.congr (fun k => by rw [if_neg c, if_pos rfl]; rfl) J
  refine Ev.next ?_
  simp only [round_number_float.j1]
  by_cases c : w = 9007199254740992
  · have e1 : wrap64 ((q : Int) - 1074 + 1) = ((q + 1 : Nat) : Int) - 1074 := by rw [w64 (by omega) (by omega)]; omega
    have e2 : (w : Int) / 2 = ((4503599627370496 : Nat) : Int) := by omega
    have J := J2 (q + 1) 4503599627370496 (by omega) (by omega) (by omega)
    rw [show (q + 1) * 4503599627370496 + 4503599627370496 = q * 4503599627370496 + w by omega] at J
    exact Ev.congr (fun k => by rw [if_pos (by omega), e1, e2]) J
  · exact Ev.congr (fun k => by rw [if_neg (by omega)]) (J2 q w (by omega) (by omega) hp)
def pr (r : Nat × Nat) : Int × Int := ((r.1 : Int), (r.2 : Int))
theorem tail_ev (neg : Bool) (m : Nat) (e : Int) (rest r0 : Bool) (mode : Nat) (h l hi lo : Int) (q : Nat) (w : Nat) (half rst : Bool) (hm : m ≠ 0) (hL : bl m ≤ 128) (he : -5000 ≤ e ∧ e ≤ 5000) (hq : q ≤ 10000)
    (hs : sh (FX m 1 e) = q + 1) (h1 : wd (FX m 1 e) = w) (h2 : hf (FX m 1 e) = half) (h3 : rs (FX m 1 e) (FS m 1 e rest) = rst) (hlo : lo = (w : Int)) :
    Ev (fun k => round_number_float.j0 k (mode : Int) (bl m : Int) ((q : Int) - 1074) half rst neg h l e r0 hi lo) (pr (RND neg (FX m 1 e) (FS m 1 e rest) mode)) := by
  subst hlo
  have hwl := wd_lt (FX m 1 e)
  rw [h1] at hwl
  have hwg : q = 0 ∨ 4503599627370496 ≤ w := by
    by_cases c : q = 0
    · exact .inl c
    · right; rw [← h1]; exact wd_ge _ (by omega)
  have hfk : fk (FX m 1 e) = q * 4503599627370496 + w := by unfold fk; rw [hs, h1]; congr 1
  have hX : FX m 1 e < 9007199254740992 ↔ (bl m : Int) + e ≤ -1022 := by
    constructor
    · intro hh
      by_cases c : (bl m : Int) + e ≤ -1022
      · exact c
      · have := FX_ge m e 53 (by omega) hm
        omega
    · intro hh
      have := FX_lt m e 53 (by omega) hm
      omega
  have hodd : FX m 1 e / 2 ^ sh (FX m 1 e) = w := h1
  refine Ev.next ?_
  simp only [round_number_float.j0]
  have hand : (bits .and .u64 (w : Int) 1 == 1) = (w % 2 == 1) := by
    rw [and_1 w (by omega), Bool.eq_iff_iff, beq_iff_eq, beq_iff_eq]; omega
  rw [hand]
  have hu := up_ok neg h l e r0 mode (w % 2 == 1) half rst
  refine Ev.b _ (Ev.const hu) ?_
  have hup : upw (FX m 1 e) (FS m 1 e rest) (dir neg mode) = (if dir neg mode = 1 then half || rst else if dir neg mode = 2 then false else half && (rst || (w % 2 == 1))) := by
    unfold upw; rw [h2, h3, hodd]
  rw [← hup]
  have key : ∀ (b : Bool), upw (FX m 1 e) (FS m 1 e rest) (dir neg mode) = b → (if 9218868437227405312 ≤ q * 4503599627370496 + (w + if b then 1 else 0) then (((sg neg + (if dir neg mode = 2 then 9218868437227405311 else 9218868437227405312) : Nat) : Int), 5)
       else (((sg neg + (q * 4503599627370496 + (w + if b then 1 else 0)) : Nat) : Int), if half || rst then (if (bl m : Int) + e ≤ -1022 then 3 else 1) else 0)) = pr (RND neg (FX m 1 e) (FS m 1 e rest) mode) := by
    intro b hb
    have hk : kk (FX m 1 e) (FS m 1 e rest) (dir neg mode) = q * 4503599627370496 + (w + if b = true then 1 else 0) := by
      unfold kk; rw [hb, hfk, Nat.add_assoc]
    by_cases c : 9218868437227405312 ≤ q * 4503599627370496 + (w + if b then 1 else 0)
    · rw [if_pos c, RND_over (by rw [hk]; exact c)]; rfl
    · rw [if_neg c, RND_in (by rw [hk]; exact c), hk, h2, h3]
      have e3 : (if (half || rst) = true then (if (bl m : Int) + e ≤ -1022 then (3 : Int) else 1) else 0) = ((if (half || rst) = true then (if FX m 1 e < 9007199254740992 then 3 else 1) else 0 : Nat) : Int) := by
        cases half || rst
        · rfl
        · by_cases c2 : (bl m : Int) + e ≤ -1022
          · rw [if_pos rfl, if_pos rfl, if_pos c2, if_pos (hX.2 c2)]; rfl
          · rw [if_pos rfl, if_pos rfl, if_neg c2, if_neg (fun hh => c2 (hX.1 hh))]; rfl
      rw [e3]; rfl
  cases hb : upw (FX m 1 e) (FS m 1 e rest) (dir neg mode)
  · have K := key false hb
    rw [show (w + if false = true then 1 else 0) = w from by simp] at K
    rw [← K]
    exact Ev.congr (fun k => by rw [if_neg (by simp)]) (j1_ev neg h l e r0 mode (bl m) q w half rst (by omega) (by omega) (by omega) he (by omega))
  · have K := key true hb
    rw [show (w + if true = true then 1 else 0) = w + 1 from by simp] at K
    rw [← K]
    have e1 : IntKind.u64.wrap ((w : Int) + 1) = ((w + 1 : Nat) : Int) := by rw [wu64 (by omega) (by omega)]; omega
    exact Ev.congr (fun k => by rw [if_pos rfl, e1]) (j1_ev neg h l e r0 mode (bl m) q (w + 1) half rst (by omega) (by omega) (by omega) he (by omega))
end Go.Proofs.Ytmadjhmecfbcmaa.M
end
section
namespace Go.Proofs.Ytmadjhmecfbcmaa.M
open Go.RowKit Go.Proofs.YtmadjhmecfbcmaaW.PrintWords Go.Proofs.YtmadjhmecfbcmaaW.PrintLast Go.Proofs.YtmadjhmecfbcmaaW.PrintMore Go.Proofs.Ytmadjhmecfbcmaa.F
theorem tw_lo (V : Nat) : (tw V).2 = ((V % 18446744073709551616 : Nat) : Int) := rfl
theorem words (m : Nat) : m / 18446744073709551616 * 18446744073709551616 + m % 18446744073709551616 = m := by omega
theorem word_lt (m : Nat) : m % 18446744073709551616 < 18446744073709551616 := Nat.mod_lt _ (by decide)
theorem word_hi_lt {m : Nat} (h : m < 340282366920938463463374607431768211456) : m / 18446744073709551616 < 18446744073709551616 := by omega
theorem bl_small {m n : Nat} (h : bl m ≤ n) : m < 2 ^ n := by
  by_cases c : m = 0
  · subst c; exact two_pos n
  · have := (bl_bd m c).2.2
    have : 2 ^ bl m ≤ 2 ^ n := pow_le h
    omega
theorem Shl_tw (m n : Nat) (hm : m < 340282366920938463463374607431768211456) (hn : n < 1000000) :
    Ev (fun k => wide_U128_Shl.f k (tw m).1 (tw m).2 (n : Int)) (tw (m * 2 ^ n % 340282366920938463463374607431768211456)) := by
  have := U128_Shl (m / 18446744073709551616) (m % 18446744073709551616) n (word_hi_lt hm) (word_lt m) hn
  rw [words] at this; exact this
theorem Shr_tw (m n : Nat) (hm : m < 340282366920938463463374607431768211456) (hn : n < 1000000) :
    Ev (fun k => wide_U128_Shr.f k (tw m).1 (tw m).2 (n : Int)) ((tw (m / 2 ^ n)).1, (tw (m / 2 ^ n)).2, decide (m % 2 ^ n ≠ 0)) := by
  have := U128_Shr (m / 18446744073709551616) (m % 18446744073709551616) n (word_hi_lt hm) (word_lt m) hn
  rw [words] at this; exact this
theorem Len_tw (m : Nat) (hm : m < 340282366920938463463374607431768211456) : wide_U128_Len.f (tw m).1 (tw m).2 = some (bl m : Int) := by
  have := U128_Len (m / 18446744073709551616) (m % 18446744073709551616) (word_hi_lt hm) (word_lt m)
  rw [words] at this; exact this
theorem mx_eq (a b : Int) : mx a b = max a b := by unfold mx; omega
theorem mn_eq (a b : Int) : mn a b = min a b := by unfold mn; omega
theorem float_ev (neg : Bool) (m : Nat) (e : Int) (rest : Bool) (mode : Nat) (hm : m ≠ 0) (hm2 : m < 340282366920938463463374607431768211456) (he : -5000 ≤ e ∧ e ≤ 5000) (hr : rest = true → 53 < bl m) :
    Ev (fun k => round_number_float.f k neg (tw m).1 (tw m).2 e rest (mode : Int)) (pr (RND neg (FX m 1 e) (FS m 1 e rest) mode)) := by
  have hL : bl m ≤ 128 := bl_le (n := 128) hm2
  have hL1 := (bl_bd m hm).1
  obtain ⟨q, hq⟩ : ∃ q : Nat, max ((bl m : Int) - 53 + e) (-1074) = (q : Int) - 1074 := ⟨(max ((bl m : Int) - 53 + e) (-1074) + 1074).toNat, by omega⟩
  have hsh : sh (FX m 1 e) = q + 1 := by
    rw [sh_FX m e ((q : Int) - 1074) hm (by omega)]; omega
  have hsh' : sh (FX m 1 e) = ((q : Int) - 1074 + 1075).toNat := by rw [hsh]; omega
  have w1 : wrap64 ((bl m : Int) - 53) = (bl m : Int) - 53 := w64 (by omega) (by omega)
  have w2 : wrap64 ((bl m : Int) - 53 + e) = (bl m : Int) - 53 + e := w64 (by omega) (by omega)
  have w3 : wrap64 ((q : Int) - 1074 - e) = (q : Int) - 1074 - e := w64 (by omega) (by omega)
  unfold round_number_float.f
  refine Ev.b _ (Ev.const (Len_tw m hm2)) ?_
  rw [w1, w2, mx_eq, hq, w3]
  by_cases c : (q : Int) - 1074 - e > 0
  · have w4 : wrap64 ((q : Int) - 1074 - e - 1) = (((q : Int) - 1074 - e - 1).toNat : Int) := by rw [w64 (by omega) (by omega)]; omega
    obtain ⟨k1, k2, k3⟩ := keep_out m e ((q : Int) - 1074) rest (by omega) hsh' c
    have S1 := Shr_tw m ((q : Int) - 1074 - e - 1).toNat hm2 (by omega)
    have hM : m / 2 ^ ((q : Int) - 1074 - e - 1).toNat ≤ m := Nat.div_le_self _ _
    have S2 := Shr_tw (m / 2 ^ ((q : Int) - 1074 - e - 1).toNat) 1 (by omega) (by omega)
    rw [show ((1 : Nat) : Int) = 1 from rfl] at S2
    have e1 : m / 2 ^ ((q : Int) - 1074 - e - 1).toNat / 2 ^ 1 = m / 2 ^ ((q : Int) - 1074 - e).toNat := by
      rw [Nat.div_div_eq_div_mul, ← Nat.pow_add]; congr 2; omega
    have hh : (bits .and .u64 (tw (m / 2 ^ ((q : Int) - 1074 - e - 1).toNat)).2 1 == 1) = (m / 2 ^ ((q : Int) - 1074 - e - 1).toNat % 2 == 1) := by
      rw [tw_lo, and_1 _ (word_lt _), Bool.eq_iff_iff, beq_iff_eq, beq_iff_eq]; omega
    have hw : m / 2 ^ ((q : Int) - 1074 - e).toNat < 18446744073709551616 := by
      rw [← k1]; have := wd_lt (FX m 1 e); omega
    refine Ev.congr (fun k => by rw [if_pos c, w4]) (Ev.b _ S1 ?_)
    dsimp only
    rw [hh]
    cases rest
    · refine Ev.congr (fun k => by rw [if_neg (by simp)]) (Ev.b _ S2 ?_)
      dsimp only
      exact tail_ev neg m e false false mode _ _ _ _ q _ _ _ hm hL he (by omega) hsh k1 k2 (by rw [k3, Bool.false_or]) (by rw [tw_lo, e1, Nat.mod_eq_of_lt hw])
    · refine Ev.congr (fun k => by rw [if_pos rfl]) (Ev.b _ S2 ?_)
      dsimp only
      exact tail_ev neg m e true true mode _ _ _ _ q _ _ _ hm hL he (by omega) hsh k1 k2 (by rw [k3, Bool.true_or]) (by rw [tw_lo, e1, Nat.mod_eq_of_lt hw])
  · have hr2 : rest = false := by
      cases rest
      · rfl
      · have := hr rfl; omega
    subst hr2
    obtain ⟨k1, k2, k3⟩ := keep_in m e ((q : Int) - 1074) (by omega) hsh' (by omega)
    have w4 : wrap64 (-((q : Int) - 1074 - e)) = ((e - ((q : Int) - 1074)).toNat : Int) := by rw [w64 (by omega) (by omega)]; omega
    have S1 := Shl_tw m (e - ((q : Int) - 1074)).toNat hm2 (by omega)
    have hw : m * 2 ^ (e - ((q : Int) - 1074)).toNat < 9007199254740992 := by rw [← k1]; exact wd_lt _
    rw [Nat.mod_eq_of_lt (by omega)] at S1
    refine Ev.congr (fun k => by rw [if_neg c, w4]) (Ev.b _ S1 ?_)
    exact tail_ev neg m e false false mode _ _ _ _ q _ _ _ hm hL he (by omega) hsh k1 k2 k3 (by rw [tw_lo, Nat.mod_eq_of_lt (by omega)])
def cl (e : Int) : Int := min (max e (-5000)) 5000
theorem Round_ev (neg : Bool) (m : Nat) (e : Int) (rest : Bool) (mode : Nat) (hm2 : m < 340282366920938463463374607431768211456) :
    Ev (fun k => round_Round.f k neg (tw m).1 (tw m).2 e rest (mode : Int))
      (if m = 0 then ((sg neg : Int), 0) else pr (RND neg (FX m 1 (cl e)) (FS m 1 (cl e) (rest && decide (53 < bl m))) mode)) := by
  unfold round_Round.f
  refine Ev.b _ (Ev.const (Len_tw m hm2)) ?_
  by_cases c : m = 0
  · rw [if_pos c]
    have : (bl m : Int) = 0 := by rw [c]; rfl
    refine Ev.congr (fun k => by rw [if_pos this]) (Ev.b (f := fun _ b => some (b.1, (0 : Int))) _ (show Ev (fun k => pattern_Make.f k neg 0 0) ((mk neg 0 0 : Int), 0) from Make_ev neg 0 0 (by omega) (by omega)) (Ev.now _))
  · rw [if_neg c]
    have h1 := (bl_bd m c).1
    have c2 : ¬ (bl m : Int) = 0 := by omega
    have e1 : mn (mx e (-5000)) 5000 = cl e := by rw [mx_eq, mn_eq]; rfl
    rw [e1]
    have hc : -5000 ≤ cl e ∧ cl e ≤ 5000 := by unfold cl; omega
    have e2 : decide ((bl m : Int) > 53) = decide (53 < bl m) := by rw [Bool.eq_iff_iff, decide_eq_true_iff, decide_eq_true_iff]; omega
    rw [e2]
    cases rest
    · exact Ev.congr (fun k => by rw [if_neg c2, if_neg (by simp)]) (Ev.b (f := fun _ b => some (b.1, b.2)) _ (float_ev neg m (cl e) false mode c hm2 hc (by simp)) (Ev.now _))
    · exact Ev.congr (fun k => by rw [if_neg c2, if_pos rfl]) (Ev.b (f := fun _ b => some (b.1, b.2)) _ (float_ev neg m (cl e) (decide (53 < bl m)) mode c hm2 hc (by simp)) (Ev.now _))
end Go.Proofs.Ytmadjhmecfbcmaa.M
end
section
namespace Go.Proofs.Ytmadjhmecfbcmaa.M
open Go.RowKit Go.Proofs.YtmadjhmecfbcmaaW.PrintWords Go.Proofs.YtmadjhmecfbcmaaW.PrintLast Go.Proofs.YtmadjhmecfbcmaaW.PrintMore Go.Proofs.Ytmadjhmecfbcmaa.F
def QN : Nat := 9221120237041090560
def INF : Nat := 9218868437227405312
def mg (a : Nat) : Nat := magk (key a)
def sv (a : Nat) : Int := if sgn a then -(mg a : Int) else mg a
theorem key_cls (a : Nat) : (cls a ≤ 2 ↔ key a < 9218868437227405312) ∧ (cls a = 3 ↔ key a = 9218868437227405312) ∧ (cls a = 4 ↔ 9218868437227405312 < key a) ∧ (cls a = 0 ↔ key a = 0) := by
  rw [key_parts' a]
  have h1 := ex_lt a
  have h2 := fr_lt a
  unfold cls
  refine ⟨?_, ?_, ?_, ?_⟩ <;> (repeat' split) <;> omega
theorem mg_split (a : Nat) (h : cls a ≤ 2) : mg a = spm a * 2 ^ (spe a + 1074).toNat := by
  have h2 := fr_lt a
  have e1 : key a / 4503599627370496 = ex a := by rw [key_parts' a]; omega
  have e2 : key a % 4503599627370496 = fr a := by rw [key_parts' a]; omega
  unfold mg magk
  rw [e1, e2]
  unfold spm spe
  unfold cls at h ⊢
  by_cases c1 : ex a = 2047
  · rw [if_pos c1] at h; split at h <;> omega
  · rw [if_neg c1]
    by_cases c2 : ex a = 0
    · rw [if_pos c2, if_pos c2]
      by_cases c3 : fr a = 0
      · rw [if_pos c3, c3, if_neg (by decide), if_neg (by decide), Nat.zero_mul]
      · rw [if_neg c3, if_neg (by decide), if_pos rfl, if_neg (by decide), if_pos rfl, show ((-1074 : Int) + 1074).toNat = 0 from rfl, Nat.pow_zero, Nat.mul_one]
    · rw [if_neg c2, if_neg c2, if_pos rfl, if_pos rfl, show ((ex a : Int) - 1075 + 1074).toNat = ex a - 1 by omega]
theorem mg_zero (a : Nat) : mg a = 0 ↔ cls a = 0 := by
  rw [(key_cls a).2.2.2]
  have h0 : magk 0 = 0 := by unfold magk; simp
  constructor
  · intro h; apply magk_inj; rw [h0]; exact h
  · intro h; unfold mg; rw [h, h0]
theorem spm_zero (a : Nat) (h : cls a ≤ 2) : spm a = 0 ↔ cls a = 0 := by
  rw [← mg_zero, mg_split a h, Nat.mul_eq_zero]
  have := two_pos (spe a + 1074).toNat
  omega
theorem fk_magk (k : Nat) : fk (2 * magk k) = k := by
  have h1 : k ≤ fk (2 * magk k) := (fk_iff _ _).1 (Nat.le_refl _)
  have h2 := fk_le (2 * magk k)
  have h3 := magk_le_iff.1 (show magk (fk (2 * magk k)) ≤ magk k by omega)
  omega
theorem RND_exact (neg : Bool) (k mode : Nat) (h : k < 9218868437227405312) : RND neg (2 * magk k) false mode = (sg neg + k, 0) := by
  have hx : (hf (2 * magk k) || rs (2 * magk k) false) = false := by rw [exact_iff, fk_magk]; exact ⟨rfl, rfl⟩
  have hu : upw (2 * magk k) false (dir neg mode) = false := by
    unfold upw
    rw [Bool.or_eq_false_iff] at hx
    rw [hx.1, hx.2]; simp
  have hk : kk (2 * magk k) false (dir neg mode) = k := by unfold kk; rw [hu, fk_magk]; rfl
  rw [RND_in (by rw [hk]; omega), hk, hx]; rfl
theorem RND_sticky (neg : Bool) (X Y g : Nat) (s : Bool) (mode : Nat) (h1 : X / 2 ^ g = Y / 2 ^ g) (h2 : X % 2 ^ g = 0) (h3 : 9007199254740992 ≤ X / 2 ^ g) (h4 : s = true ∨ Y % 2 ^ g ≠ 0) :
    RND neg X true mode = RND neg Y s mode := by
  by_cases g0 : g = 0
  · subst g0
    rw [Nat.pow_zero, Nat.div_one, Nat.div_one] at h1
    rw [Nat.pow_zero, Nat.mod_one] at h4
    have : s = true := by rcases h4 with h4 | h4; exact h4; exact absurd rfl h4
    rw [h1, this]
  have hz : X / 2 ^ g ≠ 0 := by omega
  have pg := two_pos g
  have hX := Nat.div_add_mod X (2 ^ g)
  have hY := Nat.div_add_mod Y (2 ^ g)
  have mX := Nat.mod_lt X pg
  have mY := Nat.mod_lt Y pg
  obtain ⟨Z, hZ⟩ : ∃ Z, X / 2 ^ g = Z := ⟨_, rfl⟩
  rw [← h1] at hY
  rw [hZ] at h1 h3 hz hX hY
  have zl := Nat.log2_self_le hz
  have zu : Z < 2 ^ (Z.log2 + 1) := Nat.lt_log2_self
  have z53 : 53 ≤ Z.log2 := by rw [Nat.le_log2 hz]; omega
  have lo : ∀ W, 2 ^ g * Z ≤ W → W < 2 ^ g * (Z + 1) → sh W = Z.log2 + g - 52 := by
    intro W w1 w2
    apply sh_unique
    right
    refine ⟨by omega, ?_, ?_⟩
    · have : 2 ^ g * 2 ^ Z.log2 ≤ 2 ^ g * Z := Nat.mul_le_mul_left _ zl
      rw [← Nat.pow_add, show g + Z.log2 = Z.log2 + g - 52 + 52 by omega] at this; exact Nat.le_trans this w1
    · have : 2 ^ g * (Z + 1) ≤ 2 ^ g * 2 ^ (Z.log2 + 1) := Nat.mul_le_mul_left _ zu
      rw [← Nat.pow_add, show g + (Z.log2 + 1) = Z.log2 + g - 52 + 53 by omega] at this; exact Nat.lt_of_lt_of_le w2 this
  have e0 : 2 ^ g * (Z + 1) = 2 ^ g * Z + 2 ^ g := by rw [Nat.mul_add, Nat.mul_one]
  have sX := lo X (by omega) (by omega)
  have sY := lo Y (by omega) (by omega)
  obtain ⟨v, hv⟩ : ∃ v, Z.log2 + g - 52 = g + (v + 1) := ⟨Z.log2 - 53, by omega⟩
  rw [hv] at sX sY
  have dX : ∀ n, X / 2 ^ (g + n) = Z / 2 ^ n := by intro n; rw [Nat.pow_add, ← Nat.div_div_eq_div_mul, hZ]
  have dY : ∀ n, Y / 2 ^ (g + n) = Z / 2 ^ n := by intro n; rw [Nat.pow_add, ← Nat.div_div_eq_div_mul, ← h1]
  have ew : wd X = wd Y := by unfold wd; rw [sX, sY, dX, dY]
  have eh : hf X = hf Y := by unfold hf; rw [sX, sY, show g + (v + 1) - 1 = g + v by omega, dX, dY]
  have er1 : rs X true = true := rfl
  have er2 : rs Y s = true := by
    unfold rs
    rcases h4 with h4 | h4
    · rw [h4]; rfl
    · have : Y % 2 ^ (sh Y - 1) ≠ 0 := by
        rw [sY, show g + (v + 1) - 1 = g + v by omega, Nat.pow_add, Nat.mod_mul]; omega
      rw [bne_iff_ne.2 this, Bool.or_true]
  have ef : fk X = fk Y := by unfold fk; rw [ew, sX, sY]
  have eu : upw X true (dir neg mode) = upw Y s (dir neg mode) := by unfold upw; rw [eh, er1, er2, sX, sY, dX, dY]
  have ek : kk X true (dir neg mode) = kk Y s (dir neg mode) := by unfold kk; rw [ef, eu]
  have gX : ¬ X < 9007199254740992 := by
    have : 1 * Z ≤ 2 ^ g * Z := Nat.mul_le_mul_right _ pg
    omega
  have gY : ¬ Y < 9007199254740992 := by
    have : 1 * Z ≤ 2 ^ g * Z := Nat.mul_le_mul_right _ pg
    omega
  unfold RND rnd
  rw [ek, eh, er1, er2, if_neg gX, if_neg gY]
theorem two_step (neg : Bool) (A B : Nat) (E : Int) (mode : Nat) (hB : 0 < B) (h : A % B = 0 ∨ 9007199254740992 ≤ A / B) :
    RND neg (FX (A / B) 1 E) (FS (A / B) 1 E (decide (A % B ≠ 0))) mode = RND neg (FX A B E) (FS A B E false) mode := by
  rw [FX_one, FS_one]
  unfold FX FS FN FD
  rw [Bool.false_or]
  have hAB := Nat.div_add_mod A B
  by_cases c : 0 ≤ E + 1075
  · have h0 : (-(E + 1075)).toNat = 0 := by omega
    rw [h0, Nat.pow_zero, Nat.div_one, Nat.mul_one]
    generalize (E + 1075).toNat = g at *
    have pg := two_pos g
    have hm1 : A / B * 2 ^ g % 1 = 0 := Nat.mod_one _
    rw [hm1]
    by_cases z : A % B = 0
    · have e1 : A * 2 ^ g = B * (A / B * 2 ^ g) := by rw [← Nat.mul_assoc]; congr 1; omega
      rw [e1, Nat.mul_div_cancel_left _ hB, Nat.mul_mod_right, z]; rfl
    · have hq : 9007199254740992 ≤ A / B := by omega
      rw [decide_eq_true z, Bool.true_or]
      have d1 : A / B * 2 ^ g / 2 ^ g = A / B := Nat.mul_div_cancel _ pg
      have d2 : A * 2 ^ g / B / 2 ^ g = A / B := by rw [Nat.div_div_eq_div_mul, Nat.mul_div_mul_right _ _ pg]
      apply RND_sticky neg _ _ g
      · rw [d1, d2]
      · exact Nat.mul_mod_left _ _
      · rw [d1]; exact hq
      · by_cases y : A * 2 ^ g % B = 0
        · right
          intro y2
          have k1 := Nat.div_add_mod (A * 2 ^ g) B
          have k2 := Nat.div_add_mod (A * 2 ^ g / B) (2 ^ g)
          rw [d2] at k2
          have k3 : A * 2 ^ g = B * (A / B) * 2 ^ g := by
            have : A * 2 ^ g / B = 2 ^ g * (A / B) := by omega
            rw [this] at k1
            have k4 : B * (2 ^ g * (A / B)) = B * (A / B) * 2 ^ g := by grind
            omega
          have := Nat.eq_of_mul_eq_mul_right pg k3
          omega
        · left; rw [decide_eq_true y]
  · have h0 : (E + 1075).toNat = 0 := by omega
    rw [h0, Nat.pow_zero, Nat.mul_one, Nat.mul_one]
    generalize (-(E + 1075)).toNat = r at *
    rw [Nat.div_div_eq_div_mul]
    congr 1
    rw [Bool.eq_iff_iff, Bool.or_eq_true, decide_eq_true_iff, decide_eq_true_iff, decide_eq_true_iff, Nat.mod_mul]
    constructor
    · rintro (h1 | h1) h2
      · omega
      · obtain ⟨_, h3⟩ := Nat.eq_zero_of_add_eq_zero h2
        rcases Nat.mul_eq_zero.1 h3 with h4 | h4
        · omega
        · exact h1 h4
    · intro h1
      by_cases y : A % B = 0
      · right; intro y2; apply h1; rw [y, y2, Nat.mul_zero]
      · exact .inl y
theorem FXS_scale (A B T : Nat) (E : Int) (r : Bool) : FX (A * 2 ^ T) B (E - T) = FX A B E ∧ FS (A * 2 ^ T) B (E - T) r = FS A B E r := by
  have key : ∃ u, FN (A * 2 ^ T) (E - T) = 2 ^ u * FN A E ∧ FD B (E - T) = 2 ^ u * FD B E := by
    refine ⟨T + (E - T + 1075).toNat - (E + 1075).toNat, ?_, ?_⟩
    · unfold FN
      rw [Nat.mul_assoc, ← Nat.pow_add, Nat.mul_left_comm, ← Nat.pow_add]; congr 2; omega
    · unfold FD
      rw [Nat.mul_left_comm, ← Nat.pow_add]; congr 2; omega
  obtain ⟨u, k1, k2⟩ := key
  unfold FX FS
  rw [k1, k2, Nat.mul_div_mul_left _ _ (two_pos u), Nat.mul_mod_mul_left]
  refine ⟨rfl, ?_⟩
  congr 2
  rw [Ne, Nat.mul_eq_zero, eq_iff_iff]
  have := two_pos u
  constructor
  · intro h1 h2; exact h1 (.inr h2)
  · rintro h1 (h2 | h2)
    · omega
    · exact h1 h2
def sAdd (a b mode : Nat) : Nat × Nat :=
  if cls a = 4 ∨ cls b = 4 then (QN, 0)
  else if cls a = 3 ∧ cls b = 3 ∧ sgn a ≠ sgn b then (QN, 16)
  else if cls a = 3 then (a, 0)
  else if cls b = 3 then (b, 0)
  else if sv a + sv b = 0 then (sg (if sgn a = sgn b then sgn a else decide (mode = 2)), 0)
  else RND (decide (sv a + sv b < 0)) (2 * (sv a + sv b).natAbs) false mode
def sMul (a b mode : Nat) : Nat × Nat :=
  if cls a = 4 ∨ cls b = 4 then (QN, 0)
  else if cls a = 3 ∧ cls b = 0 ∨ cls a = 0 ∧ cls b = 3 then (QN, 16)
  else if cls a = 3 ∨ cls b = 3 then (sg (sgn a != sgn b) + INF, 0)
  else if spm a * spm b = 0 then (sg (sgn a != sgn b), 0)
  else RND (sgn a != sgn b) (FX (spm a * spm b) 1 (spe a + spe b)) (FS (spm a * spm b) 1 (spe a + spe b) false) mode
def sDiv (a b mode : Nat) : Nat × Nat :=
  if cls a = 4 ∨ cls b = 4 then (QN, 0)
  else if cls a = 3 ∧ cls b = 3 ∨ cls a = 0 ∧ cls b = 0 then (QN, 16)
  else if cls a = 3 then (sg (sgn a != sgn b) + INF, 0)
  else if cls b = 0 then (sg (sgn a != sgn b) + INF, 8)
  else if cls a = 0 ∨ cls b = 3 then (sg (sgn a != sgn b), 0)
  else RND (sgn a != sgn b) (FX (spm a) (spm b) (spe a - spe b)) (FS (spm a) (spm b) (spe a - spe b) false) mode
end Go.Proofs.Ytmadjhmecfbcmaa.M
end
section
namespace Go.Proofs.Ytmadjhmecfbcmaa.M
open Go.RowKit Go.Proofs.YtmadjhmecfbcmaaW.PrintWords Go.Proofs.YtmadjhmecfbcmaaW.PrintLast Go.Proofs.YtmadjhmecfbcmaaW.PrintMore Go.Proofs.Ytmadjhmecfbcmaa.F
theorem tw_word {m : Nat} (h : m < 18446744073709551616) : tw m = (0, (m : Int)) := by
  unfold tw; rw [Nat.div_eq_of_lt h, Nat.mod_eq_of_lt h]; rfl
theorem U128_Add (p q : Nat) (h : p + q < 340282366920938463463374607431768211456) :
    wide_U128_Add.f (tw p).1 (tw p).2 (tw q).1 (tw q).2 = some ((tw (p + q)).1, (tw (p + q)).2, 0) := by
  unfold wide_U128_Add.f tw
  dsimp only
  rw [if_pos (by omega)]
  congr 1
  ext <;> dsimp only <;> omega
theorem U128_Sub (p q : Nat) (_hp : p < 340282366920938463463374607431768211456) (h : q ≤ p) :
    wide_U128_Sub.f (tw p).1 (tw p).2 (tw q).1 (tw q).2 = some ((tw (p - q)).1, (tw (p - q)).2, 0) := by
  unfold wide_U128_Sub.f tw
  dsimp only
  rw [if_pos (by omega)]
  congr 1
  by_cases c : p % 18446744073709551616 < q % 18446744073709551616
  · rw [if_pos (by omega)]
    ext <;> dsimp only <;> (try split) <;> omega
  · rw [if_neg (by omega)]
    ext <;> dsimp only <;> (try split) <;> omega
theorem tw_eq_zero (p : Nat) (_hp : p < 340282366920938463463374607431768211456) : ((tw p).1 == 0 && ((tw p).2 == 0)) = decide (p = 0) := by
  unfold tw
  rw [Bool.eq_iff_iff, Bool.and_eq_true, beq_iff_eq, beq_iff_eq, decide_eq_true_iff]; dsimp only; omega
theorem cl_id {e : Int} (h : -5000 ≤ e) (h2 : e ≤ 5000) : cl e = e := by unfold cl; omega
theorem exact_scale (N d : Nat) (ea eb : Int) (he : ea = eb + d) (hb : -1074 ≤ eb) : FX N (2 ^ d) ea = 2 * (N * 2 ^ (eb + 1074).toNat) ∧ FS N (2 ^ d) ea false = false := by
  have h0 : (-(ea + 1075)).toNat = 0 := by omega
  have e1 : N * 2 ^ (ea + 1075).toNat = 2 ^ d * (2 * (N * 2 ^ (eb + 1074).toNat)) := by
    have : 2 ^ (ea + 1075).toNat = 2 ^ d * (2 ^ (eb + 1074).toNat * 2) := by rw [← Nat.pow_succ, ← Nat.pow_add]; congr 1; omega
    rw [this]; grind
  unfold FX FS FN FD
  rw [h0, Nat.pow_zero, Nat.mul_one, e1, Nat.mul_div_cancel_left _ (two_pos d), Nat.mul_mod_right]
  exact ⟨rfl, rfl⟩
theorem ar1 {n m P Q r : Nat} (h1 : n + m = P) (h2 : Q + r = m) (h3 : r = 0) : n = P - Q := by omega
theorem ar3 {m D : Nat} (h1 : m < 9007199254740992) (h2 : 2 ^ 71 ≤ D) : m * 1180591620717411303424 < 9007199254740992 * D := by
  have h3 : 2361183241434822606848 ≤ D := h2
  have := Nat.mul_le_mul_left 9007199254740992 h3; omega
theorem ar2 {n m P Q r D : Nat} (h1 : n + m = P) (h2 : Q + r = m) (h3 : Q + D ≤ P) (h4 : r < D) : n = (D - r) + (P - Q - D) := by omega
theorem num_add_ev (fa fb ca cb : Int) (na nb : Bool) (ma mb : Nat) (ea eb : Int) (mode : Nat) (h1 : 1 ≤ ma) (h2 : ma < 9007199254740992) (h3 : 1 ≤ mb) (h4 : mb < 9007199254740992)
    (h5 : -1074 ≤ eb) (h6 : eb ≤ ea) (h7 : ea ≤ 971) (h8 : ea = eb → mb ≤ ma) (h9 : -1074 < ea → 4503599627370496 ≤ ma) :
    mb ≤ ma * 2 ^ (ea - eb).toNat ∧
    Ev (fun k => soft_num_add.f k fa ca na (ma : Int) ea fb cb nb (mb : Int) eb (mode : Int))
      (if na = nb then pr (RND na (2 * ((ma * 2 ^ (ea - eb).toNat + mb) * 2 ^ (eb + 1074).toNat)) false mode)
       else if ma * 2 ^ (ea - eb).toNat = mb then ((sg (decide (mode = 2)) : Int), 0)
       else pr (RND na (2 * ((ma * 2 ^ (ea - eb).toNat - mb) * 2 ^ (eb + 1074).toNat)) false mode)) := by
  obtain ⟨d, hd⟩ : ∃ d : Nat, ea - eb = d := ⟨(ea - eb).toNat, by omega⟩
  rw [show (ea - eb).toNat = d by omega]
  have pd := two_pos d
  have hge : mb ≤ ma * 2 ^ d := by
    by_cases c : d = 0
    · subst c; have := h8 (by omega); omega
    · have := h9 (by omega)
      obtain ⟨u, rfl⟩ : ∃ u, d = u + 1 := ⟨d - 1, by omega⟩
      have pu := two_pos u
      have : ma * 1 ≤ ma * 2 ^ u := Nat.mul_le_mul_left _ pu
      rw [Nat.pow_succ, ← Nat.mul_assoc]; omega
  refine ⟨hge, ?_⟩
  have S1 : Ev (fun k => wide_U128_Shl.f k 0 (ma : Int) 70) (tw (ma * 1180591620717411303424)) := by
    have := Shl_tw ma 70 (by omega) (by omega)
    rw [tw_word (by omega), show (2 : Nat) ^ 70 = 1180591620717411303424 from rfl, Nat.mod_eq_of_lt (by omega)] at this; exact this
  have S2 : Ev (fun k => wide_U128_Shl.f k 0 (mb : Int) 70) (tw (mb * 1180591620717411303424)) := by
    have := Shl_tw mb 70 (by omega) (by omega)
    rw [tw_word (by omega), show (2 : Nat) ^ 70 = 1180591620717411303424 from rfl, Nat.mod_eq_of_lt (by omega)] at this; exact this
  have S3 := Shr_tw (mb * 1180591620717411303424) d (by omega) (by omega)
  have w1 : wrap64 (ea - eb) = (d : Int) := by rw [w64 (by omega) (by omega)]; omega
  have w2 : wrap64 (ea - 70) = ea - 70 := w64 (by omega) (by omega)
  have hc : cl (ea - 70) = ea - 70 := cl_id (by omega) (by omega)
  have hqd := Nat.div_add_mod (mb * 1180591620717411303424) (2 ^ d)
  have hqm := Nat.mod_lt (mb * 1180591620717411303424) pd
  have hql : mb * 1180591620717411303424 / 2 ^ d ≤ mb * 1180591620717411303424 := Nat.div_le_self _ _
  have hqp : mb * 1180591620717411303424 / 2 ^ d ≤ ma * 1180591620717411303424 := by
    have h10 : mb * 1180591620717411303424 ≤ 2 ^ d * (ma * 1180591620717411303424) := by
      have : mb * 1180591620717411303424 ≤ ma * 2 ^ d * 1180591620717411303424 := Nat.mul_le_mul_right _ hge
      rw [show ma * 2 ^ d * 1180591620717411303424 = 2 ^ d * (ma * 1180591620717411303424) by grind] at this; exact this
    exact Nat.div_le_of_le_mul h10
  have hlostd : mb * 1180591620717411303424 % 2 ^ d ≠ 0 → 71 ≤ d := by
    intro hne
    by_cases c : d ≤ 70
    · exfalso; apply hne
      have : (1180591620717411303424 : Nat) = 2 ^ d * 2 ^ (70 - d) := by rw [← Nat.pow_add, show d + (70 - d) = 70 by omega]
      rw [this, Nat.mul_left_comm, Nat.mul_mod_right]
    · omega
  have fin : ∀ (N s : Nat) (lost : Bool), N ≠ 0 → s < 340282366920938463463374607431768211456 → N * 1180591620717411303424 / 2 ^ d = s → lost = decide (N * 1180591620717411303424 % 2 ^ d ≠ 0) → s ≠ 0 →
      (lost = true → 9007199254740992 ≤ s) →
      Ev (fun k => round_Round.f k na (tw s).1 (tw s).2 (ea - 70) lost (mode : Int)) (pr (RND na (2 * (N * 2 ^ (eb + 1074).toNat)) false mode)) := by
    intro N s lost hN hs e1 e2 hs0 hl
    have R := Round_ev na s (ea - 70) lost mode hs
    rw [if_neg hs0, hc] at R
    have e3 : (lost && decide (53 < bl s)) = lost := by
      cases lost
      · rfl
      · rw [Bool.true_and, decide_eq_true_iff]
        have h11 := hl rfl
        by_cases c : bl s ≤ 53
        · have := bl_small c; omega
        · omega
    rw [e3] at R
    have T := two_step na (N * 1180591620717411303424) (2 ^ d) (ea - 70) mode pd (by
      by_cases c : N * 1180591620717411303424 % 2 ^ d = 0
      · exact .inl c
      · right; rw [e1]; apply hl; rw [e2, decide_eq_true c])
    rw [e1, ← e2] at T
    have K := FXS_scale N (2 ^ d) 70 ea false
    rw [show (2 : Nat) ^ 70 = 1180591620717411303424 from rfl, show ((70 : Nat) : Int) = 70 from rfl] at K
    have X := exact_scale N d ea eb (by omega) h5
    rw [K.1, K.2, X.1, X.2] at T
    rw [T] at R
    exact R
  unfold soft_num_add.f
  refine Ev.b _ S1 (Ev.b _ S2 ?_)
  rw [w1]
  refine Ev.b _ S3 ?_
  dsimp only
  rw [w2]
  by_cases hs : na = nb
  · rw [if_pos hs]
    have hs' : (na == nb) = true := by rw [beq_iff_eq]; exact hs
    have hq : (ma * 2 ^ d + mb) * 1180591620717411303424 / 2 ^ d = ma * 1180591620717411303424 + mb * 1180591620717411303424 / 2 ^ d := by
      rw [show (ma * 2 ^ d + mb) * 1180591620717411303424 = mb * 1180591620717411303424 + 2 ^ d * (ma * 1180591620717411303424) by grind, Nat.add_mul_div_left _ _ pd]; omega
    have hm : (ma * 2 ^ d + mb) * 1180591620717411303424 % 2 ^ d = mb * 1180591620717411303424 % 2 ^ d := by
      rw [show (ma * 2 ^ d + mb) * 1180591620717411303424 = mb * 1180591620717411303424 + 2 ^ d * (ma * 1180591620717411303424) by grind, Nat.add_mul_mod_self_left]
    have g1 : ma * 1180591620717411303424 + mb * 1180591620717411303424 / 2 ^ d < 340282366920938463463374607431768211456 := by omega
    have g2 : 9007199254740992 ≤ ma * 1180591620717411303424 + mb * 1180591620717411303424 / 2 ^ d := Nat.le_trans (by omega) (Nat.le_add_right _ _)
    have F := fin (ma * 2 ^ d + mb) _ (decide (mb * 1180591620717411303424 % 2 ^ d ≠ 0)) (by omega) g1 hq (by rw [hm]) (Nat.ne_of_gt (Nat.lt_of_lt_of_le (by decide) g2)) (fun _ => g2)
    have UA := U128_Add _ _ g1
    refine Ev.congr (fun k => by rw [if_pos hs']) (Ev.b _ (Ev.const UA) ?_)
    dsimp only
    exact Ev.b (f := fun _ b => some (b.1, b.2)) _ F (Ev.now _)
  · rw [if_neg hs]
    have hs' : ¬ (na == nb) = true := by rw [beq_iff_eq]; exact hs
    have g0 : ma * 1180591620717411303424 < 340282366920938463463374607431768211456 := by omega
    have US := U128_Sub _ _ g0 hqp
    refine Ev.congr (fun k => by rw [if_neg hs']) (Ev.b _ (Ev.const US) ?_)
    dsimp only
    rw [tw_eq_zero _ (Nat.lt_of_le_of_lt (Nat.sub_le _ _) g0)]
    by_cases hz : ma * 2 ^ d = mb
    · rw [if_pos hz]
      have z : ma * 1180591620717411303424 - mb * 1180591620717411303424 / 2 ^ d = 0 := by
        rw [← hz, show ma * 2 ^ d * 1180591620717411303424 = 2 ^ d * (ma * 1180591620717411303424) by grind, Nat.mul_div_cancel_left _ pd]; omega
      have hmz : ((mode : Int) == 2) = decide (mode = 2) := by rw [Bool.eq_iff_iff, beq_iff_eq, decide_eq_true_iff]; omega
      rw [decide_eq_true z]
      refine Ev.congr (fun k => by rw [if_pos rfl, hmz]) (Ev.b (f := fun _ b => some (b, (0 : Int))) _ (zero_ev _) (Ev.now _))
    · rw [if_neg hz]
      have hlt : mb < ma * 2 ^ d := by omega
      have hA : (ma * 2 ^ d - mb) * 1180591620717411303424 + mb * 1180591620717411303424 = 2 ^ d * (ma * 1180591620717411303424) := by
        rw [← Nat.add_mul, Nat.sub_add_cancel hge]; grind
      have hqlt : mb * 1180591620717411303424 / 2 ^ d < ma * 1180591620717411303424 := by
        rw [Nat.div_lt_iff_lt_mul pd, Nat.mul_right_comm]
        exact Nat.mul_lt_mul_of_pos_right hlt (by decide)
      have hN : ma * 2 ^ d - mb ≠ 0 := by omega
      obtain ⟨N, hNN⟩ : ∃ N, ma * 2 ^ d - mb = N := ⟨_, rfl⟩
      obtain ⟨p, hpp⟩ : ∃ p, ma * 1180591620717411303424 = p := ⟨_, rfl⟩
      obtain ⟨q, hqq⟩ : ∃ q, mb * 1180591620717411303424 / 2 ^ d = q := ⟨_, rfl⟩
      obtain ⟨r, hrr⟩ : ∃ r, mb * 1180591620717411303424 % 2 ^ d = r := ⟨_, rfl⟩
      rw [hNN, hpp] at hA
      rw [hpp, hqq] at hqlt hqp
      rw [hqq, hrr] at hqd
      rw [hrr] at hlostd hqm
      rw [hNN] at hN
      rw [hNN, hpp, hqq, hrr]
      have z : ¬ p - q = 0 := Nat.sub_ne_zero_of_lt hqlt
      rw [decide_eq_false z]
      by_cases hr : r = 0
      · have hA2 : N * 1180591620717411303424 = 2 ^ d * (p - q) := by rw [Nat.mul_sub]; exact ar1 hA hqd hr
        have F := fin N (p - q) false hN (by omega) (by rw [hA2, Nat.mul_div_cancel_left _ pd]) (by rw [hA2, Nat.mul_mod_right]; rfl) z (by simp)
        rw [decide_eq_false (show ¬ r ≠ 0 by omega)]
        exact Ev.congr (fun k => by rw [if_neg (by simp), if_neg (by simp)]) (Ev.b (f := fun _ b => some (b.1, b.2)) _ F (Ev.now _))
      · have h71 := hlostd hr
        have hma := h9 (by omega)
        have hA2 : N * 1180591620717411303424 = (2 ^ d - r) + 2 ^ d * (p - q - 1) := by
          rw [Nat.mul_sub, Nat.mul_sub, Nat.mul_one]
          have h12 : 2 ^ d * q + 2 ^ d ≤ 2 ^ d * p := by
            have : 2 ^ d * (q + 1) ≤ 2 ^ d * p := Nat.mul_le_mul_left _ hqlt
            rw [Nat.mul_add, Nat.mul_one] at this; exact this
          exact ar2 hA hqd h12 hqm
        have hdq : N * 1180591620717411303424 / 2 ^ d = p - q - 1 := by
          rw [hA2, Nat.add_mul_div_left _ _ pd, Nat.div_eq_of_lt (by omega)]; omega
        have hdm : N * 1180591620717411303424 % 2 ^ d = 2 ^ d - r := by
          rw [hA2, Nat.add_mul_mod_self_left, Nat.mod_eq_of_lt (by omega)]
        have hqs : q < 9007199254740992 := by
          rw [← hqq, Nat.div_lt_iff_lt_mul pd]
          exact ar3 h4 (pow_le h71)
        have F := fin N (p - q - 1) true hN (by omega) hdq (by rw [hdm, decide_eq_true (show 2 ^ d - r ≠ 0 by omega)]) (by omega) (by intro _; omega)
        rw [decide_eq_true (show r ≠ 0 from hr)]
        have U := U128_Sub (p - q) 1 (by omega) (by omega)
        rw [tw_word (show 1 < 18446744073709551616 by decide), show ((1 : Nat) : Int) = 1 from rfl] at U
        dsimp only at U
        refine Ev.congr (fun k => by rw [if_neg (by simp), if_pos rfl]) (Ev.b _ (Ev.const U) ?_)
        dsimp only
        exact Ev.b (f := fun _ b => some (b.1, b.2)) _ F (Ev.now _)
end Go.Proofs.Ytmadjhmecfbcmaa.M
end
