/- The walk of the law SoftSums and what it computes, part 3 of 6: no conditions. -/
import Derived.Test.YtmadjhmecfbcmaaASoftSums2
import Derived.Laws.BitsAllLaws
import Derived.Lib.ItoaNum
set_option linter.unusedVariables false
set_option linter.unusedSimpArgs false
section
namespace Go.Proofs.Ytmadjhmecfbcmaa.F
open Go.RowKit Go.Proofs.YtmadjhmecfbcmaaW.PrintWords Go.Proofs.YtmadjhmecfbcmaaW.PrintLast Go.Proofs.YtmadjhmecfbcmaaW.PrintMore
attribute [local go_sem] max2_int min2_int max_two min_two max_three min_three max_four min_four
set_option linter.unusedVariables false
set_option linter.unusedSimpArgs false
attribute [local go_sem high] eqA109
def soft_num_add.T2 : Bool × List (List Nat × List Nat) := (true, [([], []), ([0], [0]), ([1], [1]), ([2], [2]), ([], []), ([4], [4]), ([], []), ([6], [6]), ([5, 7], [5, 7]), ([3, 8, 3], [3, 8]), ([9], [9]), ([10], [10]), ([10], [10]), ([], []), ([13, 11, 9, 0, 1, 2, 3, 4, 5, 6, 7, 8, 9, 10, 11, 13], [11, 13]), ([12, 14, 0, 1, 2, 3, 4, 5, 6, 7, 8, 9, 10, 11, 12, 13, 14], [12])])
def soft_num_add.B2 : List Nat := [0, 1, 3, 7, 0, 16, 0, 64, 240, 511, 1023, 2047, 2047, 0, 12287, 32767]
theorem soft_num_add.tab2 : rtab .any (opsOf Try.f86 2) = soft_num_add.T2 := by kernel_rfl
theorem soft_num_add.bits2 : waitsOk soft_num_add.T2.2 soft_num_add.B2 = true := by kernel_rfl
set_option maxHeartbeats 8000000 in
set_option maxRecDepth 100000 in
theorem soft_num_add.calls (k : Nat) (a0_0 : Int) (a0_1 : Int) (a0_2 : Bool) (a0_3 : Int) (a0_4 : Int) (a1_0 : Int) (a1_1 : Int) (a1_2 : Bool) (a1_3 : Int) (a1_4 : Int) (a2 : Int) (r1 : Int) (r2 : Int) (w : World) (h : soft_num_add.f k a0_0 a0_1 a0_2 a0_3 a0_4 a1_0 a1_1 a1_2 a1_3 a1_4 a2 = some (r1, r2)) :
  Calls Try.prog 86 #[.agg #[.int .u64 a0_0, .int .u8 a0_1, .bool a0_2, .int .u64 a0_3, .int .i64 a0_4], .agg #[.int .u64 a1_0, .int .u8 a1_1, .bool a1_2, .int .u64 a1_3, .int .i64 a1_4], .int .u8 a2] w fun e w' => e = .returned (.tuple #[.int .u64 r1, .int .u8 r2]) ∧ Below w.heap.size w w' := by
 have hu88 := Try.underlying88
 have hu109 := Try.underlying109
 have HB := Aside0.mk (Below.refl w.heap.size w)
 have H : ((wide_U128_Shl.f k 0 a0_3 70).bind fun bt173 => ((wide_U128_Shl.f k 0 a1_3 70).bind fun bt176 => ((wide_U128_Shr.f k bt176.1 bt176.2 (wrap64 (a0_4 - a1_4))).bind fun bt178 => (if (a0_2 == a1_2) = true then ((wide_U128_Add.f bt173.1 bt173.2 bt178.1 bt178.2.1).bind fun bt183 => ((round_Round.f k a0_2 bt183.1 bt183.2.1 (wrap64 (a0_4 - 70)) bt178.2.2 a2).bind fun bt186 => (some (bt186.1, bt186.2)))) else ((wide_U128_Sub.f bt173.1 bt173.2 bt178.1 bt178.2.1).bind fun bt188 => (if (bt188.1 == 0 && (bt188.2.1 == 0)) = true then ((soft_zero.f k (a2 == 2)).bind fun t191 => (some (t191, 0))) else (if bt178.2.2 = true then ((wide_U128_Sub.f bt188.1 bt188.2.1 0 1).bind fun bt192 => ((round_Round.f k a0_2 bt192.1 bt192.2.1 (wrap64 (a0_4 - 70)) bt178.2.2 a2).bind fun bt195 => (some (bt195.1, bt195.2)))) else ((round_Round.f k a0_2 bt188.1 bt188.2.1 (wrap64 (a0_4 - 70)) bt178.2.2 a2).bind fun bt197 => (some (bt197.1, bt197.2)))))))))) = some (r1, r2) := h
 clear h
 obtain ⟨⟨t173, t174⟩, A4, H⟩ := zbs H
 try dsimp only at H
 obtain ⟨⟨t176, t177⟩, A5, H⟩ := zbs H
 try dsimp only at H
 obtain ⟨⟨t178, t179, t180⟩, A6, H⟩ := zbs H
 try dsimp only at H
 by_cases c7 : (a0_2 == a1_2) = true
 ·rw [if_pos c7] at H
  have c7b0 : (a0_2 == a1_2) = true := c7
  (try (have c7b1 : decide (a0_2 = a1_2) = true := by simpa using c7))
  (try (have c7b2 : (a0_2 == a1_2) = true := by simpa using c7))
  clear c7
  obtain ⟨⟨t183, t184, t185⟩, A8, H⟩ := zbs H
  try dsimp only at H
  obtain ⟨⟨t186, t187⟩, A9, H⟩ := zbs H
  try dsimp only at H
  simp only [Option.some.injEq, Prod.mk.injEq] at H
  obtain ⟨rfl, rfl⟩ := H
  go_enter Try.func86, Try.ntmps86
  try go_wp2_with (first | ((with_reducible refine gate_dst (N := 3) rfl ?_); refine zbx 3 #[.int .u64 a0_0, .int .u8 a0_1, .bool a0_2, .int .u64 a0_3, .int .i64 a0_4] 88 (h := ?_); intro gb171 hg w10 hbox hb; have GW171 := zkZ hg (zaB (p := Below w.heap.size w _)); have GE171 := GW171; replace HB := Aside0.mk (below_step zaB hb); have BK171 := Aside0.mk (hbox); clear hb hbox hg) | ((with_reducible refine gate_dst (N := 4) rfl ?_); refine zbx 4 #[.int .u64 a1_0, .int .u8 a1_1, .bool a1_2, .int .u64 a1_3, .int .i64 a1_4] 88 (h := ?_); intro gb172 hg w11 hbox hb; have GW172 := zkz HB hg; have GE172 := GW172; have NB171_172 := zkl BK171 hg; have NB172_171 := zkr BK171 hg; replace BK171 := zkb BK171 hb; replace HB := zkB HB hb; have BK172 := Aside0.mk (hbox); clear hb hbox hg; have hnb12 := NB171_172.out; have hnc12 := NB172_171.out; have hcz13_0 := zc0 BK171; have hcz13_1 := zc1 BK171; have hcz13_2 := zc2 BK171; have hcz13_3 := zc3 BK171; have hcz13_4 := zc4 BK171; have hfz13_0 := blk_frozen BK171.out 0; have hfz13_1 := blk_frozen BK171.out 1; have hfz13_2 := blk_frozen BK171.out 2; have hfz13_3 := blk_frozen BK171.out 3; have hfz13_4 := blk_frozen BK171.out 4) | ((with_reducible refine gate_callee (f := 106) rfl ?_); refine zgL 15 Try.func106 (wide_U128_Shl.calls k 0 a0_3 70 t173 t174 _ A4.out) (h := ?_); rintro w14 hb; replace BK171 := zkb BK171 hb; replace BK172 := zkb BK172 hb; replace HB := zkB HB hb; (try clear hb)) | ((with_reducible refine gate_dst (N := 8) rfl ?_); refine zbx 8 #[.int .u64 0, .int .u64 0] 109 (h := ?_); intro gb175 hg w15 hbox hb; have GW175 := zkz HB hg; have GE175 := GW175; have NB171_175 := zkl BK171 hg; have NB175_171 := zkr BK171 hg; have NB172_175 := zkl BK172 hg; have NB175_172 := zkr BK172 hg; replace BK171 := zkb BK171 hb; replace BK172 := zkb BK172 hb; replace HB := zkB HB hb; have BK175 := Aside0.mk (hbox); clear hb hbox hg; have hnb16 := NB175_171.out; have hnc16 := NB171_175.out; have hnb17 := NB175_172.out; have hnc17 := NB172_175.out; have hcz18_0 := zc0 BK175; have hcz18_1 := zc1 BK175; have hfz18_0 := blk_frozen BK175.out 0; have hfz18_1 := blk_frozen BK175.out 1))
  generalize hW_ : ((w15.setCell ⟨gb175, 0, none⟩ (.int .u64 t173)).setCell ⟨gb175, 1, none⟩ (.int .u64 t174)) = w19
  replace BK171 := zkg hW_ (zkf (zkf BK171.out NB171_175.out _) NB171_175.out _)
  replace BK172 := zkg hW_ (zkf (zkf BK172.out NB172_175.out _) NB172_175.out _)
  replace BK175 := zkg hW_ (ob := .cells #[.int .u64 t173, .int .u64 t174] 109 (0, 0)) (blk_put (cs := #[.int .u64 t173, .int .u64 0]) (blk_put BK175.out 0 _ rfl) 1 _ rfl)
  replace HB := zkG hW_ (below_set (below_set HB.out GE175.out) GE175.out)
  clear hW_
  replace BK171 := Aside0.mk (blk_drew BK171.out)
  replace BK172 := Aside0.mk (blk_drew BK172.out)
  replace BK175 := Aside0.mk (blk_drew BK175.out)
  replace HB := Aside0.mk (below_drew1 HB.out)
  refine start_ (n := 16) (S := fun w' => w'.cell? ⟨gb172, 0, none⟩ = some (.int .u64 a1_0) ∧ w'.cell? ⟨gb172, 1, none⟩ = some (.int .u8 a1_1) ∧ w'.cell? ⟨gb172, 2, none⟩ = some (.bool a1_2) ∧ w'.cell? ⟨gb172, 3, none⟩ = some (.int .u64 a1_3) ∧ w'.cell? ⟨gb172, 4, none⟩ = some (.int .i64 a1_4) ∧ w'.cell? ⟨gb171, 0, none⟩ = some (.int .u64 a0_0) ∧ w'.cell? ⟨gb171, 1, none⟩ = some (.int .u8 a0_1) ∧ w'.cell? ⟨gb171, 2, none⟩ = some (.bool a0_2) ∧ w'.cell? ⟨gb171, 3, none⟩ = some (.int .u64 a0_3) ∧ w'.cell? ⟨gb171, 4, none⟩ = some (.int .i64 a0_4)) (ds := []) #[false, false, false, false, false, false, false, false, false, false, false, false, false, false, false, false] (by kernel_rfl) rfl rfl (zk5 BK172 (ze5 BK171)) (fun hHeld => ?_); refine with_tabW soft_num_add.tab2 soft_num_add.bits2 (fun HT_ HW_ => ?_)
  generalize w19.drew = w20 at BK171 BK172 BK175 HB hHeld ⊢
  refine zpA 0 17 (h := ?_)
  refine zpA 4 21 (h := ?_)
  refine zpA 6 23 (h := ?_)
  refine ztA 1 18 (h := ?_)
  refine zpA 2 19 (h := ?_)
  refine ztA 5 22 (h := ?_)
  refine ztA 7 24 (h := ?_)
  refine zpA 8 25 (h := ?_)
  refine join_ (σ := Nat) 2 #[true, true, true, true, true, true, true, true, true, true, true, true, true, true, false, false] (fun s_ => [(20, .agg #[.int .u64 t176, .int .u64 t177]), (26, .tuple #[.agg #[.int .u64 t178, .int .u64 t179], .bool t180]), (9, .pointer (some ⟨s_, 0, none⟩)), (16, .tuple #[.agg #[.int .u64 t178, .int .u64 t179], .bool t180]), (27, .agg #[.int .u64 t178, .int .u64 t179]), (28, .bool t180)]) (fun s_ w' => (w'.cell? ⟨gb172, 0, none⟩ = some (.int .u64 a1_0) ∧ w'.cell? ⟨gb172, 1, none⟩ = some (.int .u8 a1_1) ∧ w'.cell? ⟨gb172, 2, none⟩ = some (.bool a1_2) ∧ w'.cell? ⟨gb172, 3, none⟩ = some (.int .u64 a1_3) ∧ w'.cell? ⟨gb172, 4, none⟩ = some (.int .i64 a1_4) ∧ w'.cell? ⟨gb171, 0, none⟩ = some (.int .u64 a0_0) ∧ w'.cell? ⟨gb171, 1, none⟩ = some (.int .u8 a0_1) ∧ w'.cell? ⟨gb171, 2, none⟩ = some (.bool a0_2) ∧ w'.cell? ⟨gb171, 3, none⟩ = some (.int .u64 a0_3) ∧ w'.cell? ⟨gb171, 4, none⟩ = some (.int .i64 a0_4)) ∧ (w'.heap[gb171]? = some (.cells #[.int .u64 a0_0, .int .u8 a0_1, .bool a0_2, .int .u64 a0_3, .int .i64 a0_4] 88 (0, 0))) ∧ (w'.heap[gb172]? = some (.cells #[.int .u64 a1_0, .int .u8 a1_1, .bool a1_2, .int .u64 a1_3, .int .i64 a1_4] 88 (0, 0))) ∧ (w'.heap[gb175]? = some (.cells #[.int .u64 t173, .int .u64 t174] 109 (0, 0))) ∧ (w'.heap[s_]? = some (.cells #[.int .u64 0, .int .u64 0] 109 (0, 0))) ∧ (w.heap.size ≤ s_) ∧ (w.heap.size ≤ s_) ∧ (gb171 ≠ s_) ∧ (s_ ≠ gb171) ∧ (gb172 ≠ s_) ∧ (s_ ≠ gb172) ∧ (gb175 ≠ s_) ∧ (s_ ≠ gb175) ∧ (Below w.heap.size w w')) ?_ ?_
  rotate_left
  ·intro hCont
   refine two_ (i := 3) (j := 13) (Ni := some 20) (Nj := some 9) #[true, true, true, true, true, true, true, true, true, false, false, false, false, false, false, false] #[true, true, true, false, true, true, true, true, true, false, false, false, false, true, false, false] rfl rfl rfl rfl (two_of HT_.out (by kernel_rfl)) (by decide) (by decide) (fun K hK => ?_) (fun K hK => ?_)
   ·skip
    refine zgA Try.func106 (wide_U128_Shl.calls k 0 a1_3 70 t176 t177 _ A5.out) (h := ?_)
    rintro w21 hb
    replace BK171 := zkb BK171 hb
    replace BK172 := zkb BK172 hb
    replace BK175 := zkb BK175 hb
    replace HB := zkB HB hb
    (try clear hb)
    refine hK.out _ _ (zk5 BK172 (ze5 BK171)) (fun hHeld => ?_)
    clear hK K
    refine znA 20 (h := ?_)
    refine two_ (i := 9) (j := 13) (Ni := some 26) (Nj := some 9) #[true, true, true, true, true, true, true, true, true, true, false, false, false, false, false, false] #[true, true, true, true, true, true, true, true, true, false, false, false, false, true, false, false] rfl rfl rfl rfl (two_of HT_.out (by kernel_rfl)) (by decide) (by decide) (fun K hK => ?_) (fun K hK => ?_)
    ·skip
     refine zgA Try.func151 (wide_U128_Shr.calls k t176 t177 (wrap64 (a0_4 - a1_4)) t178 t179 t180 _ A6.out) (h := ?_)
     rintro w22 hb
     replace BK171 := zkb BK171 hb
     replace BK172 := zkb BK172 hb
     replace BK175 := zkb BK175 hb
     replace HB := zkB HB hb
     (try clear hb)
     refine hK.out _ _ (zk5 BK172 (ze5 BK171)) (fun hHeld => ?_)
     clear hK K
     refine znA 26 (h := ?_)
     refine zpA 10 16 (h := ?_)
     refine zpA 11 27 (h := ?_)
     refine zpA 12 28 (h := ?_)
     refine zoA 13 9 (h := fun K hK => ?_)
     refine box_step ?hg (N := 9) ?hd (cs := #[.int .u64 0, .int .u64 0]) (t := 109) ?hr ?_; (case hd => rfl); (case hg => rfl); (case hr => first | (go_simp; done) | (go_simp; rfl))
     intro gb181 hg w23 hbox hb
     have GW181 := zkz HB hg
     have GE181 := GW181
     have NB171_181 := zkl BK171 hg
     have NB181_171 := zkr BK171 hg
     have NB172_181 := zkl BK172 hg
     have NB181_172 := zkr BK172 hg
     have NB175_181 := zkl BK175 hg
     have NB181_175 := zkr BK175 hg
     replace BK171 := zkb BK171 hb
     replace BK172 := zkb BK172 hb
     replace BK175 := zkb BK175 hb
     replace HB := zkB HB hb
     have BK181 := Aside0.mk (hbox)
     clear hb hbox hg
     refine hK.out _ _ (zk5 BK172 (ze5 BK171)) (fun hHeld => ?_)
     clear hK K
     refine znA 9 (h := ?_)
     exact norm_ (by simp only [putAll, Act.put, List.setIfInBounds_toArray, List.set_cons_zero, List.set_cons_succ]) (hCont (gb181) _ ⟨hHeld, (zkq BK171), (zkq BK172), (zkq BK175), (zkq BK181), GW181.out, GE181.out, NB171_181.out, NB181_171.out, NB172_181.out, NB181_172.out, NB175_181.out, NB181_175.out, zaB⟩)
    ·skip
     refine box_step ?hg (N := 9) ?hd (cs := #[.int .u64 0, .int .u64 0]) (t := 109) ?hr ?_; (case hd => rfl); (case hg => rfl); (case hr => first | (go_simp; done) | (go_simp; rfl))
     intro gb181 hg w22 hbox hb
     have GW181 := zkz HB hg
     have GE181 := GW181
     have NB171_181 := zkl BK171 hg
     have NB181_171 := zkr BK171 hg
     have NB172_181 := zkl BK172 hg
     have NB181_172 := zkr BK172 hg
     have NB175_181 := zkl BK175 hg
     have NB181_175 := zkr BK175 hg
     replace BK171 := zkb BK171 hb
     replace BK172 := zkb BK172 hb
     replace BK175 := zkb BK175 hb
     replace HB := zkB HB hb
     have BK181 := Aside0.mk (hbox)
     clear hb hbox hg
     refine hK.out _ _ (zk5 BK172 (ze5 BK171)) (fun hHeld => ?_)
     clear hK K
     refine znA 9 (h := ?_)
     refine zoA 9 26 (h := fun K hK => ?_)
     refine zgA Try.func151 (wide_U128_Shr.calls k t176 t177 (wrap64 (a0_4 - a1_4)) t178 t179 t180 _ A6.out) (h := ?_)
     rintro w23 hb
     replace BK171 := zkb BK171 hb
     replace BK172 := zkb BK172 hb
     replace BK175 := zkb BK175 hb
     replace BK181 := zkb BK181 hb
     replace HB := zkB HB hb
     (try clear hb)
     refine hK.out _ _ (zk5 BK172 (ze5 BK171)) (fun hHeld => ?_)
     clear hK K
     refine znA 26 (h := ?_)
     refine zpA 10 16 (h := ?_)
     refine zpA 11 27 (h := ?_)
     refine zpA 12 28 (h := ?_)
     exact norm_ (by simp only [putAll, Act.put, List.setIfInBounds_toArray, List.set_cons_zero, List.set_cons_succ]) (hCont (gb181) _ ⟨hHeld, (zkq BK171), (zkq BK172), (zkq BK175), (zkq BK181), GW181.out, GE181.out, NB171_181.out, NB181_171.out, NB172_181.out, NB181_172.out, NB175_181.out, NB181_175.out, zaB⟩)
   ·skip
    refine box_step ?hg (N := 9) ?hd (cs := #[.int .u64 0, .int .u64 0]) (t := 109) ?hr ?_; (case hd => rfl); (case hg => rfl); (case hr => first | (go_simp; done) | (go_simp; rfl))
    intro gb181 hg w21 hbox hb
    have GW181 := zkz HB hg
    have GE181 := GW181
    have NB171_181 := zkl BK171 hg
    have NB181_171 := zkr BK171 hg
    have NB172_181 := zkl BK172 hg
    have NB181_172 := zkr BK172 hg
    have NB175_181 := zkl BK175 hg
    have NB181_175 := zkr BK175 hg
    replace BK171 := zkb BK171 hb
    replace BK172 := zkb BK172 hb
    replace BK175 := zkb BK175 hb
    replace HB := zkB HB hb
    have BK181 := Aside0.mk (hbox)
    clear hb hbox hg
    refine hK.out _ _ (zk5 BK172 (ze5 BK171)) (fun hHeld => ?_)
    clear hK K
    refine znA 9 (h := ?_)
    refine zoA 3 20 (h := fun K hK => ?_)
    refine zgA Try.func106 (wide_U128_Shl.calls k 0 a1_3 70 t176 t177 _ A5.out) (h := ?_)
    rintro w22 hb
    replace BK171 := zkb BK171 hb
    replace BK172 := zkb BK172 hb
    replace BK175 := zkb BK175 hb
    replace BK181 := zkb BK181 hb
    replace HB := zkB HB hb
    (try clear hb)
    refine hK.out _ _ (zk5 BK172 (ze5 BK171)) (fun hHeld => ?_)
    clear hK K
    refine znA 20 (h := ?_)
    refine zoA 9 26 (h := fun K hK => ?_)
    refine zgA Try.func151 (wide_U128_Shr.calls k t176 t177 (wrap64 (a0_4 - a1_4)) t178 t179 t180 _ A6.out) (h := ?_)
    rintro w23 hb
    replace BK171 := zkb BK171 hb
    replace BK172 := zkb BK172 hb
    replace BK175 := zkb BK175 hb
    replace BK181 := zkb BK181 hb
    replace HB := zkB HB hb
    (try clear hb)
    refine hK.out _ _ (zk5 BK172 (ze5 BK171)) (fun hHeld => ?_)
    clear hK K
    refine znA 26 (h := ?_)
    refine zpA 10 16 (h := ?_)
    refine zpA 11 27 (h := ?_)
    refine zpA 12 28 (h := ?_)
    exact norm_ (by simp only [putAll, Act.put, List.setIfInBounds_toArray, List.set_cons_zero, List.set_cons_succ]) (hCont (gb181) _ ⟨hHeld, (zkq BK171), (zkq BK172), (zkq BK175), (zkq BK181), GW181.out, GE181.out, NB171_181.out, NB181_171.out, NB172_181.out, NB181_172.out, NB175_181.out, NB181_175.out, zaB⟩)
  rintro gb181 w24 ⟨hS_, h0_, h1_, h2_, h3_, h4_, h5_, h6_, h7_, h8_, h9_, h10_, h11_, h12_⟩
  have n0_ : Aside0 (w24.heap[gb171]? = some (.cells #[.int .u64 a0_0, .int .u8 a0_1, .bool a0_2, .int .u64 a0_3, .int .i64 a0_4] 88 (0, 0))) := ⟨h0_⟩
  have n1_ : Aside0 (w24.heap[gb172]? = some (.cells #[.int .u64 a1_0, .int .u8 a1_1, .bool a1_2, .int .u64 a1_3, .int .i64 a1_4] 88 (0, 0))) := ⟨h1_⟩
  have n2_ : Aside0 (w24.heap[gb175]? = some (.cells #[.int .u64 t173, .int .u64 t174] 109 (0, 0))) := ⟨h2_⟩
  have n3_ : Aside0 (w24.heap[gb181]? = some (.cells #[.int .u64 0, .int .u64 0] 109 (0, 0))) := ⟨h3_⟩
  have n4_ : Aside0 (w.heap.size ≤ gb181) := ⟨h4_⟩
  have n5_ : Aside0 (w.heap.size ≤ gb181) := ⟨h5_⟩
  have n6_ : Aside0 (gb171 ≠ gb181) := ⟨h6_⟩
  have n7_ : Aside0 (gb181 ≠ gb171) := ⟨h7_⟩
  have n8_ : Aside0 (gb172 ≠ gb181) := ⟨h8_⟩
  have n9_ : Aside0 (gb181 ≠ gb172) := ⟨h9_⟩
  have n10_ : Aside0 (gb175 ≠ gb181) := ⟨h10_⟩
  have n11_ : Aside0 (gb181 ≠ gb175) := ⟨h11_⟩
  have n12_ : Aside0 (Below w.heap.size w w24) := ⟨h12_⟩
  clear BK171
  clear BK172
  clear BK175
  clear HB
  clear h0_ h1_ h2_ h3_ h4_ h5_ h6_ h7_ h8_ h9_ h10_ h11_ h12_
  have BK171 := n0_
  have BK172 := n1_
  have BK175 := n2_
  have BK181 := n3_
  have GW181 := n4_
  have GE181 := n5_
  have NB171_181 := n6_
  have NB181_171 := n7_
  have NB172_181 := n8_
  have NB181_172 := n9_
  have NB175_181 := n10_
  have NB181_175 := n11_
  have HB := n12_
  clear n0_ n1_ n2_ n3_ n4_ n5_ n6_ n7_ n8_ n9_ n10_ n11_ n12_
  have hHeld : w24.cell? ⟨gb172, 0, none⟩ = some (.int .u64 a1_0) ∧ w24.cell? ⟨gb172, 1, none⟩ = some (.int .u8 a1_1) ∧ w24.cell? ⟨gb172, 2, none⟩ = some (.bool a1_2) ∧ w24.cell? ⟨gb172, 3, none⟩ = some (.int .u64 a1_3) ∧ w24.cell? ⟨gb172, 4, none⟩ = some (.int .i64 a1_4) ∧ w24.cell? ⟨gb171, 0, none⟩ = some (.int .u64 a0_0) ∧ w24.cell? ⟨gb171, 1, none⟩ = some (.int .u8 a0_1) ∧ w24.cell? ⟨gb171, 2, none⟩ = some (.bool a0_2) ∧ w24.cell? ⟨gb171, 3, none⟩ = some (.int .u64 a0_3) ∧ w24.cell? ⟨gb171, 4, none⟩ = some (.int .i64 a0_4) := hS_
  refine norm_ (a' := ?_) ?_ ?_
  rotate_left
  ·simp only [putAll, Act.put, List.setIfInBounds_toArray, List.set_cons_zero, List.set_cons_succ]
   rfl
  refine one_ (i := 14) (N := none) #[true, true, true, true, true, true, true, true, true, true, true, true, true, true, true, false] rfl rfl (one_of HT_.out (by kernel_rfl)) (by decide) (fun K hK => ?_)
  have hs25 := zc0 BK181
  have hfs25 := blk_frozen BK181.out 0
  have hns25_0 := NB171_181.out
  have hns25_1 := NB172_181.out
  have hns25_2 := NB175_181.out
  have hms25_0 := NB181_171.out
  have hms25_1 := NB181_172.out
  have hms25_2 := NB181_175.out
  have hs26 := zc1 BK181
  have hfs26 := blk_frozen BK181.out 1
  have hns26_0 := NB171_181.out
  have hns26_1 := NB172_181.out
  have hns26_2 := NB175_181.out
  have hms26_0 := NB181_171.out
  have hms26_1 := NB181_172.out
  have hms26_2 := NB181_175.out
  refine skip_ (w1 := ?_) (by rfl) rfl ?_ ?_
  rotate_left
  ·go_simp
   rfl
  refine hK.out _ _ ⟨(zff NB172_181 (zff NB172_181 hHeld.1)), (zff NB172_181 (zff NB172_181 hHeld.2.1)), (zff NB172_181 (zff NB172_181 hHeld.2.2.1)), (zff NB172_181 (zff NB172_181 hHeld.2.2.2.1)), (zff NB172_181 (zff NB172_181 hHeld.2.2.2.2.1)), (zff NB171_181 (zff NB171_181 hHeld.2.2.2.2.2.1)), (zff NB171_181 (zff NB171_181 hHeld.2.2.2.2.2.2.1)), (zff NB171_181 (zff NB171_181 hHeld.2.2.2.2.2.2.2.1)), (zff NB171_181 (zff NB171_181 hHeld.2.2.2.2.2.2.2.2.1)), (zff NB171_181 (zff NB171_181 hHeld.2.2.2.2.2.2.2.2.2))⟩ (fun hHeld => ?_)
  clear hK K
  refine zpA 15 10 (h := ?_)
  refine done_ (done_of HT_.out (by kernel_rfl)) ?_
  try go_wp2_with (first | ((with_reducible refine gate_dst (N := 11) rfl ?_); refine zbx 11 #[.int .u64 0, .int .u64 0] 109 (h := ?_); intro gb182 hg w27 hbox hb; have GW182 := zkZ hg (below_set (below_set HB.out GE181.out) GE181.out); have GE182 := GW182; have NB171_182 := zkL hg (zkf (zkf BK171.out NB171_181.out _) NB171_181.out _); have NB182_171 := zks NB171_182; have NB172_182 := zkL hg (zkf (zkf BK172.out NB172_181.out _) NB172_181.out _); have NB182_172 := zks NB172_182; have NB175_182 := zkL hg (zkf (zkf BK175.out NB175_181.out _) NB175_181.out _); have NB182_175 := zks NB175_182; have NB181_182 := zkL hg (ob := .cells #[.int .u64 t178, .int .u64 t179] 109 (0, 0)) (blk_put (cs := #[.int .u64 t178, .int .u64 0]) (blk_put BK181.out 0 _ rfl) 1 _ rfl); have NB182_181 := zks NB181_182; replace BK171 := Aside0.mk (blk_below (zkf (zkf BK171.out NB171_181.out _) NB171_181.out _) hb); replace BK172 := Aside0.mk (blk_below (zkf (zkf BK172.out NB172_181.out _) NB172_181.out _) hb); replace BK175 := Aside0.mk (blk_below (zkf (zkf BK175.out NB175_181.out _) NB175_181.out _) hb); replace BK181 := Aside0.mk (blk_below (o := .cells #[.int .u64 t178, .int .u64 t179] 109 (0, 0)) (blk_put (cs := #[.int .u64 t178, .int .u64 0]) (blk_put BK181.out 0 _ rfl) 1 _ rfl) hb); replace HB := Aside0.mk (below_step (below_set (below_set HB.out GE181.out) GE181.out) hb); have BK182 := Aside0.mk (hbox); clear hb hbox hg; have hnb28 := NB171_181.out; have hnc28 := NB181_171.out; have hnb29 := NB171_182.out; have hnc29 := NB182_171.out; have hcz30_0 := zc0 BK171; have hcz30_1 := zc1 BK171; have hcz30_2 := zc2 BK171; have hcz30_3 := zc3 BK171; have hcz30_4 := zc4 BK171; have hfz30_0 := blk_frozen BK171.out 0; have hfz30_1 := blk_frozen BK171.out 1; have hfz30_2 := blk_frozen BK171.out 2; have hfz30_3 := blk_frozen BK171.out 3; have hfz30_4 := blk_frozen BK171.out 4; have hnb31 := NB172_181.out; have hnc31 := NB181_172.out; have hnb32 := NB172_182.out; have hnc32 := NB182_172.out; have hcz33_0 := zc0 BK172; have hcz33_1 := zc1 BK172; have hcz33_2 := zc2 BK172; have hcz33_3 := zc3 BK172; have hcz33_4 := zc4 BK172; have hfz33_0 := blk_frozen BK172.out 0; have hfz33_1 := blk_frozen BK172.out 1; have hfz33_2 := blk_frozen BK172.out 2; have hfz33_3 := blk_frozen BK172.out 3; have hfz33_4 := blk_frozen BK172.out 4; have hnb34 := NB175_181.out; have hnc34 := NB181_175.out; have hnb35 := NB175_182.out; have hnc35 := NB182_175.out; have hcz36_0 := zc0 BK175; have hcz36_1 := zc1 BK175; have hfz36_0 := blk_frozen BK175.out 0; have hfz36_1 := blk_frozen BK175.out 1; have hnb37 := NB181_182.out; have hnc37 := NB182_181.out; have hcz38_0 := zc0 BK181; have hcz38_1 := zc1 BK181; have hfz38_0 := blk_frozen BK181.out 0; have hfz38_1 := blk_frozen BK181.out 1) | ((with_reducible refine gate_callee (f := 152) rfl ?_); refine zgL 37 Try.func152 (wide_U128_Add.calls t173 t174 t178 t179 t183 t184 t185 _ A8.out) (h := ?_); rintro w39 hb; replace BK171 := zkb BK171 hb; replace BK172 := zkb BK172 hb; replace BK175 := zkb BK175 hb; replace BK181 := zkb BK181 hb; replace BK182 := zkb BK182 hb; replace HB := zkB HB hb; (try clear hb); have hcz40_0 := zc0 BK182; have hcz40_1 := zc1 BK182; have hfz40_0 := blk_frozen BK182.out 0; have hfz40_1 := blk_frozen BK182.out 1; have hcz41_0 := zc0 BK171; have hcz41_1 := zc1 BK171; have hcz41_2 := zc2 BK171; have hcz41_3 := zc3 BK171; have hcz41_4 := zc4 BK171; have hfz41_0 := blk_frozen BK171.out 0; have hfz41_1 := blk_frozen BK171.out 1; have hfz41_2 := blk_frozen BK171.out 2; have hfz41_3 := blk_frozen BK171.out 3; have hfz41_4 := blk_frozen BK171.out 4) | ((with_reducible refine gate_callee (f := 99) rfl ?_); refine zgL 67 Try.func99 (round_Round.calls k a0_2 t183 t184 (wrap64 (a0_4 - 70)) t180 a2 t186 t187 _ A9.out) (h := ?_); rintro w42 hb; replace BK171 := Aside0.mk (blk_below (zkf (zkf BK171.out NB171_182.out _) NB171_182.out _) hb); replace BK172 := Aside0.mk (blk_below (zkf (zkf BK172.out NB172_182.out _) NB172_182.out _) hb); replace BK175 := Aside0.mk (blk_below (zkf (zkf BK175.out NB175_182.out _) NB175_182.out _) hb); replace BK181 := Aside0.mk (blk_below (zkf (zkf BK181.out NB181_182.out _) NB181_182.out _) hb); replace BK182 := Aside0.mk (blk_below (o := .cells #[.int .u64 t183, .int .u64 t184] 109 (0, 0)) (blk_put (cs := #[.int .u64 t183, .int .u64 0]) (blk_put BK182.out 0 _ rfl) 1 _ rfl) hb); replace HB := Aside0.mk (below_step (below_set (below_set HB.out GE182.out) GE182.out) hb); (try clear hb)))
  go_ret2
  exact ⟨zaE, zaB⟩
 ·rw [if_neg c7] at H
  have c7b0 : (a0_2 == a1_2) = false := by simpa using c7
  (try (have c7b1 : decide (a0_2 = a1_2) = false := by simpa using c7))
  (try (have c7b2 : (a0_2 == a1_2) = false := by simpa using c7))
  (try (have c7b3 : ¬ (a0_2 = a1_2) := by simpa using c7))
  clear c7
  obtain ⟨⟨t188, t189, t190⟩, A43, H⟩ := zbs H
  try dsimp only at H
  by_cases c44 : (t188 == 0 && (t189 == 0)) = true
  ·rw [if_pos c44] at H
   have c44b0 : (t188 == 0 && (t189 == 0)) = true := c44
   (try (have c44b1 : decide (t188 = 0 && (t189 == 0)) = true := by simpa using c44))
   (try (have c44b2 : (t188 == 0 && (t189 == 0)) = true := by simpa using c44))
   clear c44
   obtain ⟨t191, A45, H⟩ := zbs H
   try dsimp only at H
   simp only [Option.some.injEq, Prod.mk.injEq] at H
   obtain ⟨rfl, rfl⟩ := H
   go_enter Try.func86, Try.ntmps86
   try go_wp2_with (first | ((with_reducible refine gate_dst (N := 3) rfl ?_); refine zbx 3 #[.int .u64 a0_0, .int .u8 a0_1, .bool a0_2, .int .u64 a0_3, .int .i64 a0_4] 88 (h := ?_); intro gb171 hg w46 hbox hb; have GW171 := zkZ hg (zaB (p := Below w.heap.size w _)); have GE171 := GW171; replace HB := Aside0.mk (below_step zaB hb); have BK171 := Aside0.mk (hbox); clear hb hbox hg) | ((with_reducible refine gate_dst (N := 4) rfl ?_); refine zbx 4 #[.int .u64 a1_0, .int .u8 a1_1, .bool a1_2, .int .u64 a1_3, .int .i64 a1_4] 88 (h := ?_); intro gb172 hg w47 hbox hb; have GW172 := zkz HB hg; have GE172 := GW172; have NB171_172 := zkl BK171 hg; have NB172_171 := zkr BK171 hg; replace BK171 := zkb BK171 hb; replace HB := zkB HB hb; have BK172 := Aside0.mk (hbox); clear hb hbox hg; have hnb48 := NB171_172.out; have hnc48 := NB172_171.out; have hcz49_0 := zc0 BK171; have hcz49_1 := zc1 BK171; have hcz49_2 := zc2 BK171; have hcz49_3 := zc3 BK171; have hcz49_4 := zc4 BK171; have hfz49_0 := blk_frozen BK171.out 0; have hfz49_1 := blk_frozen BK171.out 1; have hfz49_2 := blk_frozen BK171.out 2; have hfz49_3 := blk_frozen BK171.out 3; have hfz49_4 := blk_frozen BK171.out 4) | ((with_reducible refine gate_callee (f := 106) rfl ?_); refine zgL 15 Try.func106 (wide_U128_Shl.calls k 0 a0_3 70 t173 t174 _ A4.out) (h := ?_); rintro w50 hb; replace BK171 := zkb BK171 hb; replace BK172 := zkb BK172 hb; replace HB := zkB HB hb; (try clear hb)) | ((with_reducible refine gate_dst (N := 8) rfl ?_); refine zbx 8 #[.int .u64 0, .int .u64 0] 109 (h := ?_); intro gb175 hg w51 hbox hb; have GW175 := zkz HB hg; have GE175 := GW175; have NB171_175 := zkl BK171 hg; have NB175_171 := zkr BK171 hg; have NB172_175 := zkl BK172 hg; have NB175_172 := zkr BK172 hg; replace BK171 := zkb BK171 hb; replace BK172 := zkb BK172 hb; replace HB := zkB HB hb; have BK175 := Aside0.mk (hbox); clear hb hbox hg; have hnb52 := NB175_171.out; have hnc52 := NB171_175.out; have hnb53 := NB175_172.out; have hnc53 := NB172_175.out; have hcz54_0 := zc0 BK175; have hcz54_1 := zc1 BK175; have hfz54_0 := blk_frozen BK175.out 0; have hfz54_1 := blk_frozen BK175.out 1))
   generalize hW_ : ((w51.setCell ⟨gb175, 0, none⟩ (.int .u64 t173)).setCell ⟨gb175, 1, none⟩ (.int .u64 t174)) = w55
   replace BK171 := zkg hW_ (zkf (zkf BK171.out NB171_175.out _) NB171_175.out _)
   replace BK172 := zkg hW_ (zkf (zkf BK172.out NB172_175.out _) NB172_175.out _)
   replace BK175 := zkg hW_ (ob := .cells #[.int .u64 t173, .int .u64 t174] 109 (0, 0)) (blk_put (cs := #[.int .u64 t173, .int .u64 0]) (blk_put BK175.out 0 _ rfl) 1 _ rfl)
   replace HB := zkG hW_ (below_set (below_set HB.out GE175.out) GE175.out)
   clear hW_
   replace BK171 := Aside0.mk (blk_drew BK171.out)
   replace BK172 := Aside0.mk (blk_drew BK172.out)
   replace BK175 := Aside0.mk (blk_drew BK175.out)
   replace HB := Aside0.mk (below_drew1 HB.out)
   refine start_ (n := 16) (S := fun w' => w'.cell? ⟨gb172, 0, none⟩ = some (.int .u64 a1_0) ∧ w'.cell? ⟨gb172, 1, none⟩ = some (.int .u8 a1_1) ∧ w'.cell? ⟨gb172, 2, none⟩ = some (.bool a1_2) ∧ w'.cell? ⟨gb172, 3, none⟩ = some (.int .u64 a1_3) ∧ w'.cell? ⟨gb172, 4, none⟩ = some (.int .i64 a1_4) ∧ w'.cell? ⟨gb171, 0, none⟩ = some (.int .u64 a0_0) ∧ w'.cell? ⟨gb171, 1, none⟩ = some (.int .u8 a0_1) ∧ w'.cell? ⟨gb171, 2, none⟩ = some (.bool a0_2) ∧ w'.cell? ⟨gb171, 3, none⟩ = some (.int .u64 a0_3) ∧ w'.cell? ⟨gb171, 4, none⟩ = some (.int .i64 a0_4)) (ds := []) #[false, false, false, false, false, false, false, false, false, false, false, false, false, false, false, false] (by kernel_rfl) rfl rfl (zk5 BK172 (ze5 BK171)) (fun hHeld => ?_); refine with_tabW soft_num_add.tab2 soft_num_add.bits2 (fun HT_ HW_ => ?_)
   generalize w55.drew = w56 at BK171 BK172 BK175 HB hHeld ⊢
   refine zpA 0 17 (h := ?_)
   refine zpA 4 21 (h := ?_)
   refine zpA 6 23 (h := ?_)
   refine ztA 1 18 (h := ?_)
   refine zpA 2 19 (h := ?_)
   refine ztA 5 22 (h := ?_)
   refine ztA 7 24 (h := ?_)
   refine zpA 8 25 (h := ?_)
   refine join_ (σ := Nat) 2 #[true, true, true, true, true, true, true, true, true, true, true, true, true, true, false, false] (fun s_ => [(20, .agg #[.int .u64 t176, .int .u64 t177]), (26, .tuple #[.agg #[.int .u64 t178, .int .u64 t179], .bool t180]), (9, .pointer (some ⟨s_, 0, none⟩)), (16, .tuple #[.agg #[.int .u64 t178, .int .u64 t179], .bool t180]), (27, .agg #[.int .u64 t178, .int .u64 t179]), (28, .bool t180)]) (fun s_ w' => (w'.cell? ⟨gb172, 0, none⟩ = some (.int .u64 a1_0) ∧ w'.cell? ⟨gb172, 1, none⟩ = some (.int .u8 a1_1) ∧ w'.cell? ⟨gb172, 2, none⟩ = some (.bool a1_2) ∧ w'.cell? ⟨gb172, 3, none⟩ = some (.int .u64 a1_3) ∧ w'.cell? ⟨gb172, 4, none⟩ = some (.int .i64 a1_4) ∧ w'.cell? ⟨gb171, 0, none⟩ = some (.int .u64 a0_0) ∧ w'.cell? ⟨gb171, 1, none⟩ = some (.int .u8 a0_1) ∧ w'.cell? ⟨gb171, 2, none⟩ = some (.bool a0_2) ∧ w'.cell? ⟨gb171, 3, none⟩ = some (.int .u64 a0_3) ∧ w'.cell? ⟨gb171, 4, none⟩ = some (.int .i64 a0_4)) ∧ (w'.heap[gb171]? = some (.cells #[.int .u64 a0_0, .int .u8 a0_1, .bool a0_2, .int .u64 a0_3, .int .i64 a0_4] 88 (0, 0))) ∧ (w'.heap[gb172]? = some (.cells #[.int .u64 a1_0, .int .u8 a1_1, .bool a1_2, .int .u64 a1_3, .int .i64 a1_4] 88 (0, 0))) ∧ (w'.heap[gb175]? = some (.cells #[.int .u64 t173, .int .u64 t174] 109 (0, 0))) ∧ (w'.heap[s_]? = some (.cells #[.int .u64 0, .int .u64 0] 109 (0, 0))) ∧ (w.heap.size ≤ s_) ∧ (w.heap.size ≤ s_) ∧ (gb171 ≠ s_) ∧ (s_ ≠ gb171) ∧ (gb172 ≠ s_) ∧ (s_ ≠ gb172) ∧ (gb175 ≠ s_) ∧ (s_ ≠ gb175) ∧ (Below w.heap.size w w')) ?_ ?_
   rotate_left
   ·intro hCont
    refine two_ (i := 3) (j := 13) (Ni := some 20) (Nj := some 9) #[true, true, true, true, true, true, true, true, true, false, false, false, false, false, false, false] #[true, true, true, false, true, true, true, true, true, false, false, false, false, true, false, false] rfl rfl rfl rfl (two_of HT_.out (by kernel_rfl)) (by decide) (by decide) (fun K hK => ?_) (fun K hK => ?_)
    ·skip
     refine zgA Try.func106 (wide_U128_Shl.calls k 0 a1_3 70 t176 t177 _ A5.out) (h := ?_)
     rintro w57 hb
     replace BK171 := zkb BK171 hb
     replace BK172 := zkb BK172 hb
     replace BK175 := zkb BK175 hb
     replace HB := zkB HB hb
     (try clear hb)
     refine hK.out _ _ (zk5 BK172 (ze5 BK171)) (fun hHeld => ?_)
     clear hK K
     refine znA 20 (h := ?_)
     refine two_ (i := 9) (j := 13) (Ni := some 26) (Nj := some 9) #[true, true, true, true, true, true, true, true, true, true, false, false, false, false, false, false] #[true, true, true, true, true, true, true, true, true, false, false, false, false, true, false, false] rfl rfl rfl rfl (two_of HT_.out (by kernel_rfl)) (by decide) (by decide) (fun K hK => ?_) (fun K hK => ?_)
     ·skip
      refine zgA Try.func151 (wide_U128_Shr.calls k t176 t177 (wrap64 (a0_4 - a1_4)) t178 t179 t180 _ A6.out) (h := ?_)
      rintro w58 hb
      replace BK171 := zkb BK171 hb
      replace BK172 := zkb BK172 hb
      replace BK175 := zkb BK175 hb
      replace HB := zkB HB hb
      (try clear hb)
      refine hK.out _ _ (zk5 BK172 (ze5 BK171)) (fun hHeld => ?_)
      clear hK K
      refine znA 26 (h := ?_)
      refine zpA 10 16 (h := ?_)
      refine zpA 11 27 (h := ?_)
      refine zpA 12 28 (h := ?_)
      refine zoA 13 9 (h := fun K hK => ?_)
      refine box_step ?hg (N := 9) ?hd (cs := #[.int .u64 0, .int .u64 0]) (t := 109) ?hr ?_; (case hd => rfl); (case hg => rfl); (case hr => first | (go_simp; done) | (go_simp; rfl))
      intro gb181 hg w59 hbox hb
      have GW181 := zkz HB hg
      have GE181 := GW181
      have NB171_181 := zkl BK171 hg
      have NB181_171 := zkr BK171 hg
      have NB172_181 := zkl BK172 hg
      have NB181_172 := zkr BK172 hg
      have NB175_181 := zkl BK175 hg
      have NB181_175 := zkr BK175 hg
      replace BK171 := zkb BK171 hb
      replace BK172 := zkb BK172 hb
      replace BK175 := zkb BK175 hb
      replace HB := zkB HB hb
      have BK181 := Aside0.mk (hbox)
      clear hb hbox hg
      refine hK.out _ _ (zk5 BK172 (ze5 BK171)) (fun hHeld => ?_)
      clear hK K
      refine znA 9 (h := ?_)
      exact norm_ (by simp only [putAll, Act.put, List.setIfInBounds_toArray, List.set_cons_zero, List.set_cons_succ]) (hCont (gb181) _ ⟨hHeld, (zkq BK171), (zkq BK172), (zkq BK175), (zkq BK181), GW181.out, GE181.out, NB171_181.out, NB181_171.out, NB172_181.out, NB181_172.out, NB175_181.out, NB181_175.out, zaB⟩)
     ·skip
      refine box_step ?hg (N := 9) ?hd (cs := #[.int .u64 0, .int .u64 0]) (t := 109) ?hr ?_; (case hd => rfl); (case hg => rfl); (case hr => first | (go_simp; done) | (go_simp; rfl))
      intro gb181 hg w58 hbox hb
      have GW181 := zkz HB hg
      have GE181 := GW181
      have NB171_181 := zkl BK171 hg
      have NB181_171 := zkr BK171 hg
      have NB172_181 := zkl BK172 hg
      have NB181_172 := zkr BK172 hg
      have NB175_181 := zkl BK175 hg
      have NB181_175 := zkr BK175 hg
      replace BK171 := zkb BK171 hb
      replace BK172 := zkb BK172 hb
      replace BK175 := zkb BK175 hb
      replace HB := zkB HB hb
      have BK181 := Aside0.mk (hbox)
      clear hb hbox hg
      refine hK.out _ _ (zk5 BK172 (ze5 BK171)) (fun hHeld => ?_)
      clear hK K
      refine znA 9 (h := ?_)
      refine zoA 9 26 (h := fun K hK => ?_)
      refine zgA Try.func151 (wide_U128_Shr.calls k t176 t177 (wrap64 (a0_4 - a1_4)) t178 t179 t180 _ A6.out) (h := ?_)
      rintro w59 hb
      replace BK171 := zkb BK171 hb
      replace BK172 := zkb BK172 hb
      replace BK175 := zkb BK175 hb
      replace BK181 := zkb BK181 hb
      replace HB := zkB HB hb
      (try clear hb)
      refine hK.out _ _ (zk5 BK172 (ze5 BK171)) (fun hHeld => ?_)
      clear hK K
      refine znA 26 (h := ?_)
      refine zpA 10 16 (h := ?_)
      refine zpA 11 27 (h := ?_)
      refine zpA 12 28 (h := ?_)
      exact norm_ (by simp only [putAll, Act.put, List.setIfInBounds_toArray, List.set_cons_zero, List.set_cons_succ]) (hCont (gb181) _ ⟨hHeld, (zkq BK171), (zkq BK172), (zkq BK175), (zkq BK181), GW181.out, GE181.out, NB171_181.out, NB181_171.out, NB172_181.out, NB181_172.out, NB175_181.out, NB181_175.out, zaB⟩)
    ·skip
     refine box_step ?hg (N := 9) ?hd (cs := #[.int .u64 0, .int .u64 0]) (t := 109) ?hr ?_; (case hd => rfl); (case hg => rfl); (case hr => first | (go_simp; done) | (go_simp; rfl))
     intro gb181 hg w57 hbox hb
     have GW181 := zkz HB hg
     have GE181 := GW181
     have NB171_181 := zkl BK171 hg
     have NB181_171 := zkr BK171 hg
     have NB172_181 := zkl BK172 hg
     have NB181_172 := zkr BK172 hg
     have NB175_181 := zkl BK175 hg
     have NB181_175 := zkr BK175 hg
     replace BK171 := zkb BK171 hb
     replace BK172 := zkb BK172 hb
     replace BK175 := zkb BK175 hb
     replace HB := zkB HB hb
     have BK181 := Aside0.mk (hbox)
     clear hb hbox hg
     refine hK.out _ _ (zk5 BK172 (ze5 BK171)) (fun hHeld => ?_)
     clear hK K
     refine znA 9 (h := ?_)
     refine zoA 3 20 (h := fun K hK => ?_)
     refine zgA Try.func106 (wide_U128_Shl.calls k 0 a1_3 70 t176 t177 _ A5.out) (h := ?_)
     rintro w58 hb
     replace BK171 := zkb BK171 hb
     replace BK172 := zkb BK172 hb
     replace BK175 := zkb BK175 hb
     replace BK181 := zkb BK181 hb
     replace HB := zkB HB hb
     (try clear hb)
     refine hK.out _ _ (zk5 BK172 (ze5 BK171)) (fun hHeld => ?_)
     clear hK K
     refine znA 20 (h := ?_)
     refine zoA 9 26 (h := fun K hK => ?_)
     refine zgA Try.func151 (wide_U128_Shr.calls k t176 t177 (wrap64 (a0_4 - a1_4)) t178 t179 t180 _ A6.out) (h := ?_)
     rintro w59 hb
     replace BK171 := zkb BK171 hb
     replace BK172 := zkb BK172 hb
     replace BK175 := zkb BK175 hb
     replace BK181 := zkb BK181 hb
     replace HB := zkB HB hb
     (try clear hb)
     refine hK.out _ _ (zk5 BK172 (ze5 BK171)) (fun hHeld => ?_)
     clear hK K
     refine znA 26 (h := ?_)
     refine zpA 10 16 (h := ?_)
     refine zpA 11 27 (h := ?_)
     refine zpA 12 28 (h := ?_)
     exact norm_ (by simp only [putAll, Act.put, List.setIfInBounds_toArray, List.set_cons_zero, List.set_cons_succ]) (hCont (gb181) _ ⟨hHeld, (zkq BK171), (zkq BK172), (zkq BK175), (zkq BK181), GW181.out, GE181.out, NB171_181.out, NB181_171.out, NB172_181.out, NB181_172.out, NB175_181.out, NB181_175.out, zaB⟩)
   rintro gb181 w60 ⟨hS_, h0_, h1_, h2_, h3_, h4_, h5_, h6_, h7_, h8_, h9_, h10_, h11_, h12_⟩
   have n0_ : Aside0 (w60.heap[gb171]? = some (.cells #[.int .u64 a0_0, .int .u8 a0_1, .bool a0_2, .int .u64 a0_3, .int .i64 a0_4] 88 (0, 0))) := ⟨h0_⟩
   have n1_ : Aside0 (w60.heap[gb172]? = some (.cells #[.int .u64 a1_0, .int .u8 a1_1, .bool a1_2, .int .u64 a1_3, .int .i64 a1_4] 88 (0, 0))) := ⟨h1_⟩
   have n2_ : Aside0 (w60.heap[gb175]? = some (.cells #[.int .u64 t173, .int .u64 t174] 109 (0, 0))) := ⟨h2_⟩
   have n3_ : Aside0 (w60.heap[gb181]? = some (.cells #[.int .u64 0, .int .u64 0] 109 (0, 0))) := ⟨h3_⟩
   have n4_ : Aside0 (w.heap.size ≤ gb181) := ⟨h4_⟩
   have n5_ : Aside0 (w.heap.size ≤ gb181) := ⟨h5_⟩
   have n6_ : Aside0 (gb171 ≠ gb181) := ⟨h6_⟩
   have n7_ : Aside0 (gb181 ≠ gb171) := ⟨h7_⟩
   have n8_ : Aside0 (gb172 ≠ gb181) := ⟨h8_⟩
   have n9_ : Aside0 (gb181 ≠ gb172) := ⟨h9_⟩
   have n10_ : Aside0 (gb175 ≠ gb181) := ⟨h10_⟩
   have n11_ : Aside0 (gb181 ≠ gb175) := ⟨h11_⟩
   have n12_ : Aside0 (Below w.heap.size w w60) := ⟨h12_⟩
   clear BK171
   clear BK172
   clear BK175
   clear HB
   clear h0_ h1_ h2_ h3_ h4_ h5_ h6_ h7_ h8_ h9_ h10_ h11_ h12_
   have BK171 := n0_
   have BK172 := n1_
   have BK175 := n2_
   have BK181 := n3_
   have GW181 := n4_
   have GE181 := n5_
   have NB171_181 := n6_
   have NB181_171 := n7_
   have NB172_181 := n8_
   have NB181_172 := n9_
   have NB175_181 := n10_
   have NB181_175 := n11_
   have HB := n12_
   clear n0_ n1_ n2_ n3_ n4_ n5_ n6_ n7_ n8_ n9_ n10_ n11_ n12_
   have hHeld : w60.cell? ⟨gb172, 0, none⟩ = some (.int .u64 a1_0) ∧ w60.cell? ⟨gb172, 1, none⟩ = some (.int .u8 a1_1) ∧ w60.cell? ⟨gb172, 2, none⟩ = some (.bool a1_2) ∧ w60.cell? ⟨gb172, 3, none⟩ = some (.int .u64 a1_3) ∧ w60.cell? ⟨gb172, 4, none⟩ = some (.int .i64 a1_4) ∧ w60.cell? ⟨gb171, 0, none⟩ = some (.int .u64 a0_0) ∧ w60.cell? ⟨gb171, 1, none⟩ = some (.int .u8 a0_1) ∧ w60.cell? ⟨gb171, 2, none⟩ = some (.bool a0_2) ∧ w60.cell? ⟨gb171, 3, none⟩ = some (.int .u64 a0_3) ∧ w60.cell? ⟨gb171, 4, none⟩ = some (.int .i64 a0_4) := hS_
   refine norm_ (a' := ?_) ?_ ?_
   rotate_left
   ·simp only [putAll, Act.put, List.setIfInBounds_toArray, List.set_cons_zero, List.set_cons_succ]
    rfl
   refine one_ (i := 14) (N := none) #[true, true, true, true, true, true, true, true, true, true, true, true, true, true, true, false] rfl rfl (one_of HT_.out (by kernel_rfl)) (by decide) (fun K hK => ?_)
   have hs61 := zc0 BK181
   have hfs61 := blk_frozen BK181.out 0
   have hns61_0 := NB171_181.out
   have hns61_1 := NB172_181.out
   have hns61_2 := NB175_181.out
   have hms61_0 := NB181_171.out
   have hms61_1 := NB181_172.out
   have hms61_2 := NB181_175.out
   have hs62 := zc1 BK181
   have hfs62 := blk_frozen BK181.out 1
   have hns62_0 := NB171_181.out
   have hns62_1 := NB172_181.out
   have hns62_2 := NB175_181.out
   have hms62_0 := NB181_171.out
   have hms62_1 := NB181_172.out
   have hms62_2 := NB181_175.out
   refine skip_ (w1 := ?_) (by rfl) rfl ?_ ?_
   rotate_left
   ·go_simp
    rfl
   refine hK.out _ _ ⟨(zff NB172_181 (zff NB172_181 hHeld.1)), (zff NB172_181 (zff NB172_181 hHeld.2.1)), (zff NB172_181 (zff NB172_181 hHeld.2.2.1)), (zff NB172_181 (zff NB172_181 hHeld.2.2.2.1)), (zff NB172_181 (zff NB172_181 hHeld.2.2.2.2.1)), (zff NB171_181 (zff NB171_181 hHeld.2.2.2.2.2.1)), (zff NB171_181 (zff NB171_181 hHeld.2.2.2.2.2.2.1)), (zff NB171_181 (zff NB171_181 hHeld.2.2.2.2.2.2.2.1)), (zff NB171_181 (zff NB171_181 hHeld.2.2.2.2.2.2.2.2.1)), (zff NB171_181 (zff NB171_181 hHeld.2.2.2.2.2.2.2.2.2))⟩ (fun hHeld => ?_)
   clear hK K
   refine zpA 15 10 (h := ?_)
   refine done_ (done_of HT_.out (by kernel_rfl)) ?_
   try go_wp2_with (first | ((with_reducible refine gate_dst (N := 11) rfl ?_); refine zbx 11 #[.int .u64 0, .int .u64 0] 109 (h := ?_); intro gb182 hg w63 hbox hb; have GW182 := zkZ hg (below_set (below_set HB.out GE181.out) GE181.out); have GE182 := GW182; have NB171_182 := zkL hg (zkf (zkf BK171.out NB171_181.out _) NB171_181.out _); have NB182_171 := zks NB171_182; have NB172_182 := zkL hg (zkf (zkf BK172.out NB172_181.out _) NB172_181.out _); have NB182_172 := zks NB172_182; have NB175_182 := zkL hg (zkf (zkf BK175.out NB175_181.out _) NB175_181.out _); have NB182_175 := zks NB175_182; have NB181_182 := zkL hg (ob := .cells #[.int .u64 t178, .int .u64 t179] 109 (0, 0)) (blk_put (cs := #[.int .u64 t178, .int .u64 0]) (blk_put BK181.out 0 _ rfl) 1 _ rfl); have NB182_181 := zks NB181_182; replace BK171 := Aside0.mk (blk_below (zkf (zkf BK171.out NB171_181.out _) NB171_181.out _) hb); replace BK172 := Aside0.mk (blk_below (zkf (zkf BK172.out NB172_181.out _) NB172_181.out _) hb); replace BK175 := Aside0.mk (blk_below (zkf (zkf BK175.out NB175_181.out _) NB175_181.out _) hb); replace BK181 := Aside0.mk (blk_below (o := .cells #[.int .u64 t178, .int .u64 t179] 109 (0, 0)) (blk_put (cs := #[.int .u64 t178, .int .u64 0]) (blk_put BK181.out 0 _ rfl) 1 _ rfl) hb); replace HB := Aside0.mk (below_step (below_set (below_set HB.out GE181.out) GE181.out) hb); have BK182 := Aside0.mk (hbox); clear hb hbox hg; have hnb64 := NB171_181.out; have hnc64 := NB181_171.out; have hnb65 := NB171_182.out; have hnc65 := NB182_171.out; have hcz66_0 := zc0 BK171; have hcz66_1 := zc1 BK171; have hcz66_2 := zc2 BK171; have hcz66_3 := zc3 BK171; have hcz66_4 := zc4 BK171; have hfz66_0 := blk_frozen BK171.out 0; have hfz66_1 := blk_frozen BK171.out 1; have hfz66_2 := blk_frozen BK171.out 2; have hfz66_3 := blk_frozen BK171.out 3; have hfz66_4 := blk_frozen BK171.out 4; have hnb67 := NB172_181.out; have hnc67 := NB181_172.out; have hnb68 := NB172_182.out; have hnc68 := NB182_172.out; have hcz69_0 := zc0 BK172; have hcz69_1 := zc1 BK172; have hcz69_2 := zc2 BK172; have hcz69_3 := zc3 BK172; have hcz69_4 := zc4 BK172; have hfz69_0 := blk_frozen BK172.out 0; have hfz69_1 := blk_frozen BK172.out 1; have hfz69_2 := blk_frozen BK172.out 2; have hfz69_3 := blk_frozen BK172.out 3; have hfz69_4 := blk_frozen BK172.out 4; have hnb70 := NB175_181.out; have hnc70 := NB181_175.out; have hnb71 := NB175_182.out; have hnc71 := NB182_175.out; have hcz72_0 := zc0 BK175; have hcz72_1 := zc1 BK175; have hfz72_0 := blk_frozen BK175.out 0; have hfz72_1 := blk_frozen BK175.out 1; have hnb73 := NB181_182.out; have hnc73 := NB182_181.out; have hcz74_0 := zc0 BK181; have hcz74_1 := zc1 BK181; have hfz74_0 := blk_frozen BK181.out 0; have hfz74_1 := blk_frozen BK181.out 1) | ((with_reducible refine gate_callee (f := 153) rfl ?_); refine zgL 43 Try.func153 (wide_U128_Sub.calls t173 t174 t178 t179 t188 t189 t190 _ A43.out) (h := ?_); rintro w75 hb; replace BK171 := zkb BK171 hb; replace BK172 := zkb BK172 hb; replace BK175 := zkb BK175 hb; replace BK181 := zkb BK181 hb; replace BK182 := zkb BK182 hb; replace HB := zkB HB hb; (try clear hb); have hcz76_0 := zc0 BK182; have hcz76_1 := zc1 BK182; have hfz76_0 := blk_frozen BK182.out 0; have hfz76_1 := blk_frozen BK182.out 1) | ((with_reducible refine gate_callee (f := 85) rfl ?_); refine zgL 51 Try.func85 (soft_zero.calls k (a2 == 2) t191 _ A45.out) (h := ?_); rintro w' ⟨nd, rfl⟩))
   go_ret2
   exact ⟨zaE, zaB⟩
  ·rw [if_neg c44] at H
   have c44b0 : (t188 == 0 && (t189 == 0)) = false := by simpa using c44
   (try (have c44b1 : decide (t188 = 0 && (t189 == 0)) = false := by simpa using c44))
   (try (have c44b2 : (t188 == 0 && (t189 == 0)) = false := by simpa using c44))
   (try (have c44b3 : ¬ (t188 = 0 && (t189 == 0)) := by simpa using c44))
   clear c44
   by_cases c77 : t180 = true
   ·subst c77
    have H1 : ((wide_U128_Sub.f t188 t189 0 1).bind fun bt192 => ((round_Round.f k a0_2 bt192.1 bt192.2.1 (wrap64 (a0_4 - 70)) true a2).bind fun bt195 => (some (bt195.1, bt195.2)))) = some (r1, r2) := by rw [if_pos rfl] at H; exact H
    clear H
    have H := H1
    clear H1
    obtain ⟨⟨t192, t193, t194⟩, A78, H⟩ := zbs H
    try dsimp only at H
    obtain ⟨⟨t195, t196⟩, A79, H⟩ := zbs H
    try dsimp only at H
    simp only [Option.some.injEq, Prod.mk.injEq] at H
    obtain ⟨rfl, rfl⟩ := H
    go_enter Try.func86, Try.ntmps86
    try go_wp2_with (first | ((with_reducible refine gate_dst (N := 3) rfl ?_); refine zbx 3 #[.int .u64 a0_0, .int .u8 a0_1, .bool a0_2, .int .u64 a0_3, .int .i64 a0_4] 88 (h := ?_); intro gb171 hg w80 hbox hb; have GW171 := zkZ hg (zaB (p := Below w.heap.size w _)); have GE171 := GW171; replace HB := Aside0.mk (below_step zaB hb); have BK171 := Aside0.mk (hbox); clear hb hbox hg) | ((with_reducible refine gate_dst (N := 4) rfl ?_); refine zbx 4 #[.int .u64 a1_0, .int .u8 a1_1, .bool a1_2, .int .u64 a1_3, .int .i64 a1_4] 88 (h := ?_); intro gb172 hg w81 hbox hb; have GW172 := zkz HB hg; have GE172 := GW172; have NB171_172 := zkl BK171 hg; have NB172_171 := zkr BK171 hg; replace BK171 := zkb BK171 hb; replace HB := zkB HB hb; have BK172 := Aside0.mk (hbox); clear hb hbox hg; have hnb82 := NB171_172.out; have hnc82 := NB172_171.out; have hcz83_0 := zc0 BK171; have hcz83_1 := zc1 BK171; have hcz83_2 := zc2 BK171; have hcz83_3 := zc3 BK171; have hcz83_4 := zc4 BK171; have hfz83_0 := blk_frozen BK171.out 0; have hfz83_1 := blk_frozen BK171.out 1; have hfz83_2 := blk_frozen BK171.out 2; have hfz83_3 := blk_frozen BK171.out 3; have hfz83_4 := blk_frozen BK171.out 4) | ((with_reducible refine gate_callee (f := 106) rfl ?_); refine zgL 15 Try.func106 (wide_U128_Shl.calls k 0 a0_3 70 t173 t174 _ A4.out) (h := ?_); rintro w84 hb; replace BK171 := zkb BK171 hb; replace BK172 := zkb BK172 hb; replace HB := zkB HB hb; (try clear hb)) | ((with_reducible refine gate_dst (N := 8) rfl ?_); refine zbx 8 #[.int .u64 0, .int .u64 0] 109 (h := ?_); intro gb175 hg w85 hbox hb; have GW175 := zkz HB hg; have GE175 := GW175; have NB171_175 := zkl BK171 hg; have NB175_171 := zkr BK171 hg; have NB172_175 := zkl BK172 hg; have NB175_172 := zkr BK172 hg; replace BK171 := zkb BK171 hb; replace BK172 := zkb BK172 hb; replace HB := zkB HB hb; have BK175 := Aside0.mk (hbox); clear hb hbox hg; have hnb86 := NB175_171.out; have hnc86 := NB171_175.out; have hnb87 := NB175_172.out; have hnc87 := NB172_175.out; have hcz88_0 := zc0 BK175; have hcz88_1 := zc1 BK175; have hfz88_0 := blk_frozen BK175.out 0; have hfz88_1 := blk_frozen BK175.out 1))
    generalize hW_ : ((w85.setCell ⟨gb175, 0, none⟩ (.int .u64 t173)).setCell ⟨gb175, 1, none⟩ (.int .u64 t174)) = w89
    replace BK171 := zkg hW_ (zkf (zkf BK171.out NB171_175.out _) NB171_175.out _)
    replace BK172 := zkg hW_ (zkf (zkf BK172.out NB172_175.out _) NB172_175.out _)
    replace BK175 := zkg hW_ (ob := .cells #[.int .u64 t173, .int .u64 t174] 109 (0, 0)) (blk_put (cs := #[.int .u64 t173, .int .u64 0]) (blk_put BK175.out 0 _ rfl) 1 _ rfl)
    replace HB := zkG hW_ (below_set (below_set HB.out GE175.out) GE175.out)
    clear hW_
    replace BK171 := Aside0.mk (blk_drew BK171.out)
    replace BK172 := Aside0.mk (blk_drew BK172.out)
    replace BK175 := Aside0.mk (blk_drew BK175.out)
    replace HB := Aside0.mk (below_drew1 HB.out)
    refine start_ (n := 16) (S := fun w' => w'.cell? ⟨gb172, 0, none⟩ = some (.int .u64 a1_0) ∧ w'.cell? ⟨gb172, 1, none⟩ = some (.int .u8 a1_1) ∧ w'.cell? ⟨gb172, 2, none⟩ = some (.bool a1_2) ∧ w'.cell? ⟨gb172, 3, none⟩ = some (.int .u64 a1_3) ∧ w'.cell? ⟨gb172, 4, none⟩ = some (.int .i64 a1_4) ∧ w'.cell? ⟨gb171, 0, none⟩ = some (.int .u64 a0_0) ∧ w'.cell? ⟨gb171, 1, none⟩ = some (.int .u8 a0_1) ∧ w'.cell? ⟨gb171, 2, none⟩ = some (.bool a0_2) ∧ w'.cell? ⟨gb171, 3, none⟩ = some (.int .u64 a0_3) ∧ w'.cell? ⟨gb171, 4, none⟩ = some (.int .i64 a0_4)) (ds := []) #[false, false, false, false, false, false, false, false, false, false, false, false, false, false, false, false] (by kernel_rfl) rfl rfl (zk5 BK172 (ze5 BK171)) (fun hHeld => ?_); refine with_tabW soft_num_add.tab2 soft_num_add.bits2 (fun HT_ HW_ => ?_)
    generalize w89.drew = w90 at BK171 BK172 BK175 HB hHeld ⊢
    refine zpA 0 17 (h := ?_)
    refine zpA 4 21 (h := ?_)
    refine zpA 6 23 (h := ?_)
    refine ztA 1 18 (h := ?_)
    refine zpA 2 19 (h := ?_)
    refine ztA 5 22 (h := ?_)
    refine ztA 7 24 (h := ?_)
    refine zpA 8 25 (h := ?_)
    refine join_ (σ := Nat) 2 #[true, true, true, true, true, true, true, true, true, true, true, true, true, true, false, false] (fun s_ => [(20, .agg #[.int .u64 t176, .int .u64 t177]), (26, .tuple #[.agg #[.int .u64 t178, .int .u64 t179], .bool true]), (9, .pointer (some ⟨s_, 0, none⟩)), (16, .tuple #[.agg #[.int .u64 t178, .int .u64 t179], .bool true]), (27, .agg #[.int .u64 t178, .int .u64 t179]), (28, .bool true)]) (fun s_ w' => (w'.cell? ⟨gb172, 0, none⟩ = some (.int .u64 a1_0) ∧ w'.cell? ⟨gb172, 1, none⟩ = some (.int .u8 a1_1) ∧ w'.cell? ⟨gb172, 2, none⟩ = some (.bool a1_2) ∧ w'.cell? ⟨gb172, 3, none⟩ = some (.int .u64 a1_3) ∧ w'.cell? ⟨gb172, 4, none⟩ = some (.int .i64 a1_4) ∧ w'.cell? ⟨gb171, 0, none⟩ = some (.int .u64 a0_0) ∧ w'.cell? ⟨gb171, 1, none⟩ = some (.int .u8 a0_1) ∧ w'.cell? ⟨gb171, 2, none⟩ = some (.bool a0_2) ∧ w'.cell? ⟨gb171, 3, none⟩ = some (.int .u64 a0_3) ∧ w'.cell? ⟨gb171, 4, none⟩ = some (.int .i64 a0_4)) ∧ (w'.heap[gb171]? = some (.cells #[.int .u64 a0_0, .int .u8 a0_1, .bool a0_2, .int .u64 a0_3, .int .i64 a0_4] 88 (0, 0))) ∧ (w'.heap[gb172]? = some (.cells #[.int .u64 a1_0, .int .u8 a1_1, .bool a1_2, .int .u64 a1_3, .int .i64 a1_4] 88 (0, 0))) ∧ (w'.heap[gb175]? = some (.cells #[.int .u64 t173, .int .u64 t174] 109 (0, 0))) ∧ (w'.heap[s_]? = some (.cells #[.int .u64 0, .int .u64 0] 109 (0, 0))) ∧ (w.heap.size ≤ s_) ∧ (w.heap.size ≤ s_) ∧ (gb171 ≠ s_) ∧ (s_ ≠ gb171) ∧ (gb172 ≠ s_) ∧ (s_ ≠ gb172) ∧ (gb175 ≠ s_) ∧ (s_ ≠ gb175) ∧ (Below w.heap.size w w')) ?_ ?_
    rotate_left
    ·intro hCont
     refine two_ (i := 3) (j := 13) (Ni := some 20) (Nj := some 9) #[true, true, true, true, true, true, true, true, true, false, false, false, false, false, false, false] #[true, true, true, false, true, true, true, true, true, false, false, false, false, true, false, false] rfl rfl rfl rfl (two_of HT_.out (by kernel_rfl)) (by decide) (by decide) (fun K hK => ?_) (fun K hK => ?_)
     ·skip
      refine zgA Try.func106 (wide_U128_Shl.calls k 0 a1_3 70 t176 t177 _ A5.out) (h := ?_)
      rintro w91 hb
      replace BK171 := zkb BK171 hb
      replace BK172 := zkb BK172 hb
      replace BK175 := zkb BK175 hb
      replace HB := zkB HB hb
      (try clear hb)
      refine hK.out _ _ (zk5 BK172 (ze5 BK171)) (fun hHeld => ?_)
      clear hK K
      refine znA 20 (h := ?_)
      refine two_ (i := 9) (j := 13) (Ni := some 26) (Nj := some 9) #[true, true, true, true, true, true, true, true, true, true, false, false, false, false, false, false] #[true, true, true, true, true, true, true, true, true, false, false, false, false, true, false, false] rfl rfl rfl rfl (two_of HT_.out (by kernel_rfl)) (by decide) (by decide) (fun K hK => ?_) (fun K hK => ?_)
      ·skip
       refine zgA Try.func151 (wide_U128_Shr.calls k t176 t177 (wrap64 (a0_4 - a1_4)) t178 t179 true _ A6.out) (h := ?_)
       rintro w92 hb
       replace BK171 := zkb BK171 hb
       replace BK172 := zkb BK172 hb
       replace BK175 := zkb BK175 hb
       replace HB := zkB HB hb
       (try clear hb)
       refine hK.out _ _ (zk5 BK172 (ze5 BK171)) (fun hHeld => ?_)
       clear hK K
       refine znA 26 (h := ?_)
       refine zpA 10 16 (h := ?_)
       refine zpA 11 27 (h := ?_)
       refine zpA 12 28 (h := ?_)
       refine zoA 13 9 (h := fun K hK => ?_)
       refine box_step ?hg (N := 9) ?hd (cs := #[.int .u64 0, .int .u64 0]) (t := 109) ?hr ?_; (case hd => rfl); (case hg => rfl); (case hr => first | (go_simp; done) | (go_simp; rfl))
       intro gb181 hg w93 hbox hb
       have GW181 := zkz HB hg
       have GE181 := GW181
       have NB171_181 := zkl BK171 hg
       have NB181_171 := zkr BK171 hg
       have NB172_181 := zkl BK172 hg
       have NB181_172 := zkr BK172 hg
       have NB175_181 := zkl BK175 hg
       have NB181_175 := zkr BK175 hg
       replace BK171 := zkb BK171 hb
       replace BK172 := zkb BK172 hb
       replace BK175 := zkb BK175 hb
       replace HB := zkB HB hb
       have BK181 := Aside0.mk (hbox)
       clear hb hbox hg
       refine hK.out _ _ (zk5 BK172 (ze5 BK171)) (fun hHeld => ?_)
       clear hK K
       refine znA 9 (h := ?_)
       exact norm_ (by simp only [putAll, Act.put, List.setIfInBounds_toArray, List.set_cons_zero, List.set_cons_succ]) (hCont (gb181) _ ⟨hHeld, (zkq BK171), (zkq BK172), (zkq BK175), (zkq BK181), GW181.out, GE181.out, NB171_181.out, NB181_171.out, NB172_181.out, NB181_172.out, NB175_181.out, NB181_175.out, zaB⟩)
      ·skip
       refine box_step ?hg (N := 9) ?hd (cs := #[.int .u64 0, .int .u64 0]) (t := 109) ?hr ?_; (case hd => rfl); (case hg => rfl); (case hr => first | (go_simp; done) | (go_simp; rfl))
       intro gb181 hg w92 hbox hb
       have GW181 := zkz HB hg
       have GE181 := GW181
       have NB171_181 := zkl BK171 hg
       have NB181_171 := zkr BK171 hg
       have NB172_181 := zkl BK172 hg
       have NB181_172 := zkr BK172 hg
       have NB175_181 := zkl BK175 hg
       have NB181_175 := zkr BK175 hg
       replace BK171 := zkb BK171 hb
       replace BK172 := zkb BK172 hb
       replace BK175 := zkb BK175 hb
       replace HB := zkB HB hb
       have BK181 := Aside0.mk (hbox)
       clear hb hbox hg
       refine hK.out _ _ (zk5 BK172 (ze5 BK171)) (fun hHeld => ?_)
       clear hK K
       refine znA 9 (h := ?_)
       refine zoA 9 26 (h := fun K hK => ?_)
       refine zgA Try.func151 (wide_U128_Shr.calls k t176 t177 (wrap64 (a0_4 - a1_4)) t178 t179 true _ A6.out) (h := ?_)
       rintro w93 hb
       replace BK171 := zkb BK171 hb
       replace BK172 := zkb BK172 hb
       replace BK175 := zkb BK175 hb
       replace BK181 := zkb BK181 hb
       replace HB := zkB HB hb
       (try clear hb)
       refine hK.out _ _ (zk5 BK172 (ze5 BK171)) (fun hHeld => ?_)
       clear hK K
       refine znA 26 (h := ?_)
       refine zpA 10 16 (h := ?_)
       refine zpA 11 27 (h := ?_)
       refine zpA 12 28 (h := ?_)
       exact norm_ (by simp only [putAll, Act.put, List.setIfInBounds_toArray, List.set_cons_zero, List.set_cons_succ]) (hCont (gb181) _ ⟨hHeld, (zkq BK171), (zkq BK172), (zkq BK175), (zkq BK181), GW181.out, GE181.out, NB171_181.out, NB181_171.out, NB172_181.out, NB181_172.out, NB175_181.out, NB181_175.out, zaB⟩)
     ·skip
      refine box_step ?hg (N := 9) ?hd (cs := #[.int .u64 0, .int .u64 0]) (t := 109) ?hr ?_; (case hd => rfl); (case hg => rfl); (case hr => first | (go_simp; done) | (go_simp; rfl))
      intro gb181 hg w91 hbox hb
      have GW181 := zkz HB hg
      have GE181 := GW181
      have NB171_181 := zkl BK171 hg
      have NB181_171 := zkr BK171 hg
      have NB172_181 := zkl BK172 hg
      have NB181_172 := zkr BK172 hg
      have NB175_181 := zkl BK175 hg
      have NB181_175 := zkr BK175 hg
      replace BK171 := zkb BK171 hb
      replace BK172 := zkb BK172 hb
      replace BK175 := zkb BK175 hb
      replace HB := zkB HB hb
      have BK181 := Aside0.mk (hbox)
      clear hb hbox hg
      refine hK.out _ _ (zk5 BK172 (ze5 BK171)) (fun hHeld => ?_)
      clear hK K
      refine znA 9 (h := ?_)
      refine zoA 3 20 (h := fun K hK => ?_)
      refine zgA Try.func106 (wide_U128_Shl.calls k 0 a1_3 70 t176 t177 _ A5.out) (h := ?_)
      rintro w92 hb
      replace BK171 := zkb BK171 hb
      replace BK172 := zkb BK172 hb
      replace BK175 := zkb BK175 hb
      replace BK181 := zkb BK181 hb
      replace HB := zkB HB hb
      (try clear hb)
      refine hK.out _ _ (zk5 BK172 (ze5 BK171)) (fun hHeld => ?_)
      clear hK K
      refine znA 20 (h := ?_)
      refine zoA 9 26 (h := fun K hK => ?_)
      refine zgA Try.func151 (wide_U128_Shr.calls k t176 t177 (wrap64 (a0_4 - a1_4)) t178 t179 true _ A6.out) (h := ?_)
      rintro w93 hb
      replace BK171 := zkb BK171 hb
      replace BK172 := zkb BK172 hb
      replace BK175 := zkb BK175 hb
      replace BK181 := zkb BK181 hb
      replace HB := zkB HB hb
      (try clear hb)
      refine hK.out _ _ (zk5 BK172 (ze5 BK171)) (fun hHeld => ?_)
      clear hK K
      refine znA 26 (h := ?_)
      refine zpA 10 16 (h := ?_)
      refine zpA 11 27 (h := ?_)
      refine zpA 12 28 (h := ?_)
      exact norm_ (by simp only [putAll, Act.put, List.setIfInBounds_toArray, List.set_cons_zero, List.set_cons_succ]) (hCont (gb181) _ ⟨hHeld, (zkq BK171), (zkq BK172), (zkq BK175), (zkq BK181), GW181.out, GE181.out, NB171_181.out, NB181_171.out, NB172_181.out, NB181_172.out, NB175_181.out, NB181_175.out, zaB⟩)
    rintro gb181 w94 ⟨hS_, h0_, h1_, h2_, h3_, h4_, h5_, h6_, h7_, h8_, h9_, h10_, h11_, h12_⟩
    have n0_ : Aside0 (w94.heap[gb171]? = some (.cells #[.int .u64 a0_0, .int .u8 a0_1, .bool a0_2, .int .u64 a0_3, .int .i64 a0_4] 88 (0, 0))) := ⟨h0_⟩
    have n1_ : Aside0 (w94.heap[gb172]? = some (.cells #[.int .u64 a1_0, .int .u8 a1_1, .bool a1_2, .int .u64 a1_3, .int .i64 a1_4] 88 (0, 0))) := ⟨h1_⟩
    have n2_ : Aside0 (w94.heap[gb175]? = some (.cells #[.int .u64 t173, .int .u64 t174] 109 (0, 0))) := ⟨h2_⟩
    have n3_ : Aside0 (w94.heap[gb181]? = some (.cells #[.int .u64 0, .int .u64 0] 109 (0, 0))) := ⟨h3_⟩
    have n4_ : Aside0 (w.heap.size ≤ gb181) := ⟨h4_⟩
    have n5_ : Aside0 (w.heap.size ≤ gb181) := ⟨h5_⟩
    have n6_ : Aside0 (gb171 ≠ gb181) := ⟨h6_⟩
    have n7_ : Aside0 (gb181 ≠ gb171) := ⟨h7_⟩
    have n8_ : Aside0 (gb172 ≠ gb181) := ⟨h8_⟩
    have n9_ : Aside0 (gb181 ≠ gb172) := ⟨h9_⟩
    have n10_ : Aside0 (gb175 ≠ gb181) := ⟨h10_⟩
    have n11_ : Aside0 (gb181 ≠ gb175) := ⟨h11_⟩
    have n12_ : Aside0 (Below w.heap.size w w94) := ⟨h12_⟩
    clear BK171
    clear BK172
    clear BK175
    clear HB
    clear h0_ h1_ h2_ h3_ h4_ h5_ h6_ h7_ h8_ h9_ h10_ h11_ h12_
    have BK171 := n0_
    have BK172 := n1_
    have BK175 := n2_
    have BK181 := n3_
    have GW181 := n4_
    have GE181 := n5_
    have NB171_181 := n6_
    have NB181_171 := n7_
    have NB172_181 := n8_
    have NB181_172 := n9_
    have NB175_181 := n10_
    have NB181_175 := n11_
    have HB := n12_
    clear n0_ n1_ n2_ n3_ n4_ n5_ n6_ n7_ n8_ n9_ n10_ n11_ n12_
    have hHeld : w94.cell? ⟨gb172, 0, none⟩ = some (.int .u64 a1_0) ∧ w94.cell? ⟨gb172, 1, none⟩ = some (.int .u8 a1_1) ∧ w94.cell? ⟨gb172, 2, none⟩ = some (.bool a1_2) ∧ w94.cell? ⟨gb172, 3, none⟩ = some (.int .u64 a1_3) ∧ w94.cell? ⟨gb172, 4, none⟩ = some (.int .i64 a1_4) ∧ w94.cell? ⟨gb171, 0, none⟩ = some (.int .u64 a0_0) ∧ w94.cell? ⟨gb171, 1, none⟩ = some (.int .u8 a0_1) ∧ w94.cell? ⟨gb171, 2, none⟩ = some (.bool a0_2) ∧ w94.cell? ⟨gb171, 3, none⟩ = some (.int .u64 a0_3) ∧ w94.cell? ⟨gb171, 4, none⟩ = some (.int .i64 a0_4) := hS_
    refine norm_ (a' := ?_) ?_ ?_
    rotate_left
    ·simp only [putAll, Act.put, List.setIfInBounds_toArray, List.set_cons_zero, List.set_cons_succ]
     rfl
    refine one_ (i := 14) (N := none) #[true, true, true, true, true, true, true, true, true, true, true, true, true, true, true, false] rfl rfl (one_of HT_.out (by kernel_rfl)) (by decide) (fun K hK => ?_)
    have hs95 := zc0 BK181
    have hfs95 := blk_frozen BK181.out 0
    have hns95_0 := NB171_181.out
    have hns95_1 := NB172_181.out
    have hns95_2 := NB175_181.out
    have hms95_0 := NB181_171.out
    have hms95_1 := NB181_172.out
    have hms95_2 := NB181_175.out
    have hs96 := zc1 BK181
    have hfs96 := blk_frozen BK181.out 1
    have hns96_0 := NB171_181.out
    have hns96_1 := NB172_181.out
    have hns96_2 := NB175_181.out
    have hms96_0 := NB181_171.out
    have hms96_1 := NB181_172.out
    have hms96_2 := NB181_175.out
    refine skip_ (w1 := ?_) (by rfl) rfl ?_ ?_
    rotate_left
    ·go_simp
     rfl
    refine hK.out _ _ ⟨(zff NB172_181 (zff NB172_181 hHeld.1)), (zff NB172_181 (zff NB172_181 hHeld.2.1)), (zff NB172_181 (zff NB172_181 hHeld.2.2.1)), (zff NB172_181 (zff NB172_181 hHeld.2.2.2.1)), (zff NB172_181 (zff NB172_181 hHeld.2.2.2.2.1)), (zff NB171_181 (zff NB171_181 hHeld.2.2.2.2.2.1)), (zff NB171_181 (zff NB171_181 hHeld.2.2.2.2.2.2.1)), (zff NB171_181 (zff NB171_181 hHeld.2.2.2.2.2.2.2.1)), (zff NB171_181 (zff NB171_181 hHeld.2.2.2.2.2.2.2.2.1)), (zff NB171_181 (zff NB171_181 hHeld.2.2.2.2.2.2.2.2.2))⟩ (fun hHeld => ?_)
    clear hK K
    refine zpA 15 10 (h := ?_)
    refine done_ (done_of HT_.out (by kernel_rfl)) ?_
    try go_wp2_with (first | ((with_reducible refine gate_dst (N := 11) rfl ?_); refine zbx 11 #[.int .u64 0, .int .u64 0] 109 (h := ?_); intro gb182 hg w97 hbox hb; have GW182 := zkZ hg (below_set (below_set HB.out GE181.out) GE181.out); have GE182 := GW182; have NB171_182 := zkL hg (zkf (zkf BK171.out NB171_181.out _) NB171_181.out _); have NB182_171 := zks NB171_182; have NB172_182 := zkL hg (zkf (zkf BK172.out NB172_181.out _) NB172_181.out _); have NB182_172 := zks NB172_182; have NB175_182 := zkL hg (zkf (zkf BK175.out NB175_181.out _) NB175_181.out _); have NB182_175 := zks NB175_182; have NB181_182 := zkL hg (ob := .cells #[.int .u64 t178, .int .u64 t179] 109 (0, 0)) (blk_put (cs := #[.int .u64 t178, .int .u64 0]) (blk_put BK181.out 0 _ rfl) 1 _ rfl); have NB182_181 := zks NB181_182; replace BK171 := Aside0.mk (blk_below (zkf (zkf BK171.out NB171_181.out _) NB171_181.out _) hb); replace BK172 := Aside0.mk (blk_below (zkf (zkf BK172.out NB172_181.out _) NB172_181.out _) hb); replace BK175 := Aside0.mk (blk_below (zkf (zkf BK175.out NB175_181.out _) NB175_181.out _) hb); replace BK181 := Aside0.mk (blk_below (o := .cells #[.int .u64 t178, .int .u64 t179] 109 (0, 0)) (blk_put (cs := #[.int .u64 t178, .int .u64 0]) (blk_put BK181.out 0 _ rfl) 1 _ rfl) hb); replace HB := Aside0.mk (below_step (below_set (below_set HB.out GE181.out) GE181.out) hb); have BK182 := Aside0.mk (hbox); clear hb hbox hg; have hnb98 := NB171_181.out; have hnc98 := NB181_171.out; have hnb99 := NB171_182.out; have hnc99 := NB182_171.out; have hcz100_0 := zc0 BK171; have hcz100_1 := zc1 BK171; have hcz100_2 := zc2 BK171; have hcz100_3 := zc3 BK171; have hcz100_4 := zc4 BK171; have hfz100_0 := blk_frozen BK171.out 0; have hfz100_1 := blk_frozen BK171.out 1; have hfz100_2 := blk_frozen BK171.out 2; have hfz100_3 := blk_frozen BK171.out 3; have hfz100_4 := blk_frozen BK171.out 4; have hnb101 := NB172_181.out; have hnc101 := NB181_172.out; have hnb102 := NB172_182.out; have hnc102 := NB182_172.out; have hcz103_0 := zc0 BK172; have hcz103_1 := zc1 BK172; have hcz103_2 := zc2 BK172; have hcz103_3 := zc3 BK172; have hcz103_4 := zc4 BK172; have hfz103_0 := blk_frozen BK172.out 0; have hfz103_1 := blk_frozen BK172.out 1; have hfz103_2 := blk_frozen BK172.out 2; have hfz103_3 := blk_frozen BK172.out 3; have hfz103_4 := blk_frozen BK172.out 4; have hnb104 := NB175_181.out; have hnc104 := NB181_175.out; have hnb105 := NB175_182.out; have hnc105 := NB182_175.out; have hcz106_0 := zc0 BK175; have hcz106_1 := zc1 BK175; have hfz106_0 := blk_frozen BK175.out 0; have hfz106_1 := blk_frozen BK175.out 1; have hnb107 := NB181_182.out; have hnc107 := NB182_181.out; have hcz108_0 := zc0 BK181; have hcz108_1 := zc1 BK181; have hfz108_0 := blk_frozen BK181.out 0; have hfz108_1 := blk_frozen BK181.out 1) | ((with_reducible refine gate_callee (f := 153) rfl ?_); refine zgL 43 Try.func153 (wide_U128_Sub.calls t173 t174 t178 t179 t188 t189 t190 _ A43.out) (h := ?_); rintro w109 hb; replace BK171 := zkb BK171 hb; replace BK172 := zkb BK172 hb; replace BK175 := zkb BK175 hb; replace BK181 := zkb BK181 hb; replace BK182 := zkb BK182 hb; replace HB := zkB HB hb; (try clear hb); have hcz110_0 := zc0 BK182; have hcz110_1 := zc1 BK182; have hfz110_0 := blk_frozen BK182.out 0; have hfz110_1 := blk_frozen BK182.out 1) | ((with_reducible refine gate_callee (f := 153) rfl ?_); refine zgL 56 Try.func153 (wide_U128_Sub.calls t188 t189 0 1 t192 t193 t194 _ A78.out) (h := ?_); rintro w111 hb; replace BK171 := Aside0.mk (blk_below (zkf (zkf BK171.out NB171_182.out _) NB171_182.out _) hb); replace BK172 := Aside0.mk (blk_below (zkf (zkf BK172.out NB172_182.out _) NB172_182.out _) hb); replace BK175 := Aside0.mk (blk_below (zkf (zkf BK175.out NB175_182.out _) NB175_182.out _) hb); replace BK181 := Aside0.mk (blk_below (zkf (zkf BK181.out NB181_182.out _) NB181_182.out _) hb); replace BK182 := Aside0.mk (blk_below (o := .cells #[.int .u64 t188, .int .u64 t189] 109 (0, 0)) (blk_put (cs := #[.int .u64 t188, .int .u64 0]) (blk_put BK182.out 0 _ rfl) 1 _ rfl) hb); replace HB := Aside0.mk (below_step (below_set (below_set HB.out GE182.out) GE182.out) hb); (try clear hb); have hcz112_0 := zc0 BK182; have hcz112_1 := zc1 BK182; have hfz112_0 := blk_frozen BK182.out 0; have hfz112_1 := blk_frozen BK182.out 1; have hcz113_0 := zc0 BK171; have hcz113_1 := zc1 BK171; have hcz113_2 := zc2 BK171; have hcz113_3 := zc3 BK171; have hcz113_4 := zc4 BK171; have hfz113_0 := blk_frozen BK171.out 0; have hfz113_1 := blk_frozen BK171.out 1; have hfz113_2 := blk_frozen BK171.out 2; have hfz113_3 := blk_frozen BK171.out 3; have hfz113_4 := blk_frozen BK171.out 4) | ((with_reducible refine gate_callee (f := 99) rfl ?_); refine zgL 67 Try.func99 (round_Round.calls k a0_2 t192 t193 (wrap64 (a0_4 - 70)) true a2 t195 t196 _ A79.out) (h := ?_); rintro w114 hb; replace BK171 := Aside0.mk (blk_below (zkf (zkf BK171.out NB171_182.out _) NB171_182.out _) hb); replace BK172 := Aside0.mk (blk_below (zkf (zkf BK172.out NB172_182.out _) NB172_182.out _) hb); replace BK175 := Aside0.mk (blk_below (zkf (zkf BK175.out NB175_182.out _) NB175_182.out _) hb); replace BK181 := Aside0.mk (blk_below (zkf (zkf BK181.out NB181_182.out _) NB181_182.out _) hb); replace BK182 := Aside0.mk (blk_below (o := .cells #[.int .u64 t192, .int .u64 t193] 109 (0, 0)) (blk_put (cs := #[.int .u64 t192, .int .u64 t189]) (blk_put BK182.out 0 _ rfl) 1 _ rfl) hb); replace HB := Aside0.mk (below_step (below_set (below_set HB.out GE182.out) GE182.out) hb); (try clear hb)))
    go_ret2
    exact ⟨zaE, zaB⟩
   ·replace c77 := Bool.eq_false_iff.mpr c77
    subst c77
    have H1 : ((round_Round.f k a0_2 t188 t189 (wrap64 (a0_4 - 70)) false a2).bind fun bt197 => (some (bt197.1, bt197.2))) = some (r1, r2) := by rw [if_neg (show ¬ (false = true) by decide)] at H; exact H
    clear H
    have H := H1
    clear H1
    obtain ⟨⟨t197, t198⟩, A115, H⟩ := zbs H
    try dsimp only at H
    simp only [Option.some.injEq, Prod.mk.injEq] at H
    obtain ⟨rfl, rfl⟩ := H
    go_enter Try.func86, Try.ntmps86
    try go_wp2_with (first | ((with_reducible refine gate_dst (N := 3) rfl ?_); refine zbx 3 #[.int .u64 a0_0, .int .u8 a0_1, .bool a0_2, .int .u64 a0_3, .int .i64 a0_4] 88 (h := ?_); intro gb171 hg w116 hbox hb; have GW171 := zkZ hg (zaB (p := Below w.heap.size w _)); have GE171 := GW171; replace HB := Aside0.mk (below_step zaB hb); have BK171 := Aside0.mk (hbox); clear hb hbox hg) | ((with_reducible refine gate_dst (N := 4) rfl ?_); refine zbx 4 #[.int .u64 a1_0, .int .u8 a1_1, .bool a1_2, .int .u64 a1_3, .int .i64 a1_4] 88 (h := ?_); intro gb172 hg w117 hbox hb; have GW172 := zkz HB hg; have GE172 := GW172; have NB171_172 := zkl BK171 hg; have NB172_171 := zkr BK171 hg; replace BK171 := zkb BK171 hb; replace HB := zkB HB hb; have BK172 := Aside0.mk (hbox); clear hb hbox hg; have hnb118 := NB171_172.out; have hnc118 := NB172_171.out; have hcz119_0 := zc0 BK171; have hcz119_1 := zc1 BK171; have hcz119_2 := zc2 BK171; have hcz119_3 := zc3 BK171; have hcz119_4 := zc4 BK171; have hfz119_0 := blk_frozen BK171.out 0; have hfz119_1 := blk_frozen BK171.out 1; have hfz119_2 := blk_frozen BK171.out 2; have hfz119_3 := blk_frozen BK171.out 3; have hfz119_4 := blk_frozen BK171.out 4) | ((with_reducible refine gate_callee (f := 106) rfl ?_); refine zgL 15 Try.func106 (wide_U128_Shl.calls k 0 a0_3 70 t173 t174 _ A4.out) (h := ?_); rintro w120 hb; replace BK171 := zkb BK171 hb; replace BK172 := zkb BK172 hb; replace HB := zkB HB hb; (try clear hb)) | ((with_reducible refine gate_dst (N := 8) rfl ?_); refine zbx 8 #[.int .u64 0, .int .u64 0] 109 (h := ?_); intro gb175 hg w121 hbox hb; have GW175 := zkz HB hg; have GE175 := GW175; have NB171_175 := zkl BK171 hg; have NB175_171 := zkr BK171 hg; have NB172_175 := zkl BK172 hg; have NB175_172 := zkr BK172 hg; replace BK171 := zkb BK171 hb; replace BK172 := zkb BK172 hb; replace HB := zkB HB hb; have BK175 := Aside0.mk (hbox); clear hb hbox hg; have hnb122 := NB175_171.out; have hnc122 := NB171_175.out; have hnb123 := NB175_172.out; have hnc123 := NB172_175.out; have hcz124_0 := zc0 BK175; have hcz124_1 := zc1 BK175; have hfz124_0 := blk_frozen BK175.out 0; have hfz124_1 := blk_frozen BK175.out 1))
    generalize hW_ : ((w121.setCell ⟨gb175, 0, none⟩ (.int .u64 t173)).setCell ⟨gb175, 1, none⟩ (.int .u64 t174)) = w125
    replace BK171 := zkg hW_ (zkf (zkf BK171.out NB171_175.out _) NB171_175.out _)
    replace BK172 := zkg hW_ (zkf (zkf BK172.out NB172_175.out _) NB172_175.out _)
    replace BK175 := zkg hW_ (ob := .cells #[.int .u64 t173, .int .u64 t174] 109 (0, 0)) (blk_put (cs := #[.int .u64 t173, .int .u64 0]) (blk_put BK175.out 0 _ rfl) 1 _ rfl)
    replace HB := zkG hW_ (below_set (below_set HB.out GE175.out) GE175.out)
    clear hW_
    replace BK171 := Aside0.mk (blk_drew BK171.out)
    replace BK172 := Aside0.mk (blk_drew BK172.out)
    replace BK175 := Aside0.mk (blk_drew BK175.out)
    replace HB := Aside0.mk (below_drew1 HB.out)
    refine start_ (n := 16) (S := fun w' => w'.cell? ⟨gb172, 0, none⟩ = some (.int .u64 a1_0) ∧ w'.cell? ⟨gb172, 1, none⟩ = some (.int .u8 a1_1) ∧ w'.cell? ⟨gb172, 2, none⟩ = some (.bool a1_2) ∧ w'.cell? ⟨gb172, 3, none⟩ = some (.int .u64 a1_3) ∧ w'.cell? ⟨gb172, 4, none⟩ = some (.int .i64 a1_4) ∧ w'.cell? ⟨gb171, 0, none⟩ = some (.int .u64 a0_0) ∧ w'.cell? ⟨gb171, 1, none⟩ = some (.int .u8 a0_1) ∧ w'.cell? ⟨gb171, 2, none⟩ = some (.bool a0_2) ∧ w'.cell? ⟨gb171, 3, none⟩ = some (.int .u64 a0_3) ∧ w'.cell? ⟨gb171, 4, none⟩ = some (.int .i64 a0_4)) (ds := []) #[false, false, false, false, false, false, false, false, false, false, false, false, false, false, false, false] (by kernel_rfl) rfl rfl (zk5 BK172 (ze5 BK171)) (fun hHeld => ?_); refine with_tabW soft_num_add.tab2 soft_num_add.bits2 (fun HT_ HW_ => ?_)
    generalize w125.drew = w126 at BK171 BK172 BK175 HB hHeld ⊢
    refine zpA 0 17 (h := ?_)
    refine zpA 4 21 (h := ?_)
    refine zpA 6 23 (h := ?_)
    refine ztA 1 18 (h := ?_)
    refine zpA 2 19 (h := ?_)
    refine ztA 5 22 (h := ?_)
    refine ztA 7 24 (h := ?_)
    refine zpA 8 25 (h := ?_)
    refine join_ (σ := Nat) 2 #[true, true, true, true, true, true, true, true, true, true, true, true, true, true, false, false] (fun s_ => [(20, .agg #[.int .u64 t176, .int .u64 t177]), (26, .tuple #[.agg #[.int .u64 t178, .int .u64 t179], .bool false]), (9, .pointer (some ⟨s_, 0, none⟩)), (16, .tuple #[.agg #[.int .u64 t178, .int .u64 t179], .bool false]), (27, .agg #[.int .u64 t178, .int .u64 t179]), (28, .bool false)]) (fun s_ w' => (w'.cell? ⟨gb172, 0, none⟩ = some (.int .u64 a1_0) ∧ w'.cell? ⟨gb172, 1, none⟩ = some (.int .u8 a1_1) ∧ w'.cell? ⟨gb172, 2, none⟩ = some (.bool a1_2) ∧ w'.cell? ⟨gb172, 3, none⟩ = some (.int .u64 a1_3) ∧ w'.cell? ⟨gb172, 4, none⟩ = some (.int .i64 a1_4) ∧ w'.cell? ⟨gb171, 0, none⟩ = some (.int .u64 a0_0) ∧ w'.cell? ⟨gb171, 1, none⟩ = some (.int .u8 a0_1) ∧ w'.cell? ⟨gb171, 2, none⟩ = some (.bool a0_2) ∧ w'.cell? ⟨gb171, 3, none⟩ = some (.int .u64 a0_3) ∧ w'.cell? ⟨gb171, 4, none⟩ = some (.int .i64 a0_4)) ∧ (w'.heap[gb171]? = some (.cells #[.int .u64 a0_0, .int .u8 a0_1, .bool a0_2, .int .u64 a0_3, .int .i64 a0_4] 88 (0, 0))) ∧ (w'.heap[gb172]? = some (.cells #[.int .u64 a1_0, .int .u8 a1_1, .bool a1_2, .int .u64 a1_3, .int .i64 a1_4] 88 (0, 0))) ∧ (w'.heap[gb175]? = some (.cells #[.int .u64 t173, .int .u64 t174] 109 (0, 0))) ∧ (w'.heap[s_]? = some (.cells #[.int .u64 0, .int .u64 0] 109 (0, 0))) ∧ (w.heap.size ≤ s_) ∧ (w.heap.size ≤ s_) ∧ (gb171 ≠ s_) ∧ (s_ ≠ gb171) ∧ (gb172 ≠ s_) ∧ (s_ ≠ gb172) ∧ (gb175 ≠ s_) ∧ (s_ ≠ gb175) ∧ (Below w.heap.size w w')) ?_ ?_
    rotate_left
    ·intro hCont
     refine two_ (i := 3) (j := 13) (Ni := some 20) (Nj := some 9) #[true, true, true, true, true, true, true, true, true, false, false, false, false, false, false, false] #[true, true, true, false, true, true, true, true, true, false, false, false, false, true, false, false] rfl rfl rfl rfl (two_of HT_.out (by kernel_rfl)) (by decide) (by decide) (fun K hK => ?_) (fun K hK => ?_)
     ·skip
      refine zgA Try.func106 (wide_U128_Shl.calls k 0 a1_3 70 t176 t177 _ A5.out) (h := ?_)
      rintro w127 hb
      replace BK171 := zkb BK171 hb
      replace BK172 := zkb BK172 hb
      replace BK175 := zkb BK175 hb
      replace HB := zkB HB hb
      (try clear hb)
      refine hK.out _ _ (zk5 BK172 (ze5 BK171)) (fun hHeld => ?_)
      clear hK K
      refine znA 20 (h := ?_)
      refine two_ (i := 9) (j := 13) (Ni := some 26) (Nj := some 9) #[true, true, true, true, true, true, true, true, true, true, false, false, false, false, false, false] #[true, true, true, true, true, true, true, true, true, false, false, false, false, true, false, false] rfl rfl rfl rfl (two_of HT_.out (by kernel_rfl)) (by decide) (by decide) (fun K hK => ?_) (fun K hK => ?_)
      ·skip
       refine zgA Try.func151 (wide_U128_Shr.calls k t176 t177 (wrap64 (a0_4 - a1_4)) t178 t179 false _ A6.out) (h := ?_)
       rintro w128 hb
       replace BK171 := zkb BK171 hb
       replace BK172 := zkb BK172 hb
       replace BK175 := zkb BK175 hb
       replace HB := zkB HB hb
       (try clear hb)
       refine hK.out _ _ (zk5 BK172 (ze5 BK171)) (fun hHeld => ?_)
       clear hK K
       refine znA 26 (h := ?_)
       refine zpA 10 16 (h := ?_)
       refine zpA 11 27 (h := ?_)
       refine zpA 12 28 (h := ?_)
       refine zoA 13 9 (h := fun K hK => ?_)
       refine box_step ?hg (N := 9) ?hd (cs := #[.int .u64 0, .int .u64 0]) (t := 109) ?hr ?_; (case hd => rfl); (case hg => rfl); (case hr => first | (go_simp; done) | (go_simp; rfl))
       intro gb181 hg w129 hbox hb
       have GW181 := zkz HB hg
       have GE181 := GW181
       have NB171_181 := zkl BK171 hg
       have NB181_171 := zkr BK171 hg
       have NB172_181 := zkl BK172 hg
       have NB181_172 := zkr BK172 hg
       have NB175_181 := zkl BK175 hg
       have NB181_175 := zkr BK175 hg
       replace BK171 := zkb BK171 hb
       replace BK172 := zkb BK172 hb
       replace BK175 := zkb BK175 hb
       replace HB := zkB HB hb
       have BK181 := Aside0.mk (hbox)
       clear hb hbox hg
       refine hK.out _ _ (zk5 BK172 (ze5 BK171)) (fun hHeld => ?_)
       clear hK K
       refine znA 9 (h := ?_)
       exact norm_ (by simp only [putAll, Act.put, List.setIfInBounds_toArray, List.set_cons_zero, List.set_cons_succ]) (hCont (gb181) _ ⟨hHeld, (zkq BK171), (zkq BK172), (zkq BK175), (zkq BK181), GW181.out, GE181.out, NB171_181.out, NB181_171.out, NB172_181.out, NB181_172.out, NB175_181.out, NB181_175.out, zaB⟩)
      ·skip
       refine box_step ?hg (N := 9) ?hd (cs := #[.int .u64 0, .int .u64 0]) (t := 109) ?hr ?_; (case hd => rfl); (case hg => rfl); (case hr => first | (go_simp; done) | (go_simp; rfl))
       intro gb181 hg w128 hbox hb
       have GW181 := zkz HB hg
       have GE181 := GW181
       have NB171_181 := zkl BK171 hg
       have NB181_171 := zkr BK171 hg
       have NB172_181 := zkl BK172 hg
       have NB181_172 := zkr BK172 hg
       have NB175_181 := zkl BK175 hg
       have NB181_175 := zkr BK175 hg
       replace BK171 := zkb BK171 hb
       replace BK172 := zkb BK172 hb
       replace BK175 := zkb BK175 hb
       replace HB := zkB HB hb
       have BK181 := Aside0.mk (hbox)
       clear hb hbox hg
       refine hK.out _ _ (zk5 BK172 (ze5 BK171)) (fun hHeld => ?_)
       clear hK K
       refine znA 9 (h := ?_)
       refine zoA 9 26 (h := fun K hK => ?_)
       refine zgA Try.func151 (wide_U128_Shr.calls k t176 t177 (wrap64 (a0_4 - a1_4)) t178 t179 false _ A6.out) (h := ?_)
       rintro w129 hb
       replace BK171 := zkb BK171 hb
       replace BK172 := zkb BK172 hb
       replace BK175 := zkb BK175 hb
       replace BK181 := zkb BK181 hb
       replace HB := zkB HB hb
       (try clear hb)
       refine hK.out _ _ (zk5 BK172 (ze5 BK171)) (fun hHeld => ?_)
       clear hK K
       refine znA 26 (h := ?_)
       refine zpA 10 16 (h := ?_)
       refine zpA 11 27 (h := ?_)
       refine zpA 12 28 (h := ?_)
       exact norm_ (by simp only [putAll, Act.put, List.setIfInBounds_toArray, List.set_cons_zero, List.set_cons_succ]) (hCont (gb181) _ ⟨hHeld, (zkq BK171), (zkq BK172), (zkq BK175), (zkq BK181), GW181.out, GE181.out, NB171_181.out, NB181_171.out, NB172_181.out, NB181_172.out, NB175_181.out, NB181_175.out, zaB⟩)
     ·skip
      refine box_step ?hg (N := 9) ?hd (cs := #[.int .u64 0, .int .u64 0]) (t := 109) ?hr ?_; (case hd => rfl); (case hg => rfl); (case hr => first | (go_simp; done) | (go_simp; rfl))
      intro gb181 hg w127 hbox hb
      have GW181 := zkz HB hg
      have GE181 := GW181
      have NB171_181 := zkl BK171 hg
      have NB181_171 := zkr BK171 hg
      have NB172_181 := zkl BK172 hg
      have NB181_172 := zkr BK172 hg
      have NB175_181 := zkl BK175 hg
      have NB181_175 := zkr BK175 hg
      replace BK171 := zkb BK171 hb
      replace BK172 := zkb BK172 hb
      replace BK175 := zkb BK175 hb
      replace HB := zkB HB hb
      have BK181 := Aside0.mk (hbox)
      clear hb hbox hg
      refine hK.out _ _ (zk5 BK172 (ze5 BK171)) (fun hHeld => ?_)
      clear hK K
      refine znA 9 (h := ?_)
      refine zoA 3 20 (h := fun K hK => ?_)
      refine zgA Try.func106 (wide_U128_Shl.calls k 0 a1_3 70 t176 t177 _ A5.out) (h := ?_)
      rintro w128 hb
      replace BK171 := zkb BK171 hb
      replace BK172 := zkb BK172 hb
      replace BK175 := zkb BK175 hb
      replace BK181 := zkb BK181 hb
      replace HB := zkB HB hb
      (try clear hb)
      refine hK.out _ _ (zk5 BK172 (ze5 BK171)) (fun hHeld => ?_)
      clear hK K
      refine znA 20 (h := ?_)
      refine zoA 9 26 (h := fun K hK => ?_)
      refine zgA Try.func151 (wide_U128_Shr.calls k t176 t177 (wrap64 (a0_4 - a1_4)) t178 t179 false _ A6.out) (h := ?_)
      rintro w129 hb
      replace BK171 := zkb BK171 hb
      replace BK172 := zkb BK172 hb
      replace BK175 := zkb BK175 hb
      replace BK181 := zkb BK181 hb
      replace HB := zkB HB hb
      (try clear hb)
      refine hK.out _ _ (zk5 BK172 (ze5 BK171)) (fun hHeld => ?_)
      clear hK K
      refine znA 26 (h := ?_)
      refine zpA 10 16 (h := ?_)
      refine zpA 11 27 (h := ?_)
      refine zpA 12 28 (h := ?_)
      exact norm_ (by simp only [putAll, Act.put, List.setIfInBounds_toArray, List.set_cons_zero, List.set_cons_succ]) (hCont (gb181) _ ⟨hHeld, (zkq BK171), (zkq BK172), (zkq BK175), (zkq BK181), GW181.out, GE181.out, NB171_181.out, NB181_171.out, NB172_181.out, NB181_172.out, NB175_181.out, NB181_175.out, zaB⟩)
    rintro gb181 w130 ⟨hS_, h0_, h1_, h2_, h3_, h4_, h5_, h6_, h7_, h8_, h9_, h10_, h11_, h12_⟩
    have n0_ : Aside0 (w130.heap[gb171]? = some (.cells #[.int .u64 a0_0, .int .u8 a0_1, .bool a0_2, .int .u64 a0_3, .int .i64 a0_4] 88 (0, 0))) := ⟨h0_⟩
    have n1_ : Aside0 (w130.heap[gb172]? = some (.cells #[.int .u64 a1_0, .int .u8 a1_1, .bool a1_2, .int .u64 a1_3, .int .i64 a1_4] 88 (0, 0))) := ⟨h1_⟩
    have n2_ : Aside0 (w130.heap[gb175]? = some (.cells #[.int .u64 t173, .int .u64 t174] 109 (0, 0))) := ⟨h2_⟩
    have n3_ : Aside0 (w130.heap[gb181]? = some (.cells #[.int .u64 0, .int .u64 0] 109 (0, 0))) := ⟨h3_⟩
    have n4_ : Aside0 (w.heap.size ≤ gb181) := ⟨h4_⟩
    have n5_ : Aside0 (w.heap.size ≤ gb181) := ⟨h5_⟩
    have n6_ : Aside0 (gb171 ≠ gb181) := ⟨h6_⟩
    have n7_ : Aside0 (gb181 ≠ gb171) := ⟨h7_⟩
    have n8_ : Aside0 (gb172 ≠ gb181) := ⟨h8_⟩
    have n9_ : Aside0 (gb181 ≠ gb172) := ⟨h9_⟩
    have n10_ : Aside0 (gb175 ≠ gb181) := ⟨h10_⟩
    have n11_ : Aside0 (gb181 ≠ gb175) := ⟨h11_⟩
    have n12_ : Aside0 (Below w.heap.size w w130) := ⟨h12_⟩
    clear BK171
    clear BK172
    clear BK175
    clear HB
    clear h0_ h1_ h2_ h3_ h4_ h5_ h6_ h7_ h8_ h9_ h10_ h11_ h12_
    have BK171 := n0_
    have BK172 := n1_
    have BK175 := n2_
    have BK181 := n3_
    have GW181 := n4_
    have GE181 := n5_
    have NB171_181 := n6_
    have NB181_171 := n7_
    have NB172_181 := n8_
    have NB181_172 := n9_
    have NB175_181 := n10_
    have NB181_175 := n11_
    have HB := n12_
    clear n0_ n1_ n2_ n3_ n4_ n5_ n6_ n7_ n8_ n9_ n10_ n11_ n12_
    have hHeld : w130.cell? ⟨gb172, 0, none⟩ = some (.int .u64 a1_0) ∧ w130.cell? ⟨gb172, 1, none⟩ = some (.int .u8 a1_1) ∧ w130.cell? ⟨gb172, 2, none⟩ = some (.bool a1_2) ∧ w130.cell? ⟨gb172, 3, none⟩ = some (.int .u64 a1_3) ∧ w130.cell? ⟨gb172, 4, none⟩ = some (.int .i64 a1_4) ∧ w130.cell? ⟨gb171, 0, none⟩ = some (.int .u64 a0_0) ∧ w130.cell? ⟨gb171, 1, none⟩ = some (.int .u8 a0_1) ∧ w130.cell? ⟨gb171, 2, none⟩ = some (.bool a0_2) ∧ w130.cell? ⟨gb171, 3, none⟩ = some (.int .u64 a0_3) ∧ w130.cell? ⟨gb171, 4, none⟩ = some (.int .i64 a0_4) := hS_
    refine norm_ (a' := ?_) ?_ ?_
    rotate_left
    ·simp only [putAll, Act.put, List.setIfInBounds_toArray, List.set_cons_zero, List.set_cons_succ]
     rfl
    refine one_ (i := 14) (N := none) #[true, true, true, true, true, true, true, true, true, true, true, true, true, true, true, false] rfl rfl (one_of HT_.out (by kernel_rfl)) (by decide) (fun K hK => ?_)
    have hs131 := zc0 BK181
    have hfs131 := blk_frozen BK181.out 0
    have hns131_0 := NB171_181.out
    have hns131_1 := NB172_181.out
    have hns131_2 := NB175_181.out
    have hms131_0 := NB181_171.out
    have hms131_1 := NB181_172.out
    have hms131_2 := NB181_175.out
    have hs132 := zc1 BK181
    have hfs132 := blk_frozen BK181.out 1
    have hns132_0 := NB171_181.out
    have hns132_1 := NB172_181.out
    have hns132_2 := NB175_181.out
    have hms132_0 := NB181_171.out
    have hms132_1 := NB181_172.out
    have hms132_2 := NB181_175.out
    refine skip_ (w1 := ?_) (by rfl) rfl ?_ ?_
    rotate_left
    ·go_simp
     rfl
    refine hK.out _ _ ⟨(zff NB172_181 (zff NB172_181 hHeld.1)), (zff NB172_181 (zff NB172_181 hHeld.2.1)), (zff NB172_181 (zff NB172_181 hHeld.2.2.1)), (zff NB172_181 (zff NB172_181 hHeld.2.2.2.1)), (zff NB172_181 (zff NB172_181 hHeld.2.2.2.2.1)), (zff NB171_181 (zff NB171_181 hHeld.2.2.2.2.2.1)), (zff NB171_181 (zff NB171_181 hHeld.2.2.2.2.2.2.1)), (zff NB171_181 (zff NB171_181 hHeld.2.2.2.2.2.2.2.1)), (zff NB171_181 (zff NB171_181 hHeld.2.2.2.2.2.2.2.2.1)), (zff NB171_181 (zff NB171_181 hHeld.2.2.2.2.2.2.2.2.2))⟩ (fun hHeld => ?_)
    clear hK K
    refine zpA 15 10 (h := ?_)
    refine done_ (done_of HT_.out (by kernel_rfl)) ?_
    try go_wp2_with (first | ((with_reducible refine gate_dst (N := 11) rfl ?_); refine zbx 11 #[.int .u64 0, .int .u64 0] 109 (h := ?_); intro gb182 hg w133 hbox hb; have GW182 := zkZ hg (below_set (below_set HB.out GE181.out) GE181.out); have GE182 := GW182; have NB171_182 := zkL hg (zkf (zkf BK171.out NB171_181.out _) NB171_181.out _); have NB182_171 := zks NB171_182; have NB172_182 := zkL hg (zkf (zkf BK172.out NB172_181.out _) NB172_181.out _); have NB182_172 := zks NB172_182; have NB175_182 := zkL hg (zkf (zkf BK175.out NB175_181.out _) NB175_181.out _); have NB182_175 := zks NB175_182; have NB181_182 := zkL hg (ob := .cells #[.int .u64 t178, .int .u64 t179] 109 (0, 0)) (blk_put (cs := #[.int .u64 t178, .int .u64 0]) (blk_put BK181.out 0 _ rfl) 1 _ rfl); have NB182_181 := zks NB181_182; replace BK171 := Aside0.mk (blk_below (zkf (zkf BK171.out NB171_181.out _) NB171_181.out _) hb); replace BK172 := Aside0.mk (blk_below (zkf (zkf BK172.out NB172_181.out _) NB172_181.out _) hb); replace BK175 := Aside0.mk (blk_below (zkf (zkf BK175.out NB175_181.out _) NB175_181.out _) hb); replace BK181 := Aside0.mk (blk_below (o := .cells #[.int .u64 t178, .int .u64 t179] 109 (0, 0)) (blk_put (cs := #[.int .u64 t178, .int .u64 0]) (blk_put BK181.out 0 _ rfl) 1 _ rfl) hb); replace HB := Aside0.mk (below_step (below_set (below_set HB.out GE181.out) GE181.out) hb); have BK182 := Aside0.mk (hbox); clear hb hbox hg; have hnb134 := NB171_181.out; have hnc134 := NB181_171.out; have hnb135 := NB171_182.out; have hnc135 := NB182_171.out; have hcz136_0 := zc0 BK171; have hcz136_1 := zc1 BK171; have hcz136_2 := zc2 BK171; have hcz136_3 := zc3 BK171; have hcz136_4 := zc4 BK171; have hfz136_0 := blk_frozen BK171.out 0; have hfz136_1 := blk_frozen BK171.out 1; have hfz136_2 := blk_frozen BK171.out 2; have hfz136_3 := blk_frozen BK171.out 3; have hfz136_4 := blk_frozen BK171.out 4; have hnb137 := NB172_181.out; have hnc137 := NB181_172.out; have hnb138 := NB172_182.out; have hnc138 := NB182_172.out; have hcz139_0 := zc0 BK172; have hcz139_1 := zc1 BK172; have hcz139_2 := zc2 BK172; have hcz139_3 := zc3 BK172; have hcz139_4 := zc4 BK172; have hfz139_0 := blk_frozen BK172.out 0; have hfz139_1 := blk_frozen BK172.out 1; have hfz139_2 := blk_frozen BK172.out 2; have hfz139_3 := blk_frozen BK172.out 3; have hfz139_4 := blk_frozen BK172.out 4; have hnb140 := NB175_181.out; have hnc140 := NB181_175.out; have hnb141 := NB175_182.out; have hnc141 := NB182_175.out; have hcz142_0 := zc0 BK175; have hcz142_1 := zc1 BK175; have hfz142_0 := blk_frozen BK175.out 0; have hfz142_1 := blk_frozen BK175.out 1; have hnb143 := NB181_182.out; have hnc143 := NB182_181.out; have hcz144_0 := zc0 BK181; have hcz144_1 := zc1 BK181; have hfz144_0 := blk_frozen BK181.out 0; have hfz144_1 := blk_frozen BK181.out 1) | ((with_reducible refine gate_callee (f := 153) rfl ?_); refine zgL 43 Try.func153 (wide_U128_Sub.calls t173 t174 t178 t179 t188 t189 t190 _ A43.out) (h := ?_); rintro w145 hb; replace BK171 := zkb BK171 hb; replace BK172 := zkb BK172 hb; replace BK175 := zkb BK175 hb; replace BK181 := zkb BK181 hb; replace BK182 := zkb BK182 hb; replace HB := zkB HB hb; (try clear hb); have hcz146_0 := zc0 BK182; have hcz146_1 := zc1 BK182; have hfz146_0 := blk_frozen BK182.out 0; have hfz146_1 := blk_frozen BK182.out 1; have hcz147_0 := zc0 BK171; have hcz147_1 := zc1 BK171; have hcz147_2 := zc2 BK171; have hcz147_3 := zc3 BK171; have hcz147_4 := zc4 BK171; have hfz147_0 := blk_frozen BK171.out 0; have hfz147_1 := blk_frozen BK171.out 1; have hfz147_2 := blk_frozen BK171.out 2; have hfz147_3 := blk_frozen BK171.out 3; have hfz147_4 := blk_frozen BK171.out 4) | ((with_reducible refine gate_callee (f := 99) rfl ?_); refine zgL 67 Try.func99 (round_Round.calls k a0_2 t188 t189 (wrap64 (a0_4 - 70)) false a2 t197 t198 _ A115.out) (h := ?_); rintro w148 hb; replace BK171 := Aside0.mk (blk_below (zkf (zkf BK171.out NB171_182.out _) NB171_182.out _) hb); replace BK172 := Aside0.mk (blk_below (zkf (zkf BK172.out NB172_182.out _) NB172_182.out _) hb); replace BK175 := Aside0.mk (blk_below (zkf (zkf BK175.out NB175_182.out _) NB175_182.out _) hb); replace BK181 := Aside0.mk (blk_below (zkf (zkf BK181.out NB181_182.out _) NB181_182.out _) hb); replace BK182 := Aside0.mk (blk_below (o := .cells #[.int .u64 t188, .int .u64 t189] 109 (0, 0)) (blk_put (cs := #[.int .u64 t188, .int .u64 0]) (blk_put BK182.out 0 _ rfl) 1 _ rfl) hb); replace HB := Aside0.mk (below_step (below_set (below_set HB.out GE182.out) GE182.out) hb); (try clear hb)))
    go_ret2
    exact ⟨zaE, zaB⟩
end Go.Proofs.Ytmadjhmecfbcmaa.F
end
section
namespace Go.Proofs.Ytmadjhmecfbcmaa.F
open Go.RowKit Go.Proofs.YtmadjhmecfbcmaaW.PrintWords Go.Proofs.YtmadjhmecfbcmaaW.PrintLast Go.Proofs.YtmadjhmecfbcmaaW.PrintMore
attribute [local go_sem] max2_int min2_int max_two min_two max_three min_three max_four min_four
set_option linter.unusedVariables false
set_option linter.unusedSimpArgs false
set_option maxHeartbeats 8000000 in
set_option maxRecDepth 100000 in
theorem soft_Add.calls (k : Nat) (a0 : Int) (a1 : Int) (a2 : Int) (r1 : Int) (r2 : Int) (w : World) (h : soft_Add.f k a0 a1 a2 = some (r1, r2)) :
  Calls Try.prog 21 #[.int .u64 a0, .int .u64 a1, .int .u8 a2] w fun e w' => e = .returned (.tuple #[.int .u64 r1, .int .u8 r2]) ∧ Below w.heap.size w w' := by
 have hu88 := Try.underlying88
 have HB := Aside0.mk (Below.refl w.heap.size w)
 have H : ((soft_of.f k a0).bind fun bt199 => ((soft_of.f k a1).bind fun bt204 => ((soft_either.f bt199.1 bt199.2.1 bt199.2.2.1 bt199.2.2.2.1 bt199.2.2.2.2 bt204.1 bt204.2.1 bt204.2.2.1 bt204.2.2.2.1 bt204.2.2.2.2 4).bind fun t211 => (if t211 = true then ((pattern_Quiet.f).bind fun t212 => (some (t212, 0))) else (if bt199.2.1 = 3 then (if bt204.2.1 = 3 then (soft_Add.j0 k a0 a1 a2 (bt199.2.2.1 != bt204.2.2.1) bt199.1 bt199.2.1 bt199.2.2.1 bt199.2.2.2.1 bt199.2.2.2.2 bt204.1 bt204.2.1 bt204.2.2.1 bt204.2.2.2.1 bt204.2.2.2.2) else (soft_Add.j0 k a0 a1 a2 false bt199.1 bt199.2.1 bt199.2.2.1 bt199.2.2.2.1 bt199.2.2.2.2 bt204.1 bt204.2.1 bt204.2.2.1 bt204.2.2.2.1 bt204.2.2.2.2)) else (soft_Add.j0 k a0 a1 a2 false bt199.1 bt199.2.1 bt199.2.2.1 bt199.2.2.2.1 bt199.2.2.2.2 bt204.1 bt204.2.1 bt204.2.2.1 bt204.2.2.2.1 bt204.2.2.2.2)))))) = some (r1, r2) := h
 clear h
 obtain ⟨⟨t199, t200, t201, t202, t203⟩, A4, H⟩ := zbs H
 try dsimp only at H
 obtain ⟨⟨t204, t205, t206, t207, t208⟩, A5, H⟩ := zbs H
 try dsimp only at H
 obtain ⟨t211, A6, H⟩ := zbs H
 try dsimp only at H
 by_cases c7 : t211 = true
 ·subst c7
  have H1 : ((pattern_Quiet.f).bind fun t212 => (some (t212, 0))) = some (r1, r2) := by rw [if_pos rfl] at H; exact H
  clear H
  have H := H1
  clear H1
  obtain ⟨t212, A8, H⟩ := zbs H
  try dsimp only at H
  simp only [Option.some.injEq, Prod.mk.injEq] at H
  obtain ⟨rfl, rfl⟩ := H
  go_enter Try.func21, Try.ntmps21
  go_wp2_with (first | ((with_reducible refine gate_callee (f := 82) rfl ?_); refine zgL 11 Try.func82 (soft_of.calls k a0 t199 t200 t201 t202 t203 _ A4.out) (h := ?_); rintro w9 hb; replace HB := Aside0.mk (below_step zaB hb); (try clear hb)) | ((with_reducible refine gate_callee (f := 82) rfl ?_); refine zgL 13 Try.func82 (soft_of.calls k a1 t204 t205 t206 t207 t208 _ A5.out) (h := ?_); rintro w10 hb; replace HB := Aside0.mk (below_step zaB hb); (try clear hb)) | ((with_reducible refine gate_dst (N := 8) rfl ?_); refine zbx 8 #[.int .u64 0, .int .u8 0, .bool false, .int .u64 0, .int .i64 0] 88 (h := ?_); intro gb209 hg w11 hbox hb; have GW209 := zkZ hg (zaB (p := Below w.heap.size w _)); have GE209 := GW209; replace HB := Aside0.mk (below_step zaB hb); have BK209 := Aside0.mk (hbox); clear hb hbox hg) | ((with_reducible refine gate_dst (N := 9) rfl ?_); refine zbx 9 #[.int .u64 0, .int .u8 0, .bool false, .int .u64 0, .int .i64 0] 88 (h := ?_); intro gb210 hg w12 hbox hb; have GW210 := zkz HB hg; have GE210 := GW210; have NB209_210 := zkl BK209 hg; have NB210_209 := zkr BK209 hg; replace BK209 := zkb BK209 hb; replace HB := zkB HB hb; have BK210 := Aside0.mk (hbox); clear hb hbox hg; have hnb13 := NB209_210.out; have hnc13 := NB210_209.out; have hcz14_0 := zc0 BK209; have hcz14_1 := zc1 BK209; have hcz14_2 := zc2 BK209; have hcz14_3 := zc3 BK209; have hcz14_4 := zc4 BK209; have hfz14_0 := blk_frozen BK209.out 0; have hfz14_1 := blk_frozen BK209.out 1; have hfz14_2 := blk_frozen BK209.out 2; have hfz14_3 := blk_frozen BK209.out 3; have hfz14_4 := blk_frozen BK209.out 4; have hcz15_0 := zc0 BK210; have hcz15_1 := zc1 BK210; have hcz15_2 := zc2 BK210; have hcz15_3 := zc3 BK210; have hcz15_4 := zc4 BK210; have hfz15_0 := blk_frozen BK210.out 0; have hfz15_1 := blk_frozen BK210.out 1; have hfz15_2 := blk_frozen BK210.out 2; have hfz15_3 := blk_frozen BK210.out 3; have hfz15_4 := blk_frozen BK210.out 4) | ((with_reducible refine gate_callee (f := 83) rfl ?_); refine zgL 17 Try.func83 (soft_either.calls t199 t200 t201 t202 t203 t204 t205 t206 t207 t208 4 true _ A6.out) (h := ?_); rintro w16 hb; replace BK209 := Aside0.mk (blk_below (o := .cells #[.int .u64 t199, .int .u8 t200, .bool t201, .int .u64 t202, .int .i64 t203] 88 (0, 0)) (zkf (zkf (zkf (zkf (zkf (blk_put (cs := #[.int .u64 t199, .int .u8 t200, .bool t201, .int .u64 t202, .int .i64 0]) (blk_put (cs := #[.int .u64 t199, .int .u8 t200, .bool t201, .int .u64 0, .int .i64 0]) (blk_put (cs := #[.int .u64 t199, .int .u8 t200, .bool false, .int .u64 0, .int .i64 0]) (blk_put (cs := #[.int .u64 t199, .int .u8 0, .bool false, .int .u64 0, .int .i64 0]) (blk_put BK209.out 0 _ rfl) 1 _ rfl) 2 _ rfl) 3 _ rfl) 4 _ rfl) NB209_210.out _) NB209_210.out _) NB209_210.out _) NB209_210.out _) NB209_210.out _) hb); replace BK210 := Aside0.mk (blk_below (o := .cells #[.int .u64 t204, .int .u8 t205, .bool t206, .int .u64 t207, .int .i64 t208] 88 (0, 0)) (blk_put (cs := #[.int .u64 t204, .int .u8 t205, .bool t206, .int .u64 t207, .int .i64 0]) (blk_put (cs := #[.int .u64 t204, .int .u8 t205, .bool t206, .int .u64 0, .int .i64 0]) (blk_put (cs := #[.int .u64 t204, .int .u8 t205, .bool false, .int .u64 0, .int .i64 0]) (blk_put (cs := #[.int .u64 t204, .int .u8 0, .bool false, .int .u64 0, .int .i64 0]) (blk_put (zkf (zkf (zkf (zkf (zkf BK210.out NB210_209.out _) NB210_209.out _) NB210_209.out _) NB210_209.out _) NB210_209.out _) 0 _ rfl) 1 _ rfl) 2 _ rfl) 3 _ rfl) 4 _ rfl) hb); replace HB := Aside0.mk (below_step (below_set (below_set (below_set (below_set (below_set (below_set (below_set (below_set (below_set (below_set HB.out GE209.out) GE209.out) GE209.out) GE209.out) GE209.out) GE210.out) GE210.out) GE210.out) GE210.out) GE210.out) hb); (try clear hb)) | ((with_reducible refine gate_callee (f := 81) rfl ?_); refine zgL 18 Try.func81 (pattern_Quiet.calls  t212 _ A8.out) (h := ?_); rintro w' ⟨nd, rfl⟩))
  go_ret2
  exact ⟨zaE, zaB⟩
 ·replace c7 := Bool.eq_false_iff.mpr c7
  subst c7
  have H1 : (if t200 = 3 then (if t205 = 3 then (soft_Add.j0 k a0 a1 a2 (t201 != t206) t199 t200 t201 t202 t203 t204 t205 t206 t207 t208) else (soft_Add.j0 k a0 a1 a2 false t199 t200 t201 t202 t203 t204 t205 t206 t207 t208)) else (soft_Add.j0 k a0 a1 a2 false t199 t200 t201 t202 t203 t204 t205 t206 t207 t208)) = some (r1, r2) := by rw [if_neg (show ¬ (false = true) by decide)] at H; exact H
  clear H
  have H := H1
  clear H1
  have HC17 := Aside0.mk H
  clear H
  go_enter Try.func21, Try.ntmps21
  go_upto_region 4 with (first | ((with_reducible refine gate_callee (f := 82) rfl ?_); refine zgL 11 Try.func82 (soft_of.calls k a0 t199 t200 t201 t202 t203 _ A4.out) (h := ?_); rintro w18 hb; replace HB := Aside0.mk (below_step zaB hb); (try clear hb)) | ((with_reducible refine gate_callee (f := 82) rfl ?_); refine zgL 13 Try.func82 (soft_of.calls k a1 t204 t205 t206 t207 t208 _ A5.out) (h := ?_); rintro w19 hb; replace HB := Aside0.mk (below_step zaB hb); (try clear hb)) | ((with_reducible refine gate_dst (N := 8) rfl ?_); refine zbx 8 #[.int .u64 0, .int .u8 0, .bool false, .int .u64 0, .int .i64 0] 88 (h := ?_); intro gb209 hg w20 hbox hb; have GW209 := zkZ hg (zaB (p := Below w.heap.size w _)); have GE209 := GW209; replace HB := Aside0.mk (below_step zaB hb); have BK209 := Aside0.mk (hbox); clear hb hbox hg) | ((with_reducible refine gate_dst (N := 9) rfl ?_); refine zbx 9 #[.int .u64 0, .int .u8 0, .bool false, .int .u64 0, .int .i64 0] 88 (h := ?_); intro gb210 hg w21 hbox hb; have GW210 := zkz HB hg; have GE210 := GW210; have NB209_210 := zkl BK209 hg; have NB210_209 := zkr BK209 hg; replace BK209 := zkb BK209 hb; replace HB := zkB HB hb; have BK210 := Aside0.mk (hbox); clear hb hbox hg; have hnb22 := NB209_210.out; have hnc22 := NB210_209.out; have hcz23_0 := zc0 BK209; have hcz23_1 := zc1 BK209; have hcz23_2 := zc2 BK209; have hcz23_3 := zc3 BK209; have hcz23_4 := zc4 BK209; have hfz23_0 := blk_frozen BK209.out 0; have hfz23_1 := blk_frozen BK209.out 1; have hfz23_2 := blk_frozen BK209.out 2; have hfz23_3 := blk_frozen BK209.out 3; have hfz23_4 := blk_frozen BK209.out 4; have hcz24_0 := zc0 BK210; have hcz24_1 := zc1 BK210; have hcz24_2 := zc2 BK210; have hcz24_3 := zc3 BK210; have hcz24_4 := zc4 BK210; have hfz24_0 := blk_frozen BK210.out 0; have hfz24_1 := blk_frozen BK210.out 1; have hfz24_2 := blk_frozen BK210.out 2; have hfz24_3 := blk_frozen BK210.out 3; have hfz24_4 := blk_frozen BK210.out 4) | ((with_reducible refine gate_callee (f := 83) rfl ?_); refine zgL 17 Try.func83 (soft_either.calls t199 t200 t201 t202 t203 t204 t205 t206 t207 t208 4 false _ A6.out) (h := ?_); rintro w25 hb; replace BK209 := Aside0.mk (blk_below (o := .cells #[.int .u64 t199, .int .u8 t200, .bool t201, .int .u64 t202, .int .i64 t203] 88 (0, 0)) (zkf (zkf (zkf (zkf (zkf (blk_put (cs := #[.int .u64 t199, .int .u8 t200, .bool t201, .int .u64 t202, .int .i64 0]) (blk_put (cs := #[.int .u64 t199, .int .u8 t200, .bool t201, .int .u64 0, .int .i64 0]) (blk_put (cs := #[.int .u64 t199, .int .u8 t200, .bool false, .int .u64 0, .int .i64 0]) (blk_put (cs := #[.int .u64 t199, .int .u8 0, .bool false, .int .u64 0, .int .i64 0]) (blk_put BK209.out 0 _ rfl) 1 _ rfl) 2 _ rfl) 3 _ rfl) 4 _ rfl) NB209_210.out _) NB209_210.out _) NB209_210.out _) NB209_210.out _) NB209_210.out _) hb); replace BK210 := Aside0.mk (blk_below (o := .cells #[.int .u64 t204, .int .u8 t205, .bool t206, .int .u64 t207, .int .i64 t208] 88 (0, 0)) (blk_put (cs := #[.int .u64 t204, .int .u8 t205, .bool t206, .int .u64 t207, .int .i64 0]) (blk_put (cs := #[.int .u64 t204, .int .u8 t205, .bool t206, .int .u64 0, .int .i64 0]) (blk_put (cs := #[.int .u64 t204, .int .u8 t205, .bool false, .int .u64 0, .int .i64 0]) (blk_put (cs := #[.int .u64 t204, .int .u8 0, .bool false, .int .u64 0, .int .i64 0]) (blk_put (zkf (zkf (zkf (zkf (zkf BK210.out NB210_209.out _) NB210_209.out _) NB210_209.out _) NB210_209.out _) NB210_209.out _) 0 _ rfl) 1 _ rfl) 2 _ rfl) 3 _ rfl) 4 _ rfl) hb); replace HB := Aside0.mk (below_step (below_set (below_set (below_set (below_set (below_set (below_set (below_set (below_set (below_set (below_set HB.out GE209.out) GE209.out) GE209.out) GE209.out) GE209.out) GE210.out) GE210.out) GE210.out) GE210.out) GE210.out) hb); (try clear hb)))
  (try simp only [Act.put, List.setIfInBounds_toArray, List.set_cons_zero, List.set_cons_succ])
  go_cut [19] (fun v19 wc => ∃ (kq : Nat) (x19_16 : Bool), v19 = .bool x19_16 ∧ Aside0 (soft_Add.j0 kq a0 a1 a2 x19_16 t199 t200 t201 t202 t203 t204 t205 t206 t207 t208 = some (r1, r2)) ∧ Aside0 (kq ≤ k) ∧ Aside0 (wc.heap[gb209]? = some (.cells #[.int .u64 t199, .int .u8 t200, .bool t201, .int .u64 t202, .int .i64 t203] 88 (0, 0))) ∧ Aside0 (wc.heap[gb210]? = some (.cells #[.int .u64 t204, .int .u8 t205, .bool t206, .int .u64 t207, .int .i64 t208] 88 (0, 0))) ∧ Aside0 (Below w.heap.size w wc))
  case first =>
   have H := HC17.out
   clear HC17
   by_cases c26 : t200 = 3
   ·rw [if_pos c26] at H
    have c26b0 : (t200 == 3) = true := beq_iff_eq.mpr c26
    have c26b1 : (t200 != 3) = false := bne_eq_false_iff_eq.mpr c26
    clear c26
    (first | rw [c26b0] | (simp only [i64_w, i32_w]; rw [c26b0]) | skip)
    by_cases c27 : t205 = 3
    ·rw [if_pos c27] at H
     have c27b0 : (t205 == 3) = true := beq_iff_eq.mpr c27
     have c27b1 : (t205 != 3) = false := bne_eq_false_iff_eq.mpr c27
     clear c27
     have H' := Aside0.mk H
     clear H
     have hnb28 := NB209_210.out
     have hnc28 := NB210_209.out
     have hcz29_0 := zc0 BK209
     have hcz29_1 := zc1 BK209
     have hcz29_2 := zc2 BK209
     have hcz29_3 := zc3 BK209
     have hcz29_4 := zc4 BK209
     have hfz29_0 := blk_frozen BK209.out 0
     have hfz29_1 := blk_frozen BK209.out 1
     have hfz29_2 := blk_frozen BK209.out 2
     have hfz29_3 := blk_frozen BK209.out 3
     have hfz29_4 := blk_frozen BK209.out 4
     have hcz30_0 := zc0 BK210
     have hcz30_1 := zc1 BK210
     have hcz30_2 := zc2 BK210
     have hcz30_3 := zc3 BK210
     have hcz30_4 := zc4 BK210
     have hfz30_0 := blk_frozen BK210.out 0
     have hfz30_1 := blk_frozen BK210.out 1
     have hfz30_2 := blk_frozen BK210.out 2
     have hfz30_3 := blk_frozen BK210.out 3
     have hfz30_4 := blk_frozen BK210.out 4
     go_wp2
     go_meet
     case rel => exact ⟨_, ((t201 != t206)), (by first | rfl | (simp; done) | (simp [*]; done)), H', ⟨by first | omega | exact Nat.le_refl _⟩, ⟨(zkq BK209)⟩, ⟨(zkq BK210)⟩, ⟨zaB⟩⟩
    ·rw [if_neg c27] at H
     have c27b0 : (t205 == 3) = false := beq_eq_false_iff_ne.mpr c27
     have c27b1 : (t205 != 3) = true := bne_iff_ne.mpr c27
     have H' := Aside0.mk H
     clear H
     have hnb31 := NB209_210.out
     have hnc31 := NB210_209.out
     have hcz32_0 := zc0 BK209
     have hcz32_1 := zc1 BK209
     have hcz32_2 := zc2 BK209
     have hcz32_3 := zc3 BK209
     have hcz32_4 := zc4 BK209
     have hfz32_0 := blk_frozen BK209.out 0
     have hfz32_1 := blk_frozen BK209.out 1
     have hfz32_2 := blk_frozen BK209.out 2
     have hfz32_3 := blk_frozen BK209.out 3
     have hfz32_4 := blk_frozen BK209.out 4
     have hcz33_0 := zc0 BK210
     have hcz33_1 := zc1 BK210
     have hcz33_2 := zc2 BK210
     have hcz33_3 := zc3 BK210
     have hcz33_4 := zc4 BK210
     have hfz33_0 := blk_frozen BK210.out 0
     have hfz33_1 := blk_frozen BK210.out 1
     have hfz33_2 := blk_frozen BK210.out 2
     have hfz33_3 := blk_frozen BK210.out 3
     have hfz33_4 := blk_frozen BK210.out 4
     go_wp2
     go_meet
     case rel => exact ⟨_, (false), (by first | rfl | (simp; done) | (simp [*]; done)), H', ⟨by first | omega | exact Nat.le_refl _⟩, ⟨(zkq BK209)⟩, ⟨(zkq BK210)⟩, ⟨zaB⟩⟩
   ·rw [if_neg c26] at H
    have c26b0 : (t200 == 3) = false := beq_eq_false_iff_ne.mpr c26
    have c26b1 : (t200 != 3) = true := bne_iff_ne.mpr c26
    (first | rw [c26b0] | (simp only [i64_w, i32_w]; rw [c26b0]) | skip)
    have H' := Aside0.mk H
    clear H
    have hnb34 := NB209_210.out
    have hnc34 := NB210_209.out
    have hcz35_0 := zc0 BK209
    have hcz35_1 := zc1 BK209
    have hcz35_2 := zc2 BK209
    have hcz35_3 := zc3 BK209
    have hcz35_4 := zc4 BK209
    have hfz35_0 := blk_frozen BK209.out 0
    have hfz35_1 := blk_frozen BK209.out 1
    have hfz35_2 := blk_frozen BK209.out 2
    have hfz35_3 := blk_frozen BK209.out 3
    have hfz35_4 := blk_frozen BK209.out 4
    go_wp2
    go_meet
    case rel => exact ⟨_, (false), (by first | rfl | (simp; done) | (simp [*]; done)), H', ⟨by first | omega | exact Nat.le_refl _⟩, ⟨(zkq BK209)⟩, ⟨(zkq BK210)⟩, ⟨zaB⟩⟩
  case rest =>
   clear HC17
   try clear c1
   try clear c2
   try clear p2
   try clear c3
   try clear c7
   try clear c8
   try clear c13
   try clear c21
   try clear c22
   try clear c26
   try clear c26b0
   try clear c26b1
   try clear c27
   try clear c27b0
   try clear c27b1
   try clear c28
   try clear c31
   try clear c34
   try clear hcz14_0
   try clear hcz14_1
   try clear hcz14_2
   try clear hcz14_3
   try clear hcz14_4
   try clear hcz15_0
   try clear hcz15_1
   try clear hcz15_2
   try clear hcz15_3
   try clear hcz15_4
   try clear hcz23_0
   try clear hcz23_1
   try clear hcz23_2
   try clear hcz23_3
   try clear hcz23_4
   try clear hcz24_0
   try clear hcz24_1
   try clear hcz24_2
   try clear hcz24_3
   try clear hcz24_4
   try clear hcz29_0
   try clear hcz29_1
   try clear hcz29_2
   try clear hcz29_3
   try clear hcz29_4
   try clear hcz30_0
   try clear hcz30_1
   try clear hcz30_2
   try clear hcz30_3
   try clear hcz30_4
   try clear hcz32_0
   try clear hcz32_1
   try clear hcz32_2
   try clear hcz32_3
   try clear hcz32_4
   try clear hcz33_0
   try clear hcz33_1
   try clear hcz33_2
   try clear hcz33_3
   try clear hcz33_4
   try clear hcz35_0
   try clear hcz35_1
   try clear hcz35_2
   try clear hcz35_3
   try clear hcz35_4
   try clear hfz14_0
   try clear hfz14_1
   try clear hfz14_2
   try clear hfz14_3
   try clear hfz14_4
   try clear hfz15_0
   try clear hfz15_1
   try clear hfz15_2
   try clear hfz15_3
   try clear hfz15_4
   try clear hfz23_0
   try clear hfz23_1
   try clear hfz23_2
   try clear hfz23_3
   try clear hfz23_4
   try clear hfz24_0
   try clear hfz24_1
   try clear hfz24_2
   try clear hfz24_3
   try clear hfz24_4
   try clear hfz29_0
   try clear hfz29_1
   try clear hfz29_2
   try clear hfz29_3
   try clear hfz29_4
   try clear hfz30_0
   try clear hfz30_1
   try clear hfz30_2
   try clear hfz30_3
   try clear hfz30_4
   try clear hfz32_0
   try clear hfz32_1
   try clear hfz32_2
   try clear hfz32_3
   try clear hfz32_4
   try clear hfz33_0
   try clear hfz33_1
   try clear hfz33_2
   try clear hfz33_3
   try clear hfz33_4
   try clear hfz35_0
   try clear hfz35_1
   try clear hfz35_2
   try clear hfz35_3
   try clear hfz35_4
   obtain ⟨kq, x19_16, rfl, HA, HJ16, BK209, BK210, HB⟩ := hcut
   cases kq with
   | zero => exact absurd HA.out (by simp [soft_Add.j0])
   | succ kj16 =>
    have H := HA.out
    clear HA
    simp only [soft_Add.j0] at H
    by_cases c36 : x19_16 = true
    ·subst c36
     have H1 : ((soft_invalid.f).bind fun bt213 => (some (bt213.1, bt213.2))) = some (r1, r2) := by rw [if_pos rfl] at H; exact H
     clear H
     have H := H1
     clear H1
     obtain ⟨⟨t213, t214⟩, A37, H⟩ := zbs H
     try dsimp only at H
     simp only [Option.some.injEq, Prod.mk.injEq] at H
     obtain ⟨rfl, rfl⟩ := H
     go_wp2_with (first | ((with_reducible refine gate_callee (f := 84) rfl ?_); refine zgL 35 Try.func84 (soft_invalid.calls  t213 t214 _ A37.out) (h := ?_); rintro w' ⟨nd, rfl⟩))
     go_ret2
     exact ⟨zaE, zaB⟩
    ·replace c36 := Bool.eq_false_iff.mpr c36
     subst c36
     have H1 : (if t200 = 3 then (some (a0, 0)) else (if t205 = 3 then (some (a1, 0)) else (if t202 = 0 then (if t207 = 0 then (soft_Add.j1 kj16 a0 a1 a2 (t201 == t206) t199 t200 t201 t202 t203 t204 t205 t206 t207 t208) else (soft_Add.j1 kj16 a0 a1 a2 false t199 t200 t201 t202 t203 t204 t205 t206 t207 t208)) else (soft_Add.j1 kj16 a0 a1 a2 false t199 t200 t201 t202 t203 t204 t205 t206 t207 t208)))) = some (r1, r2) := by rw [if_neg (show ¬ (false = true) by decide)] at H; exact H
     clear H
     have H := H1
     clear H1
     by_cases c38 : t200 = 3
     ·rw [if_pos c38] at H
      have c38b0 : (t200 == 3) = true := beq_iff_eq.mpr c38
      have c38b1 : (t200 != 3) = false := bne_eq_false_iff_eq.mpr c38
      clear c38
      simp only [Option.some.injEq, Prod.mk.injEq] at H
      obtain ⟨rfl, rfl⟩ := H
      have hnb39 := NB209_210.out
      have hnc39 := NB210_209.out
      have hcz40_0 := zc0 BK209
      have hcz40_1 := zc1 BK209
      have hcz40_2 := zc2 BK209
      have hcz40_3 := zc3 BK209
      have hcz40_4 := zc4 BK209
      have hfz40_0 := blk_frozen BK209.out 0
      have hfz40_1 := blk_frozen BK209.out 1
      have hfz40_2 := blk_frozen BK209.out 2
      have hfz40_3 := blk_frozen BK209.out 3
      have hfz40_4 := blk_frozen BK209.out 4
      go_wp2
      go_ret2
      exact ⟨zaE, zaB⟩
     ·rw [if_neg c38] at H
      have c38b0 : (t200 == 3) = false := beq_eq_false_iff_ne.mpr c38
      have c38b1 : (t200 != 3) = true := bne_iff_ne.mpr c38
      by_cases c41 : t205 = 3
      ·rw [if_pos c41] at H
       have c41b0 : (t205 == 3) = true := beq_iff_eq.mpr c41
       have c41b1 : (t205 != 3) = false := bne_eq_false_iff_eq.mpr c41
       clear c41
       simp only [Option.some.injEq, Prod.mk.injEq] at H
       obtain ⟨rfl, rfl⟩ := H
       have hnb42 := NB209_210.out
       have hnc42 := NB210_209.out
       have hcz43_0 := zc0 BK209
       have hcz43_1 := zc1 BK209
       have hcz43_2 := zc2 BK209
       have hcz43_3 := zc3 BK209
       have hcz43_4 := zc4 BK209
       have hfz43_0 := blk_frozen BK209.out 0
       have hfz43_1 := blk_frozen BK209.out 1
       have hfz43_2 := blk_frozen BK209.out 2
       have hfz43_3 := blk_frozen BK209.out 3
       have hfz43_4 := blk_frozen BK209.out 4
       have hcz44_0 := zc0 BK210
       have hcz44_1 := zc1 BK210
       have hcz44_2 := zc2 BK210
       have hcz44_3 := zc3 BK210
       have hcz44_4 := zc4 BK210
       have hfz44_0 := blk_frozen BK210.out 0
       have hfz44_1 := blk_frozen BK210.out 1
       have hfz44_2 := blk_frozen BK210.out 2
       have hfz44_3 := blk_frozen BK210.out 3
       have hfz44_4 := blk_frozen BK210.out 4
       go_wp2
       go_ret2
       exact ⟨zaE, zaB⟩
      ·rw [if_neg c41] at H
       have c41b0 : (t205 == 3) = false := beq_eq_false_iff_ne.mpr c41
       have c41b1 : (t205 != 3) = true := bne_iff_ne.mpr c41
       have HC45 := Aside0.mk H
       clear H
       have hnb46 := NB209_210.out
       have hnc46 := NB210_209.out
       have hcz47_0 := zc0 BK209
       have hcz47_1 := zc1 BK209
       have hcz47_2 := zc2 BK209
       have hcz47_3 := zc3 BK209
       have hcz47_4 := zc4 BK209
       have hfz47_0 := blk_frozen BK209.out 0
       have hfz47_1 := blk_frozen BK209.out 1
       have hfz47_2 := blk_frozen BK209.out 2
       have hfz47_3 := blk_frozen BK209.out 3
       have hfz47_4 := blk_frozen BK209.out 4
       have hcz48_0 := zc0 BK210
       have hcz48_1 := zc1 BK210
       have hcz48_2 := zc2 BK210
       have hcz48_3 := zc3 BK210
       have hcz48_4 := zc4 BK210
       have hfz48_0 := blk_frozen BK210.out 0
       have hfz48_1 := blk_frozen BK210.out 1
       have hfz48_2 := blk_frozen BK210.out 2
       have hfz48_3 := blk_frozen BK210.out 3
       have hfz48_4 := blk_frozen BK210.out 4
       go_upto_region 10 with (fail)
       go_cut [48] (fun v48 wc => ∃ (kq : Nat) (x48_44 : Bool), v48 = .bool x48_44 ∧ Aside0 (soft_Add.j1 kq a0 a1 a2 x48_44 t199 t200 t201 t202 t203 t204 t205 t206 t207 t208 = some (r1, r2)) ∧ Aside0 (kq ≤ kj16) ∧ Aside0 (wc.heap[gb209]? = some (.cells #[.int .u64 t199, .int .u8 t200, .bool t201, .int .u64 t202, .int .i64 t203] 88 (0, 0))) ∧ Aside0 (wc.heap[gb210]? = some (.cells #[.int .u64 t204, .int .u8 t205, .bool t206, .int .u64 t207, .int .i64 t208] 88 (0, 0))) ∧ Aside0 (Below w.heap.size w wc))
       case first =>
        have H := HC45.out
        clear HC45
        by_cases c49 : t202 = 0
        ·rw [if_pos c49] at H
         have c49b0 : (t202 == 0) = true := beq_iff_eq.mpr c49
         have c49b1 : (t202 != 0) = false := bne_eq_false_iff_eq.mpr c49
         clear c49
         (first | rw [c49b0] | (simp only [i64_w, i32_w]; rw [c49b0]) | skip)
         by_cases c50 : t207 = 0
         ·rw [if_pos c50] at H
          have c50b0 : (t207 == 0) = true := beq_iff_eq.mpr c50
          have c50b1 : (t207 != 0) = false := bne_eq_false_iff_eq.mpr c50
          clear c50
          have H' := Aside0.mk H
          clear H
          have hnb51 := NB209_210.out
          have hnc51 := NB210_209.out
          have hcz52_0 := zc0 BK209
          have hcz52_1 := zc1 BK209
          have hcz52_2 := zc2 BK209
          have hcz52_3 := zc3 BK209
          have hcz52_4 := zc4 BK209
          have hfz52_0 := blk_frozen BK209.out 0
          have hfz52_1 := blk_frozen BK209.out 1
          have hfz52_2 := blk_frozen BK209.out 2
          have hfz52_3 := blk_frozen BK209.out 3
          have hfz52_4 := blk_frozen BK209.out 4
          have hcz53_0 := zc0 BK210
          have hcz53_1 := zc1 BK210
          have hcz53_2 := zc2 BK210
          have hcz53_3 := zc3 BK210
          have hcz53_4 := zc4 BK210
          have hfz53_0 := blk_frozen BK210.out 0
          have hfz53_1 := blk_frozen BK210.out 1
          have hfz53_2 := blk_frozen BK210.out 2
          have hfz53_3 := blk_frozen BK210.out 3
          have hfz53_4 := blk_frozen BK210.out 4
          go_wp2
          go_meet
          case rel => exact ⟨_, ((t201 == t206)), (by first | rfl | (simp; done) | (simp [*]; done)), H', ⟨by have := HJ16.out; first | omega | exact Nat.le_refl _⟩, ⟨(zkq BK209)⟩, ⟨(zkq BK210)⟩, ⟨zaB⟩⟩
         ·rw [if_neg c50] at H
          have c50b0 : (t207 == 0) = false := beq_eq_false_iff_ne.mpr c50
          have c50b1 : (t207 != 0) = true := bne_iff_ne.mpr c50
          have H' := Aside0.mk H
          clear H
          have hnb54 := NB209_210.out
          have hnc54 := NB210_209.out
          have hcz55_0 := zc0 BK209
          have hcz55_1 := zc1 BK209
          have hcz55_2 := zc2 BK209
          have hcz55_3 := zc3 BK209
          have hcz55_4 := zc4 BK209
          have hfz55_0 := blk_frozen BK209.out 0
          have hfz55_1 := blk_frozen BK209.out 1
          have hfz55_2 := blk_frozen BK209.out 2
          have hfz55_3 := blk_frozen BK209.out 3
          have hfz55_4 := blk_frozen BK209.out 4
          have hcz56_0 := zc0 BK210
          have hcz56_1 := zc1 BK210
          have hcz56_2 := zc2 BK210
          have hcz56_3 := zc3 BK210
          have hcz56_4 := zc4 BK210
          have hfz56_0 := blk_frozen BK210.out 0
          have hfz56_1 := blk_frozen BK210.out 1
          have hfz56_2 := blk_frozen BK210.out 2
          have hfz56_3 := blk_frozen BK210.out 3
          have hfz56_4 := blk_frozen BK210.out 4
          go_wp2
          go_meet
          case rel => exact ⟨_, (false), (by first | rfl | (simp; done) | (simp [*]; done)), H', ⟨by have := HJ16.out; first | omega | exact Nat.le_refl _⟩, ⟨(zkq BK209)⟩, ⟨(zkq BK210)⟩, ⟨zaB⟩⟩
        ·rw [if_neg c49] at H
         have c49b0 : (t202 == 0) = false := beq_eq_false_iff_ne.mpr c49
         have c49b1 : (t202 != 0) = true := bne_iff_ne.mpr c49
         (first | rw [c49b0] | (simp only [i64_w, i32_w]; rw [c49b0]) | skip)
         have H' := Aside0.mk H
         clear H
         have hnb57 := NB209_210.out
         have hnc57 := NB210_209.out
         have hcz58_0 := zc0 BK209
         have hcz58_1 := zc1 BK209
         have hcz58_2 := zc2 BK209
         have hcz58_3 := zc3 BK209
         have hcz58_4 := zc4 BK209
         have hfz58_0 := blk_frozen BK209.out 0
         have hfz58_1 := blk_frozen BK209.out 1
         have hfz58_2 := blk_frozen BK209.out 2
         have hfz58_3 := blk_frozen BK209.out 3
         have hfz58_4 := blk_frozen BK209.out 4
         go_wp2
         go_meet
         case rel => exact ⟨_, (false), (by first | rfl | (simp; done) | (simp [*]; done)), H', ⟨by have := HJ16.out; first | omega | exact Nat.le_refl _⟩, ⟨(zkq BK209)⟩, ⟨(zkq BK210)⟩, ⟨zaB⟩⟩
       case rest =>
        clear HC45
        try clear c1
        try clear c2
        try clear p2
        try clear c3
        try clear c4
        try clear c5
        try clear c7
        try clear c8
        try clear c13
        try clear c21
        try clear c22
        try clear c26
        try clear c26b0
        try clear c26b1
        try clear c27
        try clear c27b0
        try clear c27b1
        try clear c28
        try clear c31
        try clear c34
        try clear c36
        try clear c38
        try clear c38b0
        try clear c38b1
        try clear c39
        try clear c41
        try clear c41b0
        try clear c41b1
        try clear c42
        try clear c46
        try clear c49
        try clear c49b0
        try clear c49b1
        try clear c50
        try clear c50b0
        try clear c50b1
        try clear c51
        try clear c54
        try clear c57
        try clear hcz14_0
        try clear hcz14_1
        try clear hcz14_2
        try clear hcz14_3
        try clear hcz14_4
        try clear hcz15_0
        try clear hcz15_1
        try clear hcz15_2
        try clear hcz15_3
        try clear hcz15_4
        try clear hcz23_0
        try clear hcz23_1
        try clear hcz23_2
        try clear hcz23_3
        try clear hcz23_4
        try clear hcz24_0
        try clear hcz24_1
        try clear hcz24_2
        try clear hcz24_3
        try clear hcz24_4
        try clear hcz29_0
        try clear hcz29_1
        try clear hcz29_2
        try clear hcz29_3
        try clear hcz29_4
        try clear hcz30_0
        try clear hcz30_1
        try clear hcz30_2
        try clear hcz30_3
        try clear hcz30_4
        try clear hcz32_0
        try clear hcz32_1
        try clear hcz32_2
        try clear hcz32_3
        try clear hcz32_4
        try clear hcz33_0
        try clear hcz33_1
        try clear hcz33_2
        try clear hcz33_3
        try clear hcz33_4
        try clear hcz35_0
        try clear hcz35_1
        try clear hcz35_2
        try clear hcz35_3
        try clear hcz35_4
        try clear hcz40_0
        try clear hcz40_1
        try clear hcz40_2
        try clear hcz40_3
        try clear hcz40_4
        try clear hcz43_0
        try clear hcz43_1
        try clear hcz43_2
        try clear hcz43_3
        try clear hcz43_4
        try clear hcz44_0
        try clear hcz44_1
        try clear hcz44_2
        try clear hcz44_3
        try clear hcz44_4
        try clear hcz47_0
        try clear hcz47_1
        try clear hcz47_2
        try clear hcz47_3
        try clear hcz47_4
        try clear hcz48_0
        try clear hcz48_1
        try clear hcz48_2
        try clear hcz48_3
        try clear hcz48_4
        try clear hcz52_0
        try clear hcz52_1
        try clear hcz52_2
        try clear hcz52_3
        try clear hcz52_4
        try clear hcz53_0
        try clear hcz53_1
        try clear hcz53_2
        try clear hcz53_3
        try clear hcz53_4
        try clear hcz55_0
        try clear hcz55_1
        try clear hcz55_2
        try clear hcz55_3
        try clear hcz55_4
        try clear hcz56_0
        try clear hcz56_1
        try clear hcz56_2
        try clear hcz56_3
        try clear hcz56_4
        try clear hcz58_0
        try clear hcz58_1
        try clear hcz58_2
        try clear hcz58_3
        try clear hcz58_4
        try clear hfz14_0
        try clear hfz14_1
        try clear hfz14_2
        try clear hfz14_3
        try clear hfz14_4
        try clear hfz15_0
        try clear hfz15_1
        try clear hfz15_2
        try clear hfz15_3
        try clear hfz15_4
        try clear hfz23_0
        try clear hfz23_1
        try clear hfz23_2
        try clear hfz23_3
        try clear hfz23_4
        try clear hfz24_0
        try clear hfz24_1
        try clear hfz24_2
        try clear hfz24_3
        try clear hfz24_4
        try clear hfz29_0
        try clear hfz29_1
        try clear hfz29_2
        try clear hfz29_3
        try clear hfz29_4
        try clear hfz30_0
        try clear hfz30_1
        try clear hfz30_2
        try clear hfz30_3
        try clear hfz30_4
        try clear hfz32_0
        try clear hfz32_1
        try clear hfz32_2
        try clear hfz32_3
        try clear hfz32_4
        try clear hfz33_0
        try clear hfz33_1
        try clear hfz33_2
        try clear hfz33_3
        try clear hfz33_4
        try clear hfz35_0
        try clear hfz35_1
        try clear hfz35_2
        try clear hfz35_3
        try clear hfz35_4
        try clear hfz40_0
        try clear hfz40_1
        try clear hfz40_2
        try clear hfz40_3
        try clear hfz40_4
        try clear hfz43_0
        try clear hfz43_1
        try clear hfz43_2
        try clear hfz43_3
        try clear hfz43_4
        try clear hfz44_0
        try clear hfz44_1
        try clear hfz44_2
        try clear hfz44_3
        try clear hfz44_4
        try clear hfz47_0
        try clear hfz47_1
        try clear hfz47_2
        try clear hfz47_3
        try clear hfz47_4
        try clear hfz48_0
        try clear hfz48_1
        try clear hfz48_2
        try clear hfz48_3
        try clear hfz48_4
        try clear hfz52_0
        try clear hfz52_1
        try clear hfz52_2
        try clear hfz52_3
        try clear hfz52_4
        try clear hfz53_0
        try clear hfz53_1
        try clear hfz53_2
        try clear hfz53_3
        try clear hfz53_4
        try clear hfz55_0
        try clear hfz55_1
        try clear hfz55_2
        try clear hfz55_3
        try clear hfz55_4
        try clear hfz56_0
        try clear hfz56_1
        try clear hfz56_2
        try clear hfz56_3
        try clear hfz56_4
        try clear hfz58_0
        try clear hfz58_1
        try clear hfz58_2
        try clear hfz58_3
        try clear hfz58_4
        try clear p2
        obtain ⟨kq, x48_44, rfl, HA, HJ44, BK209, BK210, HB⟩ := hcut
        cases kq with
        | zero => exact absurd HA.out (by simp [soft_Add.j1])
        | succ kj44 =>
         have H := HA.out
         clear HA
         simp only [soft_Add.j1] at H
         by_cases c59 : x48_44 = true
         ·subst c59
          have H1 : (some (a0, 0)) = some (r1, r2) := by rw [if_pos rfl] at H; exact H
          clear H
          have H := H1
          clear H1
          simp only [Option.some.injEq, Prod.mk.injEq] at H
          obtain ⟨rfl, rfl⟩ := H
          go_wp2
          go_ret2
          exact ⟨zaE, zaB⟩
         ·replace c59 := Bool.eq_false_iff.mpr c59
          subst c59
          have H1 : (if t202 = 0 then (soft_Add.j2 kj44 a0 a1 a2 (t207 == 0) t199 t200 t201 t202 t203 t204 t205 t206 t207 t208) else (soft_Add.j2 kj44 a0 a1 a2 false t199 t200 t201 t202 t203 t204 t205 t206 t207 t208)) = some (r1, r2) := by rw [if_neg (show ¬ (false = true) by decide)] at H; exact H
          clear H
          have H := H1
          clear H1
          have HC60 := Aside0.mk H
          clear H
          go_upto_region 12 with (fail)
          go_cut [65] (fun v65 wc => ∃ (kq : Nat) (x65_59 : Bool), v65 = .bool x65_59 ∧ Aside0 (soft_Add.j2 kq a0 a1 a2 x65_59 t199 t200 t201 t202 t203 t204 t205 t206 t207 t208 = some (r1, r2)) ∧ Aside0 (kq ≤ kj44) ∧ Aside0 (wc.heap[gb209]? = some (.cells #[.int .u64 t199, .int .u8 t200, .bool t201, .int .u64 t202, .int .i64 t203] 88 (0, 0))) ∧ Aside0 (wc.heap[gb210]? = some (.cells #[.int .u64 t204, .int .u8 t205, .bool t206, .int .u64 t207, .int .i64 t208] 88 (0, 0))) ∧ Aside0 (Below w.heap.size w wc))
          case first =>
           have H := HC60.out
           clear HC60
           by_cases c61 : t202 = 0
           ·rw [if_pos c61] at H
            have c61b0 : (t202 == 0) = true := beq_iff_eq.mpr c61
            have c61b1 : (t202 != 0) = false := bne_eq_false_iff_eq.mpr c61
            clear c61
            (first | rw [c61b0] | (simp only [i64_w, i32_w]; rw [c61b0]) | skip)
            have H' := Aside0.mk H
            clear H
            have hnb62 := NB209_210.out
            have hnc62 := NB210_209.out
            have hcz63_0 := zc0 BK209
            have hcz63_1 := zc1 BK209
            have hcz63_2 := zc2 BK209
            have hcz63_3 := zc3 BK209
            have hcz63_4 := zc4 BK209
            have hfz63_0 := blk_frozen BK209.out 0
            have hfz63_1 := blk_frozen BK209.out 1
            have hfz63_2 := blk_frozen BK209.out 2
            have hfz63_3 := blk_frozen BK209.out 3
            have hfz63_4 := blk_frozen BK209.out 4
            have hcz64_0 := zc0 BK210
            have hcz64_1 := zc1 BK210
            have hcz64_2 := zc2 BK210
            have hcz64_3 := zc3 BK210
            have hcz64_4 := zc4 BK210
            have hfz64_0 := blk_frozen BK210.out 0
            have hfz64_1 := blk_frozen BK210.out 1
            have hfz64_2 := blk_frozen BK210.out 2
            have hfz64_3 := blk_frozen BK210.out 3
            have hfz64_4 := blk_frozen BK210.out 4
            go_wp2
            go_meet
            case rel => exact ⟨_, ((t207 == 0)), (by first | rfl | (simp; done) | (simp [*]; done)), H', ⟨by have := HJ16.out; have := HJ44.out; first | omega | exact Nat.le_refl _⟩, ⟨(zkq BK209)⟩, ⟨(zkq BK210)⟩, ⟨zaB⟩⟩
           ·rw [if_neg c61] at H
            have c61b0 : (t202 == 0) = false := beq_eq_false_iff_ne.mpr c61
            have c61b1 : (t202 != 0) = true := bne_iff_ne.mpr c61
            (first | rw [c61b0] | (simp only [i64_w, i32_w]; rw [c61b0]) | skip)
            have H' := Aside0.mk H
            clear H
            have hnb65 := NB209_210.out
            have hnc65 := NB210_209.out
            have hcz66_0 := zc0 BK209
            have hcz66_1 := zc1 BK209
            have hcz66_2 := zc2 BK209
            have hcz66_3 := zc3 BK209
            have hcz66_4 := zc4 BK209
            have hfz66_0 := blk_frozen BK209.out 0
            have hfz66_1 := blk_frozen BK209.out 1
            have hfz66_2 := blk_frozen BK209.out 2
            have hfz66_3 := blk_frozen BK209.out 3
            have hfz66_4 := blk_frozen BK209.out 4
            go_wp2
            go_meet
            case rel => exact ⟨_, (false), (by first | rfl | (simp; done) | (simp [*]; done)), H', ⟨by have := HJ16.out; have := HJ44.out; first | omega | exact Nat.le_refl _⟩, ⟨(zkq BK209)⟩, ⟨(zkq BK210)⟩, ⟨zaB⟩⟩
          case rest =>
           clear HC60
           try clear c1
           try clear c2
           try clear p2
           try clear c3
           try clear c4
           try clear c5
           try clear c6
           try clear c7
           try clear c8
           try clear c13
           try clear c21
           try clear c22
           try clear c26
           try clear c26b0
           try clear c26b1
           try clear c27
           try clear c27b0
           try clear c27b1
           try clear c28
           try clear c31
           try clear c34
           try clear c36
           try clear c38
           try clear c38b0
           try clear c38b1
           try clear c39
           try clear c41
           try clear c41b0
           try clear c41b1
           try clear c42
           try clear c46
           try clear c49
           try clear c49b0
           try clear c49b1
           try clear c50
           try clear c50b0
           try clear c50b1
           try clear c51
           try clear c54
           try clear c57
           try clear c59
           try clear c61
           try clear c61b0
           try clear c61b1
           try clear c62
           try clear c65
           try clear hcz14_0
           try clear hcz14_1
           try clear hcz14_2
           try clear hcz14_3
           try clear hcz14_4
           try clear hcz15_0
           try clear hcz15_1
           try clear hcz15_2
           try clear hcz15_3
           try clear hcz15_4
           try clear hcz23_0
           try clear hcz23_1
           try clear hcz23_2
           try clear hcz23_3
           try clear hcz23_4
           try clear hcz24_0
           try clear hcz24_1
           try clear hcz24_2
           try clear hcz24_3
           try clear hcz24_4
           try clear hcz29_0
           try clear hcz29_1
           try clear hcz29_2
           try clear hcz29_3
           try clear hcz29_4
           try clear hcz30_0
           try clear hcz30_1
           try clear hcz30_2
           try clear hcz30_3
           try clear hcz30_4
           try clear hcz32_0
           try clear hcz32_1
           try clear hcz32_2
           try clear hcz32_3
           try clear hcz32_4
           try clear hcz33_0
           try clear hcz33_1
           try clear hcz33_2
           try clear hcz33_3
           try clear hcz33_4
           try clear hcz35_0
           try clear hcz35_1
           try clear hcz35_2
           try clear hcz35_3
           try clear hcz35_4
           try clear hcz40_0
           try clear hcz40_1
           try clear hcz40_2
           try clear hcz40_3
           try clear hcz40_4
           try clear hcz43_0
           try clear hcz43_1
           try clear hcz43_2
           try clear hcz43_3
           try clear hcz43_4
           try clear hcz44_0
           try clear hcz44_1
           try clear hcz44_2
           try clear hcz44_3
           try clear hcz44_4
           try clear hcz47_0
           try clear hcz47_1
           try clear hcz47_2
           try clear hcz47_3
           try clear hcz47_4
           try clear hcz48_0
           try clear hcz48_1
           try clear hcz48_2
           try clear hcz48_3
           try clear hcz48_4
           try clear hcz52_0
           try clear hcz52_1
           try clear hcz52_2
           try clear hcz52_3
           try clear hcz52_4
           try clear hcz53_0
           try clear hcz53_1
           try clear hcz53_2
           try clear hcz53_3
           try clear hcz53_4
           try clear hcz55_0
           try clear hcz55_1
           try clear hcz55_2
           try clear hcz55_3
           try clear hcz55_4
           try clear hcz56_0
           try clear hcz56_1
           try clear hcz56_2
           try clear hcz56_3
           try clear hcz56_4
           try clear hcz58_0
           try clear hcz58_1
           try clear hcz58_2
           try clear hcz58_3
           try clear hcz58_4
           try clear hcz63_0
           try clear hcz63_1
           try clear hcz63_2
           try clear hcz63_3
           try clear hcz63_4
           try clear hcz64_0
           try clear hcz64_1
           try clear hcz64_2
           try clear hcz64_3
           try clear hcz64_4
           try clear hcz66_0
           try clear hcz66_1
           try clear hcz66_2
           try clear hcz66_3
           try clear hcz66_4
           try clear hfz14_0
           try clear hfz14_1
           try clear hfz14_2
           try clear hfz14_3
           try clear hfz14_4
           try clear hfz15_0
           try clear hfz15_1
           try clear hfz15_2
           try clear hfz15_3
           try clear hfz15_4
           try clear hfz23_0
           try clear hfz23_1
           try clear hfz23_2
           try clear hfz23_3
           try clear hfz23_4
           try clear hfz24_0
           try clear hfz24_1
           try clear hfz24_2
           try clear hfz24_3
           try clear hfz24_4
           try clear hfz29_0
           try clear hfz29_1
           try clear hfz29_2
           try clear hfz29_3
           try clear hfz29_4
           try clear hfz30_0
           try clear hfz30_1
           try clear hfz30_2
           try clear hfz30_3
           try clear hfz30_4
           try clear hfz32_0
           try clear hfz32_1
           try clear hfz32_2
           try clear hfz32_3
           try clear hfz32_4
           try clear hfz33_0
           try clear hfz33_1
           try clear hfz33_2
           try clear hfz33_3
           try clear hfz33_4
           try clear hfz35_0
           try clear hfz35_1
           try clear hfz35_2
           try clear hfz35_3
           try clear hfz35_4
           try clear hfz40_0
           try clear hfz40_1
           try clear hfz40_2
           try clear hfz40_3
           try clear hfz40_4
           try clear hfz43_0
           try clear hfz43_1
           try clear hfz43_2
           try clear hfz43_3
           try clear hfz43_4
           try clear hfz44_0
           try clear hfz44_1
           try clear hfz44_2
           try clear hfz44_3
           try clear hfz44_4
           try clear hfz47_0
           try clear hfz47_1
           try clear hfz47_2
           try clear hfz47_3
           try clear hfz47_4
           try clear hfz48_0
           try clear hfz48_1
           try clear hfz48_2
           try clear hfz48_3
           try clear hfz48_4
           try clear hfz52_0
           try clear hfz52_1
           try clear hfz52_2
           try clear hfz52_3
           try clear hfz52_4
           try clear hfz53_0
           try clear hfz53_1
           try clear hfz53_2
           try clear hfz53_3
           try clear hfz53_4
           try clear hfz55_0
           try clear hfz55_1
           try clear hfz55_2
           try clear hfz55_3
           try clear hfz55_4
           try clear hfz56_0
           try clear hfz56_1
           try clear hfz56_2
           try clear hfz56_3
           try clear hfz56_4
           try clear hfz58_0
           try clear hfz58_1
           try clear hfz58_2
           try clear hfz58_3
           try clear hfz58_4
           try clear hfz63_0
           try clear hfz63_1
           try clear hfz63_2
           try clear hfz63_3
           try clear hfz63_4
           try clear hfz64_0
           try clear hfz64_1
           try clear hfz64_2
           try clear hfz64_3
           try clear hfz64_4
           try clear hfz66_0
           try clear hfz66_1
           try clear hfz66_2
           try clear hfz66_3
           try clear hfz66_4
           try clear p2
           obtain ⟨kq, x65_59, rfl, HA, HJ59, BK209, BK210, HB⟩ := hcut
           cases kq with
           | zero => exact absurd HA.out (by simp [soft_Add.j2])
           | succ kj59 =>
            have H := HA.out
            clear HA
            simp only [soft_Add.j2] at H
            by_cases c67 : x65_59 = true
            ·subst c67
             have H1 : ((soft_zero.f kj59 (a2 == 2)).bind fun t215 => (some (t215, 0))) = some (r1, r2) := by rw [if_pos rfl] at H; exact H
             clear H
             have H := H1
             clear H1
             obtain ⟨t215, A68, H⟩ := zbs H
             try dsimp only at H
             simp only [Option.some.injEq, Prod.mk.injEq] at H
             obtain ⟨rfl, rfl⟩ := H
             go_wp2_with (first | ((with_reducible refine gate_callee (f := 85) rfl ?_); refine zgL 76 Try.func85 (soft_zero.calls kj59 (a2 == 2) t215 _ A68.out) (h := ?_); rintro w' ⟨nd, rfl⟩))
             go_ret2
             exact ⟨zaE, zaB⟩
            ·replace c67 := Bool.eq_false_iff.mpr c67
             subst c67
             have H1 : (if t202 = 0 then (some (a1, 0)) else (if t207 = 0 then (some (a0, 0)) else (if t203 < t208 then ((soft_num_add.f kj59 t204 t205 t206 t207 t208 t199 t200 t201 t202 t203 a2).bind fun bt216 => (some (bt216.1, bt216.2))) else (if t203 = t208 then (if t202 < t207 then ((soft_num_add.f kj59 t204 t205 t206 t207 t208 t199 t200 t201 t202 t203 a2).bind fun bt218 => (some (bt218.1, bt218.2))) else ((soft_num_add.f kj59 t199 t200 t201 t202 t203 t204 t205 t206 t207 t208 a2).bind fun bt220 => (some (bt220.1, bt220.2)))) else ((soft_num_add.f kj59 t199 t200 t201 t202 t203 t204 t205 t206 t207 t208 a2).bind fun bt222 => (some (bt222.1, bt222.2))))))) = some (r1, r2) := by rw [if_neg (show ¬ (false = true) by decide)] at H; exact H
             clear H
             have H := H1
             clear H1
             by_cases c69 : t202 = 0
             ·rw [if_pos c69] at H
              have c69b0 : (t202 == 0) = true := beq_iff_eq.mpr c69
              have c69b1 : (t202 != 0) = false := bne_eq_false_iff_eq.mpr c69
              clear c69
              simp only [Option.some.injEq, Prod.mk.injEq] at H
              obtain ⟨rfl, rfl⟩ := H
              have hnb70 := NB209_210.out
              have hnc70 := NB210_209.out
              have hcz71_0 := zc0 BK209
              have hcz71_1 := zc1 BK209
              have hcz71_2 := zc2 BK209
              have hcz71_3 := zc3 BK209
              have hcz71_4 := zc4 BK209
              have hfz71_0 := blk_frozen BK209.out 0
              have hfz71_1 := blk_frozen BK209.out 1
              have hfz71_2 := blk_frozen BK209.out 2
              have hfz71_3 := blk_frozen BK209.out 3
              have hfz71_4 := blk_frozen BK209.out 4
              go_wp2
              go_ret2
              exact ⟨zaE, zaB⟩
             ·rw [if_neg c69] at H
              have c69b0 : (t202 == 0) = false := beq_eq_false_iff_ne.mpr c69
              have c69b1 : (t202 != 0) = true := bne_iff_ne.mpr c69
              by_cases c72 : t207 = 0
              ·rw [if_pos c72] at H
               have c72b0 : (t207 == 0) = true := beq_iff_eq.mpr c72
               have c72b1 : (t207 != 0) = false := bne_eq_false_iff_eq.mpr c72
               clear c72
               simp only [Option.some.injEq, Prod.mk.injEq] at H
               obtain ⟨rfl, rfl⟩ := H
               have hnb73 := NB209_210.out
               have hnc73 := NB210_209.out
               have hcz74_0 := zc0 BK209
               have hcz74_1 := zc1 BK209
               have hcz74_2 := zc2 BK209
               have hcz74_3 := zc3 BK209
               have hcz74_4 := zc4 BK209
               have hfz74_0 := blk_frozen BK209.out 0
               have hfz74_1 := blk_frozen BK209.out 1
               have hfz74_2 := blk_frozen BK209.out 2
               have hfz74_3 := blk_frozen BK209.out 3
               have hfz74_4 := blk_frozen BK209.out 4
               have hcz75_0 := zc0 BK210
               have hcz75_1 := zc1 BK210
               have hcz75_2 := zc2 BK210
               have hcz75_3 := zc3 BK210
               have hcz75_4 := zc4 BK210
               have hfz75_0 := blk_frozen BK210.out 0
               have hfz75_1 := blk_frozen BK210.out 1
               have hfz75_2 := blk_frozen BK210.out 2
               have hfz75_3 := blk_frozen BK210.out 3
               have hfz75_4 := blk_frozen BK210.out 4
               go_wp2
               go_ret2
               exact ⟨zaE, zaB⟩
              ·rw [if_neg c72] at H
               have c72b0 : (t207 == 0) = false := beq_eq_false_iff_ne.mpr c72
               have c72b1 : (t207 != 0) = true := bne_iff_ne.mpr c72
               by_cases c76 : t203 < t208
               ·rw [if_pos c76] at H
                have c76b0 : decide (t203 < t208) = true := decide_eq_true c76
                clear c76
                obtain ⟨⟨t216, t217⟩, A77, H⟩ := zbs H
                try dsimp only at H
                simp only [Option.some.injEq, Prod.mk.injEq] at H
                obtain ⟨rfl, rfl⟩ := H
                have hnb78 := NB209_210.out
                have hnc78 := NB210_209.out
                have hcz79_0 := zc0 BK209
                have hcz79_1 := zc1 BK209
                have hcz79_2 := zc2 BK209
                have hcz79_3 := zc3 BK209
                have hcz79_4 := zc4 BK209
                have hfz79_0 := blk_frozen BK209.out 0
                have hfz79_1 := blk_frozen BK209.out 1
                have hfz79_2 := blk_frozen BK209.out 2
                have hfz79_3 := blk_frozen BK209.out 3
                have hfz79_4 := blk_frozen BK209.out 4
                have hcz80_0 := zc0 BK210
                have hcz80_1 := zc1 BK210
                have hcz80_2 := zc2 BK210
                have hcz80_3 := zc3 BK210
                have hcz80_4 := zc4 BK210
                have hfz80_0 := blk_frozen BK210.out 0
                have hfz80_1 := blk_frozen BK210.out 1
                have hfz80_2 := blk_frozen BK210.out 2
                have hfz80_3 := blk_frozen BK210.out 3
                have hfz80_4 := blk_frozen BK210.out 4
                go_wp2_with (first | ((with_reducible refine gate_callee (f := 86) rfl ?_); refine zgL 111 Try.func86 (soft_num_add.calls kj59 t204 t205 t206 t207 t208 t199 t200 t201 t202 t203 a2 t216 t217 _ A77.out) (h := ?_); rintro w81 hb; replace BK209 := Aside0.mk (blk_below (o := .cells #[.int .u64 t204, .int .u8 t205, .bool t206, .int .u64 t207, .int .i64 t208] 88 (0, 0)) (zkf (zkf (zkf (zkf (zkf (blk_put (cs := #[.int .u64 t204, .int .u8 t205, .bool t206, .int .u64 t207, .int .i64 t203]) (blk_put (cs := #[.int .u64 t204, .int .u8 t205, .bool t206, .int .u64 t202, .int .i64 t203]) (blk_put (cs := #[.int .u64 t204, .int .u8 t205, .bool t201, .int .u64 t202, .int .i64 t203]) (blk_put (cs := #[.int .u64 t204, .int .u8 t200, .bool t201, .int .u64 t202, .int .i64 t203]) (blk_put BK209.out 0 _ rfl) 1 _ rfl) 2 _ rfl) 3 _ rfl) 4 _ rfl) NB209_210.out _) NB209_210.out _) NB209_210.out _) NB209_210.out _) NB209_210.out _) hb); replace BK210 := Aside0.mk (blk_below (o := .cells #[.int .u64 t199, .int .u8 t200, .bool t201, .int .u64 t202, .int .i64 t203] 88 (0, 0)) (blk_put (cs := #[.int .u64 t199, .int .u8 t200, .bool t201, .int .u64 t202, .int .i64 t208]) (blk_put (cs := #[.int .u64 t199, .int .u8 t200, .bool t201, .int .u64 t207, .int .i64 t208]) (blk_put (cs := #[.int .u64 t199, .int .u8 t200, .bool t206, .int .u64 t207, .int .i64 t208]) (blk_put (cs := #[.int .u64 t199, .int .u8 t205, .bool t206, .int .u64 t207, .int .i64 t208]) (blk_put (zkf (zkf (zkf (zkf (zkf BK210.out NB210_209.out _) NB210_209.out _) NB210_209.out _) NB210_209.out _) NB210_209.out _) 0 _ rfl) 1 _ rfl) 2 _ rfl) 3 _ rfl) 4 _ rfl) hb); replace HB := Aside0.mk (below_step (below_set (below_set (below_set (below_set (below_set (below_set (below_set (below_set (below_set (below_set HB.out GE209.out) GE209.out) GE209.out) GE209.out) GE209.out) GE210.out) GE210.out) GE210.out) GE210.out) GE210.out) hb); (try clear hb)))
                go_ret2
                exact ⟨zaE, zaB⟩
               ·rw [if_neg c76] at H
                have c76b0 : decide (t203 < t208) = false := decide_eq_false c76
                clear c76
                by_cases c82 : t203 = t208
                ·rw [if_pos c82] at H
                 have c82b0 : (t203 == t208) = true := beq_iff_eq.mpr c82
                 have c82b1 : (t203 != t208) = false := bne_eq_false_iff_eq.mpr c82
                 clear c82
                 by_cases c83 : t202 < t207
                 ·rw [if_pos c83] at H
                  have c83b0 : decide (t202 < t207) = true := decide_eq_true c83
                  clear c83
                  obtain ⟨⟨t218, t219⟩, A84, H⟩ := zbs H
                  try dsimp only at H
                  simp only [Option.some.injEq, Prod.mk.injEq] at H
                  obtain ⟨rfl, rfl⟩ := H
                  have hnb85 := NB209_210.out
                  have hnc85 := NB210_209.out
                  have hcz86_0 := zc0 BK209
                  have hcz86_1 := zc1 BK209
                  have hcz86_2 := zc2 BK209
                  have hcz86_3 := zc3 BK209
                  have hcz86_4 := zc4 BK209
                  have hfz86_0 := blk_frozen BK209.out 0
                  have hfz86_1 := blk_frozen BK209.out 1
                  have hfz86_2 := blk_frozen BK209.out 2
                  have hfz86_3 := blk_frozen BK209.out 3
                  have hfz86_4 := blk_frozen BK209.out 4
                  have hcz87_0 := zc0 BK210
                  have hcz87_1 := zc1 BK210
                  have hcz87_2 := zc2 BK210
                  have hcz87_3 := zc3 BK210
                  have hcz87_4 := zc4 BK210
                  have hfz87_0 := blk_frozen BK210.out 0
                  have hfz87_1 := blk_frozen BK210.out 1
                  have hfz87_2 := blk_frozen BK210.out 2
                  have hfz87_3 := blk_frozen BK210.out 3
                  have hfz87_4 := blk_frozen BK210.out 4
                  go_wp2_with (first | ((with_reducible refine gate_callee (f := 86) rfl ?_); refine zgL 111 Try.func86 (soft_num_add.calls kj59 t204 t205 t206 t207 t208 t199 t200 t201 t202 t203 a2 t218 t219 _ A84.out) (h := ?_); rintro w88 hb; replace BK209 := Aside0.mk (blk_below (o := .cells #[.int .u64 t204, .int .u8 t205, .bool t206, .int .u64 t207, .int .i64 t208] 88 (0, 0)) (zkf (zkf (zkf (zkf (zkf (blk_put (cs := #[.int .u64 t204, .int .u8 t205, .bool t206, .int .u64 t207, .int .i64 t203]) (blk_put (cs := #[.int .u64 t204, .int .u8 t205, .bool t206, .int .u64 t202, .int .i64 t203]) (blk_put (cs := #[.int .u64 t204, .int .u8 t205, .bool t201, .int .u64 t202, .int .i64 t203]) (blk_put (cs := #[.int .u64 t204, .int .u8 t200, .bool t201, .int .u64 t202, .int .i64 t203]) (blk_put BK209.out 0 _ rfl) 1 _ rfl) 2 _ rfl) 3 _ rfl) 4 _ rfl) NB209_210.out _) NB209_210.out _) NB209_210.out _) NB209_210.out _) NB209_210.out _) hb); replace BK210 := Aside0.mk (blk_below (o := .cells #[.int .u64 t199, .int .u8 t200, .bool t201, .int .u64 t202, .int .i64 t203] 88 (0, 0)) (blk_put (cs := #[.int .u64 t199, .int .u8 t200, .bool t201, .int .u64 t202, .int .i64 t208]) (blk_put (cs := #[.int .u64 t199, .int .u8 t200, .bool t201, .int .u64 t207, .int .i64 t208]) (blk_put (cs := #[.int .u64 t199, .int .u8 t200, .bool t206, .int .u64 t207, .int .i64 t208]) (blk_put (cs := #[.int .u64 t199, .int .u8 t205, .bool t206, .int .u64 t207, .int .i64 t208]) (blk_put (zkf (zkf (zkf (zkf (zkf BK210.out NB210_209.out _) NB210_209.out _) NB210_209.out _) NB210_209.out _) NB210_209.out _) 0 _ rfl) 1 _ rfl) 2 _ rfl) 3 _ rfl) 4 _ rfl) hb); replace HB := Aside0.mk (below_step (below_set (below_set (below_set (below_set (below_set (below_set (below_set (below_set (below_set (below_set HB.out GE209.out) GE209.out) GE209.out) GE209.out) GE209.out) GE210.out) GE210.out) GE210.out) GE210.out) GE210.out) hb); (try clear hb)))
                  go_ret2
                  exact ⟨zaE, zaB⟩
                 ·rw [if_neg c83] at H
                  have c83b0 : decide (t202 < t207) = false := decide_eq_false c83
                  clear c83
                  obtain ⟨⟨t220, t221⟩, A89, H⟩ := zbs H
                  try dsimp only at H
                  simp only [Option.some.injEq, Prod.mk.injEq] at H
                  obtain ⟨rfl, rfl⟩ := H
                  have hnb90 := NB209_210.out
                  have hnc90 := NB210_209.out
                  have hcz91_0 := zc0 BK209
                  have hcz91_1 := zc1 BK209
                  have hcz91_2 := zc2 BK209
                  have hcz91_3 := zc3 BK209
                  have hcz91_4 := zc4 BK209
                  have hfz91_0 := blk_frozen BK209.out 0
                  have hfz91_1 := blk_frozen BK209.out 1
                  have hfz91_2 := blk_frozen BK209.out 2
                  have hfz91_3 := blk_frozen BK209.out 3
                  have hfz91_4 := blk_frozen BK209.out 4
                  have hcz92_0 := zc0 BK210
                  have hcz92_1 := zc1 BK210
                  have hcz92_2 := zc2 BK210
                  have hcz92_3 := zc3 BK210
                  have hcz92_4 := zc4 BK210
                  have hfz92_0 := blk_frozen BK210.out 0
                  have hfz92_1 := blk_frozen BK210.out 1
                  have hfz92_2 := blk_frozen BK210.out 2
                  have hfz92_3 := blk_frozen BK210.out 3
                  have hfz92_4 := blk_frozen BK210.out 4
                  go_wp2_with (first | ((with_reducible refine gate_callee (f := 86) rfl ?_); refine zgL 111 Try.func86 (soft_num_add.calls kj59 t199 t200 t201 t202 t203 t204 t205 t206 t207 t208 a2 t220 t221 _ A89.out) (h := ?_); rintro w93 hb; replace BK209 := zkb BK209 hb; replace BK210 := zkb BK210 hb; replace HB := zkB HB hb; (try clear hb)))
                  go_ret2
                  exact ⟨zaE, zaB⟩
                ·rw [if_neg c82] at H
                 have c82b0 : (t203 == t208) = false := beq_eq_false_iff_ne.mpr c82
                 have c82b1 : (t203 != t208) = true := bne_iff_ne.mpr c82
                 obtain ⟨⟨t222, t223⟩, A94, H⟩ := zbs H
                 try dsimp only at H
                 simp only [Option.some.injEq, Prod.mk.injEq] at H
                 obtain ⟨rfl, rfl⟩ := H
                 have hnb95 := NB209_210.out
                 have hnc95 := NB210_209.out
                 have hcz96_0 := zc0 BK209
                 have hcz96_1 := zc1 BK209
                 have hcz96_2 := zc2 BK209
                 have hcz96_3 := zc3 BK209
                 have hcz96_4 := zc4 BK209
                 have hfz96_0 := blk_frozen BK209.out 0
                 have hfz96_1 := blk_frozen BK209.out 1
                 have hfz96_2 := blk_frozen BK209.out 2
                 have hfz96_3 := blk_frozen BK209.out 3
                 have hfz96_4 := blk_frozen BK209.out 4
                 have hcz97_0 := zc0 BK210
                 have hcz97_1 := zc1 BK210
                 have hcz97_2 := zc2 BK210
                 have hcz97_3 := zc3 BK210
                 have hcz97_4 := zc4 BK210
                 have hfz97_0 := blk_frozen BK210.out 0
                 have hfz97_1 := blk_frozen BK210.out 1
                 have hfz97_2 := blk_frozen BK210.out 2
                 have hfz97_3 := blk_frozen BK210.out 3
                 have hfz97_4 := blk_frozen BK210.out 4
                 go_wp2_with (first | ((with_reducible refine gate_callee (f := 86) rfl ?_); refine zgL 111 Try.func86 (soft_num_add.calls kj59 t199 t200 t201 t202 t203 t204 t205 t206 t207 t208 a2 t222 t223 _ A94.out) (h := ?_); rintro w98 hb; replace BK209 := zkb BK209 hb; replace BK210 := zkb BK210 hb; replace HB := zkB HB hb; (try clear hb)))
                 go_ret2
                 exact ⟨zaE, zaB⟩
end Go.Proofs.Ytmadjhmecfbcmaa.F
end
section
namespace Go.Proofs.Ytmadjhmecfbcmaa.F
open Go.RowKit Go.Proofs.YtmadjhmecfbcmaaW.PrintWords Go.Proofs.YtmadjhmecfbcmaaW.PrintLast Go.Proofs.YtmadjhmecfbcmaaW.PrintMore
attribute [local go_sem] max2_int min2_int max_two min_two max_three min_three max_four min_four
set_option linter.unusedVariables false
set_option linter.unusedSimpArgs false
set_option maxHeartbeats 8000000 in
set_option maxRecDepth 100000 in
theorem soft_Sum.calls (k : Nat) (a0 : Int) (A1 : Option Addr) (c1 : Nat) (l1 : List Int) (r : Int) (w : World) (hr1 : Kd.C (Kd.int .u64) w A1 l1.length l1) (hc1 : l1.length ≤ c1) (h : soft_Sum.f k a0 l1 = some r) :
  Calls Try.prog 31 #[.int .u8 a0, .slice A1 l1.length c1] w fun e w' => e = .returned (.int .u64 r) ∧ Below w.heap.size w w' := by
 have HR1 := Aside0.mk hr1
 have HC1 := Aside0.mk hc1
 clear hr1 hc1
 have HB := Aside0.mk (Below.refl w.heap.size w)
 have H : (soft_Sum.l0 k a0 0 l1 (l1.length : Int) 0) = some r := h
 clear h
 have H' := Aside0.mk H
 clear H
 go_enter Try.func31, Try.ntmps31
 go_wp2
 (try simp only [Act.put, List.setIfInBounds_toArray, List.set_cons_zero, List.set_cons_succ])
 go_loopg [5, 10] k (fun kq v5 v10 w' => ∃ (x5_1 : Int) (x10_1 : Int), v5 = .int .u64 x5_1 ∧ v10 = .int .i64 x10_1 ∧ Aside0 (soft_Sum.l0 kq a0 x5_1 l1 (l1.length : Int) x10_1 = some r) ∧ Aside0 (kq ≤ k) ∧ Aside0 (Below w.heap.size w w'))
 case atStart => exact ⟨(0), (0), (by first | rfl | (simp; done) | (simp [*]; done)), (by first | rfl | (simp; done) | (simp [*]; done)), H', ⟨Nat.le_refl _⟩, ⟨zaB⟩⟩
 case round =>
  clear H'
  try clear c1
  try clear p2
  obtain ⟨x5_1, x10_1, rfl, rfl, HA, HK1, HB⟩ := hrel
  cases gk with
  | zero => exact absurd HA.out (by simp [soft_Sum.l0])
  | succ k1 =>
   have H := HA.out
   clear HA
   simp only [soft_Sum.l0] at H
   by_cases c3 : x10_1 < (l1.length : Int)
   ·rw [if_pos c3] at H
    have c3b0 : decide (x10_1 < (l1.length : Int)) = true := decide_eq_true c3
    clear c3
    by_cases c4 : 0 ≤ x10_1
    ·rw [if_pos c4] at H
     have c4b0 : decide (0 ≤ x10_1) = true := decide_eq_true c4
     clear c4
     by_cases c5 : x10_1 < (l1.length : Int)
     ·rw [if_pos c5] at H
      have c5b0 : decide (x10_1 < (l1.length : Int)) = true := decide_eq_true c5
      clear c5
      obtain ⟨⟨t327, t328⟩, A6, H⟩ := zbs H
      try dsimp only at H
      have H' := Aside0.mk H
      clear H
      have p326 : 0 ≤ (x10_1 : Int) := of_decide_eq_true (by first | (with_reducible assumption) | assumption)
      have q326 : x10_1 < (l1.length : Int) := of_decide_eq_true (by first | (with_reducible assumption) | assumption)
      obtain ⟨ad326, e326, hx326_0⟩ := Kd.at_int HR1.out x10_1 p326 q326
      cases e326
      replace hx326_0 := (HB.out.cell (World.block_lt_of_cell? w _ hx326_0)).trans hx326_0
      replace p326 := eq_true p326
      replace q326 := eq_true q326
      go_wp2_with (first | ((with_reducible refine gate_callee (f := 21) rfl ?_); refine zgL 18 Try.func21 (soft_Add.calls k1 x5_1 (rd l1 x10_1) a0 t327 t328 _ A6.out) (h := ?_); rintro w7 hb; replace HB := Aside0.mk (below_step zaB hb); (try clear hb)))
      go_roundg k1
      case measure => have := HK1.out; omega
      case rel => exact ⟨(t327), (wrap64 (x10_1 + 1)), (by first | rfl | (simp; done) | (simp [*]; done)), (by first | rfl | (simp; done) | (simp [*]; done)), H', ⟨by have := HK1.out; omega⟩, ⟨zaB⟩⟩
     ·rw [if_neg c5] at H
      exact absurd H (by simp)
    ·rw [if_neg c4] at H
     exact absurd H (by simp)
   ·rw [if_neg c3] at H
    have c3b0 : decide (x10_1 < (l1.length : Int)) = false := decide_eq_false c3
    clear c3
    obtain rfl := Option.some.inj H
    go_wp2
    go_ret
    exact ⟨zaE, zaB⟩
end Go.Proofs.Ytmadjhmecfbcmaa.F
end
section
namespace Go.Proofs.Ytmadjhmecfbcmaa.F
open Go.RowKit Go.Proofs.YtmadjhmecfbcmaaW.PrintWords Go.Proofs.YtmadjhmecfbcmaaW.PrintLast Go.Proofs.YtmadjhmecfbcmaaW.PrintMore
attribute [local go_sem] max2_int min2_int max_two min_two max_three min_three max_four min_four
set_option linter.unusedVariables false
set_option linter.unusedSimpArgs false
set_option maxHeartbeats 8000000 in
set_option maxRecDepth 100000 in
theorem pattern_nan.calls (k : Nat) (a0 : Int) (r : Bool) (w : World) (h : pattern_nan.f k a0 = some r) :
  Calls Try.prog 109 #[.int .u64 a0] w fun e w' => e = .returned (.bool r) ∧ Drawn0 w w' := by
 have H : ((pattern_Class.f k a0).bind fun t224 => (some (t224 == 4))) = some r := h
 clear h
 obtain ⟨t224, A2, H⟩ := zbs H
 try dsimp only at H
 obtain rfl := Option.some.inj H
 go_enter Try.func109, Try.ntmps109
 go_wp2_with (first | ((with_reducible refine gate_callee (f := 24) rfl ?_); refine zgL 4 Try.func24 (pattern_Class.calls k a0 t224 _ A2.out) (h := ?_); rintro w' ⟨nd, rfl⟩))
 go_ret
 exact ⟨by first | rfl | (simp; done) | (simp [*]; done), by repeat (first | exact Drawn0.refl _ | apply Drawn0.step)⟩
end Go.Proofs.Ytmadjhmecfbcmaa.F
end
section
namespace Go.Proofs.Ytmadjhmecfbcmaa.F
open Go.RowKit Go.Proofs.YtmadjhmecfbcmaaW.PrintWords Go.Proofs.YtmadjhmecfbcmaaW.PrintLast Go.Proofs.YtmadjhmecfbcmaaW.PrintMore
attribute [local go_sem] max2_int min2_int max_two min_two max_three min_three max_four min_four
set_option linter.unusedVariables false
set_option linter.unusedSimpArgs false
set_option maxHeartbeats 8000000 in
set_option maxRecDepth 100000 in
theorem pattern_Neg.calls (k : Nat) (a0 : Int) (r : Int) (w : World) (h : pattern_Neg.f k a0 = some r) :
  Calls Try.prog 32 #[.int .u64 a0] w fun e w' => e = .returned (.int .u64 r) ∧ Drawn0 w w' := by
 have H : ((pattern_nan.f k a0).bind fun t225 => (if t225 = true then (some a0) else (some (Go.bits .xor .u64 a0 9223372036854775808)))) = some r := h
 clear h
 obtain ⟨t225, A2, H⟩ := zbs H
 try dsimp only at H
 by_cases c3 : t225 = true
 ·subst c3
  have H1 : (some a0) = some r := by rw [if_pos rfl] at H; exact H
  clear H
  have H := H1
  clear H1
  obtain rfl := Option.some.inj H
  go_enter Try.func32, Try.ntmps32
  go_wp2_with (first | ((with_reducible refine gate_callee (f := 109) rfl ?_); refine zgL 4 Try.func109 (pattern_nan.calls k a0 true _ A2.out) (h := ?_); rintro w' ⟨nd, rfl⟩))
  go_ret
  exact ⟨by first | rfl | (simp; done) | (simp [*]; done), by repeat (first | exact Drawn0.refl _ | apply Drawn0.step)⟩
 ·replace c3 := Bool.eq_false_iff.mpr c3
  subst c3
  have H1 : (some (Go.bits .xor .u64 a0 9223372036854775808)) = some r := by rw [if_neg (show ¬ (false = true) by decide)] at H; exact H
  clear H
  have H := H1
  clear H1
  obtain rfl := Option.some.inj H
  go_enter Try.func32, Try.ntmps32
  go_wp2_with (first | ((with_reducible refine gate_callee (f := 109) rfl ?_); refine zgL 4 Try.func109 (pattern_nan.calls k a0 false _ A2.out) (h := ?_); rintro w' ⟨nd, rfl⟩))
  go_ret
  exact ⟨by first | rfl | (simp; done) | (simp [*]; done), by repeat (first | exact Drawn0.refl _ | apply Drawn0.step)⟩
end Go.Proofs.Ytmadjhmecfbcmaa.F
end
section
namespace Go.Proofs.Ytmadjhmecfbcmaa.F
open Go.RowKit Go.Proofs.YtmadjhmecfbcmaaW.PrintWords Go.Proofs.YtmadjhmecfbcmaaW.PrintLast Go.Proofs.YtmadjhmecfbcmaaW.PrintMore
attribute [local go_sem] max2_int min2_int max_two min_two max_three min_three max_four min_four
set_option linter.unusedVariables false
set_option linter.unusedSimpArgs false
set_option maxHeartbeats 8000000 in
set_option maxRecDepth 100000 in
theorem soft_Sub.calls (k : Nat) (a0 : Int) (a1 : Int) (a2 : Int) (r1 : Int) (r2 : Int) (w : World) (h : soft_Sub.f k a0 a1 a2 = some (r1, r2)) :
  Calls Try.prog 23 #[.int .u64 a0, .int .u64 a1, .int .u8 a2] w fun e w' => e = .returned (.tuple #[.int .u64 r1, .int .u8 r2]) ∧ Below w.heap.size w w' := by
 have HB := Aside0.mk (Below.refl w.heap.size w)
 have H : ((pattern_Neg.f k a1).bind fun t226 => ((soft_Add.f k a0 t226 a2).bind fun bt227 => (some (bt227.1, bt227.2)))) = some (r1, r2) := h
 clear h
 obtain ⟨t226, A4, H⟩ := zbs H
 try dsimp only at H
 obtain ⟨⟨t227, t228⟩, A5, H⟩ := zbs H
 try dsimp only at H
 simp only [Option.some.injEq, Prod.mk.injEq] at H
 obtain ⟨rfl, rfl⟩ := H
 go_enter Try.func23, Try.ntmps23
 go_wp2_with (first | ((with_reducible refine gate_callee (f := 32) rfl ?_); refine zgL 10 Try.func32 (pattern_Neg.calls k a1 t226 _ A4.out) (h := ?_); rintro w' ⟨nd, rfl⟩) | ((with_reducible refine gate_callee (f := 21) rfl ?_); refine zgL 12 Try.func21 (soft_Add.calls k a0 t226 a2 t227 t228 _ A5.out) (h := ?_); rintro w6 hb; replace HB := Aside0.mk (below_step zaB hb); (try clear hb)))
 go_ret2
 exact ⟨zaE, zaB⟩
end Go.Proofs.Ytmadjhmecfbcmaa.F
end
section
namespace Go.Proofs.Ytmadjhmecfbcmaa.F
open Go.RowKit Go.Proofs.YtmadjhmecfbcmaaW.PrintWords Go.Proofs.YtmadjhmecfbcmaaW.PrintLast Go.Proofs.YtmadjhmecfbcmaaW.PrintMore
attribute [local go_sem] max2_int min2_int max_two min_two max_three min_three max_four min_four
set_option linter.unusedVariables false
set_option linter.unusedSimpArgs false
theorem bits_Mul64.calls (a0 : Int) (a1 : Int) (r1 : Int) (r2 : Int) (w : World) (h : bits_Mul64.f a0 a1 = some (r1, r2)) :
  Calls Try.prog 160 #[.int .u64 a0, .int .u64 a1] w fun e w' => e = .returned (.tuple #[.int .u64 r1, .int .u64 r2]) ∧ Drawn0 w w' := by
 unfold bits_Mul64.f at h
 split at h
 ·rename_i g
  obtain ⟨x, rfl⟩ := Int.eq_ofNat_of_zero_le g.1
  obtain ⟨y, rfl⟩ := Int.eq_ofNat_of_zero_le g.2.1
  simp only [Option.some.injEq, Prod.mk.injEq] at h
  obtain ⟨rfl, rfl⟩ := h
  exact (Try.bits_Mul64 x y (by omega) (by omega) w).mono fun e w' ⟨h1, h2⟩ => ⟨by rw [h1]; rfl, h2 ▸ Drawn0.refl _⟩
 ·cases h
end Go.Proofs.Ytmadjhmecfbcmaa.F
end
section
namespace Go.Proofs.Ytmadjhmecfbcmaa.F
open Go.RowKit Go.Proofs.YtmadjhmecfbcmaaW.PrintWords Go.Proofs.YtmadjhmecfbcmaaW.PrintLast Go.Proofs.YtmadjhmecfbcmaaW.PrintMore
attribute [local go_sem] max2_int min2_int max_two min_two max_three min_three max_four min_four
set_option linter.unusedVariables false
set_option linter.unusedSimpArgs false
set_option maxHeartbeats 8000000 in
set_option maxRecDepth 100000 in
theorem wide_Mul.calls (a0 : Int) (a1 : Int) (r1 : Int) (r2 : Int) (w : World) (h : wide_Mul.f a0 a1 = some (r1, r2)) :
  Calls Try.prog 100 #[.int .u64 a0, .int .u64 a1] w fun e w' => e = .returned (.agg #[.int .u64 r1, .int .u64 r2]) ∧ Below w.heap.size w w' := by
 have hu109 := Try.underlying109
 have HB := Aside0.mk (Below.refl w.heap.size w)
 have H : ((bits_Mul64.f a0 a1).bind fun bt230 => (some (bt230.1, bt230.2))) = some (r1, r2) := h
 clear h
 obtain ⟨⟨t230, t231⟩, A3, H⟩ := zbs H
 try dsimp only at H
 simp only [Option.some.injEq, Prod.mk.injEq] at H
 obtain ⟨rfl, rfl⟩ := H
 go_enter Try.func100, Try.ntmps100
 go_wp2_with (first | ((with_reducible refine gate_dst (N := 4) rfl ?_); refine zbx 4 #[.int .u64 0, .int .u64 0] 109 (h := ?_); intro gb229 hg w4 hbox hb; have GW229 := zkZ hg (zaB (p := Below w.heap.size w _)); have GE229 := GW229; replace HB := Aside0.mk (below_step zaB hb); have BK229 := Aside0.mk (hbox); clear hb hbox hg) | ((with_reducible refine gate_callee (f := 160) rfl ?_); refine zgL 10 Try.func160 (bits_Mul64.calls a0 a1 t230 t231 _ A3.out) (h := ?_); rintro w' ⟨nd, rfl⟩; (try (rw [drewN_self w4]; generalize hq_ : World.drewN w4 _ = w4; have n0_ : Aside0 (w4.heap[gb229]? = some (.cells #[.int .u64 0, .int .u64 0] 109 (0, 0))) := ⟨by rw [← hq_]; exact (zkq BK229)⟩; have n1_ : Aside0 (Below w.heap.size w w4) := ⟨by rw [← hq_]; exact zaB⟩; clear BK229 HB hq_; have BK229 := n0_; have HB := n1_; clear n0_ n1_)); have hcz5_0 := zc0 BK229; have hcz5_1 := zc1 BK229; have hfz5_0 := blk_frozen BK229.out 0; have hfz5_1 := blk_frozen BK229.out 1))
 refine bodyPost_ret (results_cell_row rfl _ _ gb229 109 #[.int .u64 t230, .int .u64 t231] (0, 0) _ rfl (blk_put (cs := #[.int .u64 t230, .int .u64 0]) (blk_put (zkq BK229) 0 _ rfl) 1 _ rfl) Try.underlying109 rfl (by kernel_rfl)) rfl ?_
 exact ⟨zaE, zaB⟩
end Go.Proofs.Ytmadjhmecfbcmaa.F
end
section
namespace Go.Proofs.Ytmadjhmecfbcmaa.F
open Go.RowKit Go.Proofs.YtmadjhmecfbcmaaW.PrintWords Go.Proofs.YtmadjhmecfbcmaaW.PrintLast Go.Proofs.YtmadjhmecfbcmaaW.PrintMore
attribute [local go_sem] max2_int min2_int max_two min_two max_three min_three max_four min_four
set_option linter.unusedVariables false
set_option linter.unusedSimpArgs false
def soft_Mul.T9 : Bool × List (List Nat × List Nat) := (true, [([], []), ([], []), ([1], [1]), ([], []), ([3], [3]), ([2, 4], [2, 4]), ([], []), ([6], [6]), ([], []), ([8], [8]), ([7, 9], [7, 9]), ([], []), ([0, 5, 10, 11, 5], [0, 5, 10, 11]), ([12], [12]), ([12], [12]), ([13, 12, 0, 1, 2, 3, 4, 5, 6, 7, 8, 9, 10, 11, 12, 13, 14], [13]), ([14, 15, 0, 1, 2, 3, 4, 5, 6, 7, 8, 9, 10, 11, 12, 13, 14, 15], [14])])
def soft_Mul.B9 : List Nat := [0, 0, 2, 0, 8, 30, 0, 64, 0, 256, 960, 0, 4095, 8191, 8191, 32767, 65535]
theorem soft_Mul.tab9 : rtab .any (opsOf Try.f25 9) = soft_Mul.T9 := by kernel_rfl
theorem soft_Mul.bits9 : waitsOk soft_Mul.T9.2 soft_Mul.B9 = true := by kernel_rfl
set_option maxHeartbeats 8000000 in
set_option maxRecDepth 100000 in
theorem soft_Mul.calls (k : Nat) (a0 : Int) (a1 : Int) (a2 : Int) (r1 : Int) (r2 : Int) (w : World) (h : soft_Mul.f k a0 a1 a2 = some (r1, r2)) :
  Calls Try.prog 25 #[.int .u64 a0, .int .u64 a1, .int .u8 a2] w fun e w' => e = .returned (.tuple #[.int .u64 r1, .int .u8 r2]) ∧ Below w.heap.size w w' := by
 have hu88 := Try.underlying88
 have HB := Aside0.mk (Below.refl w.heap.size w)
 have H : ((soft_of.f k a0).bind fun bt232 => ((soft_of.f k a1).bind fun bt237 => ((soft_either.f bt232.1 bt232.2.1 bt232.2.2.1 bt232.2.2.2.1 bt232.2.2.2.2 bt237.1 bt237.2.1 bt237.2.2.1 bt237.2.2.2.1 bt237.2.2.2.2 4).bind fun t244 => (if t244 = true then ((pattern_Quiet.f).bind fun t245 => (some (t245, 0))) else ((soft_either.f bt232.1 bt232.2.1 bt232.2.2.1 bt232.2.2.2.1 bt232.2.2.2.2 bt237.1 bt237.2.1 bt237.2.2.1 bt237.2.2.2.1 bt237.2.2.2.2 3).bind fun t246 => (if t246 = true then ((soft_either.f bt232.1 bt232.2.1 bt232.2.2.1 bt232.2.2.2.1 bt232.2.2.2.2 bt237.1 bt237.2.1 bt237.2.2.1 bt237.2.2.2.1 bt237.2.2.2.2 0).bind fun t247 => (soft_Mul.j0 k a2 (bt232.2.2.1 != bt237.2.2.1) t247 bt232.1 bt232.2.1 bt232.2.2.1 bt232.2.2.2.1 bt232.2.2.2.2 bt237.1 bt237.2.1 bt237.2.2.1 bt237.2.2.2.1 bt237.2.2.2.2)) else (soft_Mul.j0 k a2 (bt232.2.2.1 != bt237.2.2.1) false bt232.1 bt232.2.1 bt232.2.2.1 bt232.2.2.2.1 bt232.2.2.2.2 bt237.1 bt237.2.1 bt237.2.2.1 bt237.2.2.2.1 bt237.2.2.2.2))))))) = some (r1, r2) := h
 clear h
 obtain ⟨⟨t232, t233, t234, t235, t236⟩, A4, H⟩ := zbs H
 try dsimp only at H
 obtain ⟨⟨t237, t238, t239, t240, t241⟩, A5, H⟩ := zbs H
 try dsimp only at H
 obtain ⟨t244, A6, H⟩ := zbs H
 try dsimp only at H
 by_cases c7 : t244 = true
 ·subst c7
  have H1 : ((pattern_Quiet.f).bind fun t245 => (some (t245, 0))) = some (r1, r2) := by rw [if_pos rfl] at H; exact H
  clear H
  have H := H1
  clear H1
  obtain ⟨t245, A8, H⟩ := zbs H
  try dsimp only at H
  simp only [Option.some.injEq, Prod.mk.injEq] at H
  obtain ⟨rfl, rfl⟩ := H
  go_enter Try.func25, Try.ntmps25
  go_wp2_with (first | ((with_reducible refine gate_callee (f := 82) rfl ?_); refine zgL 12 Try.func82 (soft_of.calls k a0 t232 t233 t234 t235 t236 _ A4.out) (h := ?_); rintro w9 hb; replace HB := Aside0.mk (below_step zaB hb); (try clear hb)) | ((with_reducible refine gate_callee (f := 82) rfl ?_); refine zgL 14 Try.func82 (soft_of.calls k a1 t237 t238 t239 t240 t241 _ A5.out) (h := ?_); rintro w10 hb; replace HB := Aside0.mk (below_step zaB hb); (try clear hb)) | ((with_reducible refine gate_dst (N := 8) rfl ?_); refine zbx 8 #[.int .u64 0, .int .u8 0, .bool false, .int .u64 0, .int .i64 0] 88 (h := ?_); intro gb242 hg w11 hbox hb; have GW242 := zkZ hg (zaB (p := Below w.heap.size w _)); have GE242 := GW242; replace HB := Aside0.mk (below_step zaB hb); have BK242 := Aside0.mk (hbox); clear hb hbox hg) | ((with_reducible refine gate_dst (N := 9) rfl ?_); refine zbx 9 #[.int .u64 0, .int .u8 0, .bool false, .int .u64 0, .int .i64 0] 88 (h := ?_); intro gb243 hg w12 hbox hb; have GW243 := zkz HB hg; have GE243 := GW243; have NB242_243 := zkl BK242 hg; have NB243_242 := zkr BK242 hg; replace BK242 := zkb BK242 hb; replace HB := zkB HB hb; have BK243 := Aside0.mk (hbox); clear hb hbox hg; have hnb13 := NB242_243.out; have hnc13 := NB243_242.out; have hcz14_0 := zc0 BK242; have hcz14_1 := zc1 BK242; have hcz14_2 := zc2 BK242; have hcz14_3 := zc3 BK242; have hcz14_4 := zc4 BK242; have hfz14_0 := blk_frozen BK242.out 0; have hfz14_1 := blk_frozen BK242.out 1; have hfz14_2 := blk_frozen BK242.out 2; have hfz14_3 := blk_frozen BK242.out 3; have hfz14_4 := blk_frozen BK242.out 4; have hcz15_0 := zc0 BK243; have hcz15_1 := zc1 BK243; have hcz15_2 := zc2 BK243; have hcz15_3 := zc3 BK243; have hcz15_4 := zc4 BK243; have hfz15_0 := blk_frozen BK243.out 0; have hfz15_1 := blk_frozen BK243.out 1; have hfz15_2 := blk_frozen BK243.out 2; have hfz15_3 := blk_frozen BK243.out 3; have hfz15_4 := blk_frozen BK243.out 4) | ((with_reducible refine gate_callee (f := 83) rfl ?_); refine zgL 23 Try.func83 (soft_either.calls t232 t233 t234 t235 t236 t237 t238 t239 t240 t241 4 true _ A6.out) (h := ?_); rintro w16 hb; replace BK242 := Aside0.mk (blk_below (o := .cells #[.int .u64 t232, .int .u8 t233, .bool t234, .int .u64 t235, .int .i64 t236] 88 (0, 0)) (zkf (zkf (zkf (zkf (zkf (blk_put (cs := #[.int .u64 t232, .int .u8 t233, .bool t234, .int .u64 t235, .int .i64 0]) (blk_put (cs := #[.int .u64 t232, .int .u8 t233, .bool t234, .int .u64 0, .int .i64 0]) (blk_put (cs := #[.int .u64 t232, .int .u8 t233, .bool false, .int .u64 0, .int .i64 0]) (blk_put (cs := #[.int .u64 t232, .int .u8 0, .bool false, .int .u64 0, .int .i64 0]) (blk_put BK242.out 0 _ rfl) 1 _ rfl) 2 _ rfl) 3 _ rfl) 4 _ rfl) NB242_243.out _) NB242_243.out _) NB242_243.out _) NB242_243.out _) NB242_243.out _) hb); replace BK243 := Aside0.mk (blk_below (o := .cells #[.int .u64 t237, .int .u8 t238, .bool t239, .int .u64 t240, .int .i64 t241] 88 (0, 0)) (blk_put (cs := #[.int .u64 t237, .int .u8 t238, .bool t239, .int .u64 t240, .int .i64 0]) (blk_put (cs := #[.int .u64 t237, .int .u8 t238, .bool t239, .int .u64 0, .int .i64 0]) (blk_put (cs := #[.int .u64 t237, .int .u8 t238, .bool false, .int .u64 0, .int .i64 0]) (blk_put (cs := #[.int .u64 t237, .int .u8 0, .bool false, .int .u64 0, .int .i64 0]) (blk_put (zkf (zkf (zkf (zkf (zkf BK243.out NB243_242.out _) NB243_242.out _) NB243_242.out _) NB243_242.out _) NB243_242.out _) 0 _ rfl) 1 _ rfl) 2 _ rfl) 3 _ rfl) 4 _ rfl) hb); replace HB := Aside0.mk (below_step (below_set (below_set (below_set (below_set (below_set (below_set (below_set (below_set (below_set (below_set HB.out GE242.out) GE242.out) GE242.out) GE242.out) GE242.out) GE243.out) GE243.out) GE243.out) GE243.out) GE243.out) hb); (try clear hb)) | ((with_reducible refine gate_callee (f := 81) rfl ?_); refine zgL 24 Try.func81 (pattern_Quiet.calls  t245 _ A8.out) (h := ?_); rintro w' ⟨nd, rfl⟩))
  go_ret2
  exact ⟨zaE, zaB⟩
 ·replace c7 := Bool.eq_false_iff.mpr c7
  subst c7
  have H1 : ((soft_either.f t232 t233 t234 t235 t236 t237 t238 t239 t240 t241 3).bind fun t246 => (if t246 = true then ((soft_either.f t232 t233 t234 t235 t236 t237 t238 t239 t240 t241 0).bind fun t247 => (soft_Mul.j0 k a2 (t234 != t239) t247 t232 t233 t234 t235 t236 t237 t238 t239 t240 t241)) else (soft_Mul.j0 k a2 (t234 != t239) false t232 t233 t234 t235 t236 t237 t238 t239 t240 t241))) = some (r1, r2) := by rw [if_neg (show ¬ (false = true) by decide)] at H; exact H
  clear H
  have H := H1
  clear H1
  have HC17 := Aside0.mk H
  clear H
  go_enter Try.func25, Try.ntmps25
  go_upto_region 5 with (first | ((with_reducible refine gate_callee (f := 82) rfl ?_); refine zgL 12 Try.func82 (soft_of.calls k a0 t232 t233 t234 t235 t236 _ A4.out) (h := ?_); rintro w18 hb; replace HB := Aside0.mk (below_step zaB hb); (try clear hb)) | ((with_reducible refine gate_callee (f := 82) rfl ?_); refine zgL 14 Try.func82 (soft_of.calls k a1 t237 t238 t239 t240 t241 _ A5.out) (h := ?_); rintro w19 hb; replace HB := Aside0.mk (below_step zaB hb); (try clear hb)) | ((with_reducible refine gate_dst (N := 8) rfl ?_); refine zbx 8 #[.int .u64 0, .int .u8 0, .bool false, .int .u64 0, .int .i64 0] 88 (h := ?_); intro gb242 hg w20 hbox hb; have GW242 := zkZ hg (zaB (p := Below w.heap.size w _)); have GE242 := GW242; replace HB := Aside0.mk (below_step zaB hb); have BK242 := Aside0.mk (hbox); clear hb hbox hg) | ((with_reducible refine gate_dst (N := 9) rfl ?_); refine zbx 9 #[.int .u64 0, .int .u8 0, .bool false, .int .u64 0, .int .i64 0] 88 (h := ?_); intro gb243 hg w21 hbox hb; have GW243 := zkz HB hg; have GE243 := GW243; have NB242_243 := zkl BK242 hg; have NB243_242 := zkr BK242 hg; replace BK242 := zkb BK242 hb; replace HB := zkB HB hb; have BK243 := Aside0.mk (hbox); clear hb hbox hg; have hnb22 := NB242_243.out; have hnc22 := NB243_242.out; have hcz23_0 := zc0 BK242; have hcz23_1 := zc1 BK242; have hcz23_2 := zc2 BK242; have hcz23_3 := zc3 BK242; have hcz23_4 := zc4 BK242; have hfz23_0 := blk_frozen BK242.out 0; have hfz23_1 := blk_frozen BK242.out 1; have hfz23_2 := blk_frozen BK242.out 2; have hfz23_3 := blk_frozen BK242.out 3; have hfz23_4 := blk_frozen BK242.out 4; have hcz24_0 := zc0 BK243; have hcz24_1 := zc1 BK243; have hcz24_2 := zc2 BK243; have hcz24_3 := zc3 BK243; have hcz24_4 := zc4 BK243; have hfz24_0 := blk_frozen BK243.out 0; have hfz24_1 := blk_frozen BK243.out 1; have hfz24_2 := blk_frozen BK243.out 2; have hfz24_3 := blk_frozen BK243.out 3; have hfz24_4 := blk_frozen BK243.out 4) | ((with_reducible refine gate_callee (f := 83) rfl ?_); refine zgL 23 Try.func83 (soft_either.calls t232 t233 t234 t235 t236 t237 t238 t239 t240 t241 4 false _ A6.out) (h := ?_); rintro w25 hb; replace BK242 := Aside0.mk (blk_below (o := .cells #[.int .u64 t232, .int .u8 t233, .bool t234, .int .u64 t235, .int .i64 t236] 88 (0, 0)) (zkf (zkf (zkf (zkf (zkf (blk_put (cs := #[.int .u64 t232, .int .u8 t233, .bool t234, .int .u64 t235, .int .i64 0]) (blk_put (cs := #[.int .u64 t232, .int .u8 t233, .bool t234, .int .u64 0, .int .i64 0]) (blk_put (cs := #[.int .u64 t232, .int .u8 t233, .bool false, .int .u64 0, .int .i64 0]) (blk_put (cs := #[.int .u64 t232, .int .u8 0, .bool false, .int .u64 0, .int .i64 0]) (blk_put BK242.out 0 _ rfl) 1 _ rfl) 2 _ rfl) 3 _ rfl) 4 _ rfl) NB242_243.out _) NB242_243.out _) NB242_243.out _) NB242_243.out _) NB242_243.out _) hb); replace BK243 := Aside0.mk (blk_below (o := .cells #[.int .u64 t237, .int .u8 t238, .bool t239, .int .u64 t240, .int .i64 t241] 88 (0, 0)) (blk_put (cs := #[.int .u64 t237, .int .u8 t238, .bool t239, .int .u64 t240, .int .i64 0]) (blk_put (cs := #[.int .u64 t237, .int .u8 t238, .bool t239, .int .u64 0, .int .i64 0]) (blk_put (cs := #[.int .u64 t237, .int .u8 t238, .bool false, .int .u64 0, .int .i64 0]) (blk_put (cs := #[.int .u64 t237, .int .u8 0, .bool false, .int .u64 0, .int .i64 0]) (blk_put (zkf (zkf (zkf (zkf (zkf BK243.out NB243_242.out _) NB243_242.out _) NB243_242.out _) NB243_242.out _) NB243_242.out _) 0 _ rfl) 1 _ rfl) 2 _ rfl) 3 _ rfl) 4 _ rfl) hb); replace HB := Aside0.mk (below_step (below_set (below_set (below_set (below_set (below_set (below_set (below_set (below_set (below_set (below_set HB.out GE242.out) GE242.out) GE242.out) GE242.out) GE242.out) GE243.out) GE243.out) GE243.out) GE243.out) GE243.out) hb); (try clear hb)))
  (try simp only [Act.put, List.setIfInBounds_toArray, List.set_cons_zero, List.set_cons_succ])
  go_cut [25] (fun v25 wc => ∃ (kq : Nat) (x25_16 : Bool), v25 = .bool x25_16 ∧ Aside0 (soft_Mul.j0 kq a2 (t234 != t239) x25_16 t232 t233 t234 t235 t236 t237 t238 t239 t240 t241 = some (r1, r2)) ∧ Aside0 (kq ≤ k) ∧ Aside0 (wc.heap[gb242]? = some (.cells #[.int .u64 t232, .int .u8 t233, .bool t234, .int .u64 t235, .int .i64 t236] 88 (0, 0))) ∧ Aside0 (wc.heap[gb243]? = some (.cells #[.int .u64 t237, .int .u8 t238, .bool t239, .int .u64 t240, .int .i64 t241] 88 (0, 0))) ∧ Aside0 (Below w.heap.size w wc))
  case first =>
   have H := HC17.out
   clear HC17
   obtain ⟨t246, A26, H⟩ := zbs H
   try dsimp only at H
   by_cases c27 : t246 = true
   ·subst c27
    have H1 : ((soft_either.f t232 t233 t234 t235 t236 t237 t238 t239 t240 t241 0).bind fun t247 => (soft_Mul.j0 k a2 (t234 != t239) t247 t232 t233 t234 t235 t236 t237 t238 t239 t240 t241)) = some (r1, r2) := by rw [if_pos rfl] at H; exact H
    clear H
    have H := H1
    clear H1
    obtain ⟨t247, A28, H⟩ := zbs H
    try dsimp only at H
    have H' := Aside0.mk H
    clear H
    have hnb29 := NB242_243.out
    have hnc29 := NB243_242.out
    have hcz30_0 := zc0 BK242
    have hcz30_1 := zc1 BK242
    have hcz30_2 := zc2 BK242
    have hcz30_3 := zc3 BK242
    have hcz30_4 := zc4 BK242
    have hfz30_0 := blk_frozen BK242.out 0
    have hfz30_1 := blk_frozen BK242.out 1
    have hfz30_2 := blk_frozen BK242.out 2
    have hfz30_3 := blk_frozen BK242.out 3
    have hfz30_4 := blk_frozen BK242.out 4
    have hcz31_0 := zc0 BK243
    have hcz31_1 := zc1 BK243
    have hcz31_2 := zc2 BK243
    have hcz31_3 := zc3 BK243
    have hcz31_4 := zc4 BK243
    have hfz31_0 := blk_frozen BK243.out 0
    have hfz31_1 := blk_frozen BK243.out 1
    have hfz31_2 := blk_frozen BK243.out 2
    have hfz31_3 := blk_frozen BK243.out 3
    have hfz31_4 := blk_frozen BK243.out 4
    go_wp2_with (first | ((with_reducible refine gate_callee (f := 83) rfl ?_); refine zgL 28 Try.func83 (soft_either.calls t232 t233 t234 t235 t236 t237 t238 t239 t240 t241 3 true _ A26.out) (h := ?_); rintro w32 hb; replace BK242 := zkb BK242 hb; replace BK243 := zkb BK243 hb; replace HB := zkB HB hb; (try clear hb); have hcz33_0 := zc0 BK242; have hcz33_1 := zc1 BK242; have hcz33_2 := zc2 BK242; have hcz33_3 := zc3 BK242; have hcz33_4 := zc4 BK242; have hfz33_0 := blk_frozen BK242.out 0; have hfz33_1 := blk_frozen BK242.out 1; have hfz33_2 := blk_frozen BK242.out 2; have hfz33_3 := blk_frozen BK242.out 3; have hfz33_4 := blk_frozen BK242.out 4; have hcz34_0 := zc0 BK243; have hcz34_1 := zc1 BK243; have hcz34_2 := zc2 BK243; have hcz34_3 := zc3 BK243; have hcz34_4 := zc4 BK243; have hfz34_0 := blk_frozen BK243.out 0; have hfz34_1 := blk_frozen BK243.out 1; have hfz34_2 := blk_frozen BK243.out 2; have hfz34_3 := blk_frozen BK243.out 3; have hfz34_4 := blk_frozen BK243.out 4) | (go_at_call 83; (with_reducible refine (soft_either.calls t232 t233 t234 t235 t236 t237 t238 t239 t240 t241 0 t247 _ A28.out).mono ?_); rintro e w35 ⟨rfl, hb⟩; replace BK242 := zkb BK242 hb; replace BK243 := zkb BK243 hb; replace HB := zkB HB hb; (try clear hb)))
    go_meet
    case rel => exact ⟨_, (t247), (by first | rfl | (simp; done) | (simp [*]; done)), H', ⟨by first | omega | exact Nat.le_refl _⟩, ⟨(zkq BK242)⟩, ⟨(zkq BK243)⟩, ⟨zaB⟩⟩
   ·replace c27 := Bool.eq_false_iff.mpr c27
    subst c27
    have H1 : (soft_Mul.j0 k a2 (t234 != t239) false t232 t233 t234 t235 t236 t237 t238 t239 t240 t241) = some (r1, r2) := by rw [if_neg (show ¬ (false = true) by decide)] at H; exact H
    clear H
    have H := H1
    clear H1
    have H' := Aside0.mk H
    clear H
    have hnb36 := NB242_243.out
    have hnc36 := NB243_242.out
    have hcz37_0 := zc0 BK242
    have hcz37_1 := zc1 BK242
    have hcz37_2 := zc2 BK242
    have hcz37_3 := zc3 BK242
    have hcz37_4 := zc4 BK242
    have hfz37_0 := blk_frozen BK242.out 0
    have hfz37_1 := blk_frozen BK242.out 1
    have hfz37_2 := blk_frozen BK242.out 2
    have hfz37_3 := blk_frozen BK242.out 3
    have hfz37_4 := blk_frozen BK242.out 4
    have hcz38_0 := zc0 BK243
    have hcz38_1 := zc1 BK243
    have hcz38_2 := zc2 BK243
    have hcz38_3 := zc3 BK243
    have hcz38_4 := zc4 BK243
    have hfz38_0 := blk_frozen BK243.out 0
    have hfz38_1 := blk_frozen BK243.out 1
    have hfz38_2 := blk_frozen BK243.out 2
    have hfz38_3 := blk_frozen BK243.out 3
    have hfz38_4 := blk_frozen BK243.out 4
    go_wp2_with (first | ((with_reducible refine gate_callee (f := 83) rfl ?_); refine zgL 28 Try.func83 (soft_either.calls t232 t233 t234 t235 t236 t237 t238 t239 t240 t241 3 false _ A26.out) (h := ?_); rintro w39 hb; replace BK242 := zkb BK242 hb; replace BK243 := zkb BK243 hb; replace HB := zkB HB hb; (try clear hb)))
    go_meet
    case rel => exact ⟨_, (false), (by first | rfl | (simp; done) | (simp [*]; done)), H', ⟨by first | omega | exact Nat.le_refl _⟩, ⟨(zkq BK242)⟩, ⟨(zkq BK243)⟩, ⟨zaB⟩⟩
  case rest =>
   clear HC17
   try clear c1
   try clear c2
   try clear p2
   try clear c3
   try clear c7
   try clear c8
   try clear c13
   try clear c22
   try clear c25
   try clear c27
   try clear c29
   try clear c36
   try clear hcz14_0
   try clear hcz14_1
   try clear hcz14_2
   try clear hcz14_3
   try clear hcz14_4
   try clear hcz15_0
   try clear hcz15_1
   try clear hcz15_2
   try clear hcz15_3
   try clear hcz15_4
   try clear hcz23_0
   try clear hcz23_1
   try clear hcz23_2
   try clear hcz23_3
   try clear hcz23_4
   try clear hcz24_0
   try clear hcz24_1
   try clear hcz24_2
   try clear hcz24_3
   try clear hcz24_4
   try clear hcz30_0
   try clear hcz30_1
   try clear hcz30_2
   try clear hcz30_3
   try clear hcz30_4
   try clear hcz31_0
   try clear hcz31_1
   try clear hcz31_2
   try clear hcz31_3
   try clear hcz31_4
   try clear hcz33_0
   try clear hcz33_1
   try clear hcz33_2
   try clear hcz33_3
   try clear hcz33_4
   try clear hcz34_0
   try clear hcz34_1
   try clear hcz34_2
   try clear hcz34_3
   try clear hcz34_4
   try clear hcz37_0
   try clear hcz37_1
   try clear hcz37_2
   try clear hcz37_3
   try clear hcz37_4
   try clear hcz38_0
   try clear hcz38_1
   try clear hcz38_2
   try clear hcz38_3
   try clear hcz38_4
   try clear hfz14_0
   try clear hfz14_1
   try clear hfz14_2
   try clear hfz14_3
   try clear hfz14_4
   try clear hfz15_0
   try clear hfz15_1
   try clear hfz15_2
   try clear hfz15_3
   try clear hfz15_4
   try clear hfz23_0
   try clear hfz23_1
   try clear hfz23_2
   try clear hfz23_3
   try clear hfz23_4
   try clear hfz24_0
   try clear hfz24_1
   try clear hfz24_2
   try clear hfz24_3
   try clear hfz24_4
   try clear hfz30_0
   try clear hfz30_1
   try clear hfz30_2
   try clear hfz30_3
   try clear hfz30_4
   try clear hfz31_0
   try clear hfz31_1
   try clear hfz31_2
   try clear hfz31_3
   try clear hfz31_4
   try clear hfz33_0
   try clear hfz33_1
   try clear hfz33_2
   try clear hfz33_3
   try clear hfz33_4
   try clear hfz34_0
   try clear hfz34_1
   try clear hfz34_2
   try clear hfz34_3
   try clear hfz34_4
   try clear hfz37_0
   try clear hfz37_1
   try clear hfz37_2
   try clear hfz37_3
   try clear hfz37_4
   try clear hfz38_0
   try clear hfz38_1
   try clear hfz38_2
   try clear hfz38_3
   try clear hfz38_4
   obtain ⟨kq, x25_16, rfl, HA, HJ16, BK242, BK243, HB⟩ := hcut
   cases kq with
   | zero => exact absurd HA.out (by simp [soft_Mul.j0])
   | succ kj16 =>
    have H := HA.out
    clear HA
    simp only [soft_Mul.j0] at H
    by_cases c40 : x25_16 = true
    ·subst c40
     have H1 : ((soft_invalid.f).bind fun bt248 => (some (bt248.1, bt248.2))) = some (r1, r2) := by rw [if_pos rfl] at H; exact H
     clear H
     have H := H1
     clear H1
     obtain ⟨⟨t248, t249⟩, A41, H⟩ := zbs H
     try dsimp only at H
     simp only [Option.some.injEq, Prod.mk.injEq] at H
     obtain ⟨rfl, rfl⟩ := H
     go_wp2_with (first | ((with_reducible refine gate_callee (f := 84) rfl ?_); refine zgL 34 Try.func84 (soft_invalid.calls  t248 t249 _ A41.out) (h := ?_); rintro w' ⟨nd, rfl⟩))
     go_ret2
     exact ⟨zaE, zaB⟩
    ·replace c40 := Bool.eq_false_iff.mpr c40
     subst c40
     have H1 : ((soft_either.f t232 t233 t234 t235 t236 t237 t238 t239 t240 t241 3).bind fun t250 => (if t250 = true then ((pattern_Inf.f kj16 (t234 != t239)).bind fun t251 => (some (t251, 0))) else ((wide_Mul.f t235 t240).bind fun bt252 => ((round_Round.f kj16 (t234 != t239) bt252.1 bt252.2 (wrap64 (t236 + t241)) false a2).bind fun bt254 => (some (bt254.1, bt254.2)))))) = some (r1, r2) := by rw [if_neg (show ¬ (false = true) by decide)] at H; exact H
     clear H
     have H := H1
     clear H1
     obtain ⟨t250, A42, H⟩ := zbs H
     try dsimp only at H
     by_cases c43 : t250 = true
     ·subst c43
      have H1 : ((pattern_Inf.f kj16 (t234 != t239)).bind fun t251 => (some (t251, 0))) = some (r1, r2) := by rw [if_pos rfl] at H; exact H
      clear H
      have H := H1
      clear H1
      obtain ⟨t251, A44, H⟩ := zbs H
      try dsimp only at H
      simp only [Option.some.injEq, Prod.mk.injEq] at H
      obtain ⟨rfl, rfl⟩ := H
      have hnb45 := NB242_243.out
      have hnc45 := NB243_242.out
      have hcz46_0 := zc0 BK242
      have hcz46_1 := zc1 BK242
      have hcz46_2 := zc2 BK242
      have hcz46_3 := zc3 BK242
      have hcz46_4 := zc4 BK242
      have hfz46_0 := blk_frozen BK242.out 0
      have hfz46_1 := blk_frozen BK242.out 1
      have hfz46_2 := blk_frozen BK242.out 2
      have hfz46_3 := blk_frozen BK242.out 3
      have hfz46_4 := blk_frozen BK242.out 4
      have hcz47_0 := zc0 BK243
      have hcz47_1 := zc1 BK243
      have hcz47_2 := zc2 BK243
      have hcz47_3 := zc3 BK243
      have hcz47_4 := zc4 BK243
      have hfz47_0 := blk_frozen BK243.out 0
      have hfz47_1 := blk_frozen BK243.out 1
      have hfz47_2 := blk_frozen BK243.out 2
      have hfz47_3 := blk_frozen BK243.out 3
      have hfz47_4 := blk_frozen BK243.out 4
      go_wp2_with (first | ((with_reducible refine gate_callee (f := 83) rfl ?_); refine zgL 40 Try.func83 (soft_either.calls t232 t233 t234 t235 t236 t237 t238 t239 t240 t241 3 true _ A42.out) (h := ?_); rintro w48 hb; replace BK242 := zkb BK242 hb; replace BK243 := zkb BK243 hb; replace HB := zkB HB hb; (try clear hb)) | ((with_reducible refine gate_callee (f := 79) rfl ?_); refine zgL 42 Try.func79 (pattern_Inf.calls kj16 (t234 != t239) t251 _ A44.out) (h := ?_); rintro w' ⟨nd, rfl⟩))
      go_ret2
      exact ⟨zaE, zaB⟩
     ·replace c43 := Bool.eq_false_iff.mpr c43
      subst c43
      have H1 : ((wide_Mul.f t235 t240).bind fun bt252 => ((round_Round.f kj16 (t234 != t239) bt252.1 bt252.2 (wrap64 (t236 + t241)) false a2).bind fun bt254 => (some (bt254.1, bt254.2)))) = some (r1, r2) := by rw [if_neg (show ¬ (false = true) by decide)] at H; exact H
      clear H
      have H := H1
      clear H1
      obtain ⟨⟨t252, t253⟩, A49, H⟩ := zbs H
      try dsimp only at H
      obtain ⟨⟨t254, t255⟩, A50, H⟩ := zbs H
      try dsimp only at H
      simp only [Option.some.injEq, Prod.mk.injEq] at H
      obtain ⟨rfl, rfl⟩ := H
      have hnb51 := NB242_243.out
      have hnc51 := NB243_242.out
      have hcz52_0 := zc0 BK242
      have hcz52_1 := zc1 BK242
      have hcz52_2 := zc2 BK242
      have hcz52_3 := zc3 BK242
      have hcz52_4 := zc4 BK242
      have hfz52_0 := blk_frozen BK242.out 0
      have hfz52_1 := blk_frozen BK242.out 1
      have hfz52_2 := blk_frozen BK242.out 2
      have hfz52_3 := blk_frozen BK242.out 3
      have hfz52_4 := blk_frozen BK242.out 4
      have hcz53_0 := zc0 BK243
      have hcz53_1 := zc1 BK243
      have hcz53_2 := zc2 BK243
      have hcz53_3 := zc3 BK243
      have hcz53_4 := zc4 BK243
      have hfz53_0 := blk_frozen BK243.out 0
      have hfz53_1 := blk_frozen BK243.out 1
      have hfz53_2 := blk_frozen BK243.out 2
      have hfz53_3 := blk_frozen BK243.out 3
      have hfz53_4 := blk_frozen BK243.out 4
      try go_wp2_with (first | ((with_reducible refine gate_callee (f := 83) rfl ?_); refine zgL 40 Try.func83 (soft_either.calls t232 t233 t234 t235 t236 t237 t238 t239 t240 t241 3 false _ A42.out) (h := ?_); rintro w54 hb; replace BK242 := zkb BK242 hb; replace BK243 := zkb BK243 hb; replace HB := zkB HB hb; (try clear hb)))
      replace BK242 := Aside0.mk (blk_drew BK242.out)
      replace BK243 := Aside0.mk (blk_drew BK243.out)
      replace HB := Aside0.mk (below_drew1 HB.out)
      refine start_ (n := 17) (S := fun w' => w'.cell? ⟨gb242, 0, none⟩ = some (.int .u64 t232) ∧ w'.cell? ⟨gb242, 1, none⟩ = some (.int .u8 t233) ∧ w'.cell? ⟨gb242, 2, none⟩ = some (.bool t234) ∧ w'.cell? ⟨gb242, 3, none⟩ = some (.int .u64 t235) ∧ w'.cell? ⟨gb242, 4, none⟩ = some (.int .i64 t236) ∧ w'.cell? ⟨gb243, 0, none⟩ = some (.int .u64 t237) ∧ w'.cell? ⟨gb243, 1, none⟩ = some (.int .u8 t238) ∧ w'.cell? ⟨gb243, 2, none⟩ = some (.bool t239) ∧ w'.cell? ⟨gb243, 3, none⟩ = some (.int .u64 t240) ∧ w'.cell? ⟨gb243, 4, none⟩ = some (.int .i64 t241)) (ds := []) #[false, false, false, false, false, false, false, false, false, false, false, false, false, false, false, false, false] (by kernel_rfl) rfl rfl (zk5 BK242 (ze5 BK243)) (fun hHeld => ?_); refine with_tabW soft_Mul.tab9 soft_Mul.bits9 (fun HT_ HW_ => ?_)
      generalize w54.drew = w55 at BK242 BK243 HB hHeld ⊢
      refine zpA 0 43 (h := ?_)
      refine zpA 1 44 (h := ?_)
      refine zpA 3 46 (h := ?_)
      refine zpA 6 49 (h := ?_)
      refine zpA 8 51 (h := ?_)
      refine zpA 11 54 (h := ?_)
      refine ztA 2 45 (h := ?_)
      refine ztA 4 47 (h := ?_)
      refine ztA 7 50 (h := ?_)
      refine ztA 9 52 (h := ?_)
      refine zpA 10 53 (h := ?_)
      refine zoA 5 48 (h := fun K hK => ?_)
      refine zgA Try.func100 (wide_Mul.calls t235 t240 t252 t253 _ A49.out) (h := ?_)
      rintro w56 hb
      replace BK242 := zkb BK242 hb
      replace BK243 := zkb BK243 hb
      replace HB := zkB HB hb
      (try clear hb)
      refine hK.out _ _ (zk5 BK242 (ze5 BK243)) (fun hHeld => ?_)
      clear hK K
      refine znA 48 (h := ?_)
      refine zoA 12 55 (h := fun K hK => ?_)
      refine zgA Try.func99 (round_Round.calls kj16 (t234 != t239) t252 t253 (wrap64 (t236 + t241)) false a2 t254 t255 _ A50.out) (h := ?_)
      rintro w57 hb
      replace BK242 := zkb BK242 hb
      replace BK243 := zkb BK243 hb
      replace HB := zkB HB hb
      (try clear hb)
      refine hK.out _ _ (zk5 BK242 (ze5 BK243)) (fun hHeld => ?_)
      clear hK K
      refine znA 55 (h := ?_)
      refine zpA 13 56 (h := ?_)
      refine zpA 14 57 (h := ?_)
      refine zpA 15 6 (h := ?_)
      refine zpA 16 7 (h := ?_)
      refine done_ (done_of HT_.out (by kernel_rfl)) ?_
      try go_wp2
      go_ret2
      exact ⟨zaE, zaB⟩
end Go.Proofs.Ytmadjhmecfbcmaa.F
end
section
namespace Go.Proofs.Ytmadjhmecfbcmaa.F
open Go.RowKit Go.Proofs.YtmadjhmecfbcmaaW.PrintWords Go.Proofs.YtmadjhmecfbcmaaW.PrintLast Go.Proofs.YtmadjhmecfbcmaaW.PrintMore
attribute [local go_sem] max2_int min2_int max_two min_two max_three min_three max_four min_four
set_option linter.unusedVariables false
set_option linter.unusedSimpArgs false
theorem bits_LeadingZeros64.calls (a0 : Int) (r : Int) (w : World) (h : bits_LeadingZeros64.f a0 = some r) :
  Calls Try.prog 186 #[.int .u64 a0] w fun e w' => e = .returned (.int .i64 r) ∧ Drawn0 w w' := by
 unfold bits_LeadingZeros64.f at h
 split at h
 ·rename_i g
  obtain rfl := Option.some.inj h
  exact (Try.bits_LeadingZeros64 a0 w g.1 g.2).mono fun e w' ⟨h1, h2⟩ => ⟨h1, h2 ▸ Drawn0.refl _⟩
 ·cases h
end Go.Proofs.Ytmadjhmecfbcmaa.F
end
section
namespace Go.Proofs.Ytmadjhmecfbcmaa.M
def sh (X : Nat) : Nat := if X < 18014398509481984 then 1 else X.log2 - 52
def wd (X : Nat) : Nat := X / 2 ^ sh X
def hf (X : Nat) : Bool := X / 2 ^ (sh X - 1) % 2 == 1
def rs (X : Nat) (s : Bool) : Bool := s || X % 2 ^ (sh X - 1) != 0
def fk (X : Nat) : Nat := (sh X - 1) * 4503599627370496 + wd X
def magk (k : Nat) : Nat := if k / 4503599627370496 = 0 then k % 4503599627370496 else (4503599627370496 + k % 4503599627370496) * 2 ^ (k / 4503599627370496 - 1)
def dir (neg : Bool) (mode : Nat) : Nat := if mode = 1 then (if neg then 2 else 1) else if mode = 2 then (if neg then 1 else 2) else 0
def upw (X : Nat) (s : Bool) (d : Nat) : Bool :=
  if d = 1 then hf X || rs X s else if d = 2 then false else hf X && (rs X s || X / 2 ^ sh X % 2 == 1)
def kk (X : Nat) (s : Bool) (d : Nat) : Nat := fk X + (if upw X s d then 1 else 0)
def rnd (X : Nat) (s : Bool) (d : Nat) : Nat × Nat :=
  if kk X s d ≥ 9218868437227405312 then (if d = 2 then 9218868437227405311 else 9218868437227405312, 5)
  else (kk X s d, if hf X || rs X s then (if X < 9007199254740992 then 3 else 1) else 0)
def sg (neg : Bool) : Nat := if neg then 9223372036854775808 else 0
def RND (neg : Bool) (X : Nat) (s : Bool) (mode : Nat) : Nat × Nat :=
  (sg neg + (rnd X s (dir neg mode)).1, (rnd X s (dir neg mode)).2)
theorem RND_over {neg : Bool} {X : Nat} {s : Bool} {mode : Nat} (h : 9218868437227405312 ≤ kk X s (dir neg mode)) :
    RND neg X s mode = (sg neg + (if dir neg mode = 2 then 9218868437227405311 else 9218868437227405312), 5) := by
  unfold RND rnd; rw [if_pos h]
theorem RND_in {neg : Bool} {X : Nat} {s : Bool} {mode : Nat} (h : ¬ 9218868437227405312 ≤ kk X s (dir neg mode)) :
    RND neg X s mode = (sg neg + kk X s (dir neg mode), if hf X || rs X s then (if X < 9007199254740992 then 3 else 1) else 0) := by
  unfold RND rnd; rw [if_neg h]
theorem sh_cases (X : Nat) : (sh X = 1 ∧ X < 18014398509481984) ∨ (2 ≤ sh X ∧ 2 ^ (sh X + 52) ≤ X ∧ X < 2 ^ (sh X + 53)) := by
  unfold sh
  split
  · left; omega
  · right
    have h0 : X ≠ 0 := by omega
    have h1 : 54 ≤ X.log2 := by rw [Nat.le_log2 h0]; omega
    have h2 := Nat.log2_self_le h0
    have h3 : X < 2 ^ (X.log2 + 1) := Nat.lt_log2_self
    refine ⟨by omega, ?_, ?_⟩
    · rw [show X.log2 - 52 + 52 = X.log2 by omega]; exact h2
    · rw [show X.log2 - 52 + 53 = X.log2 + 1 by omega]; exact h3
theorem sh_pos (X : Nat) : 1 ≤ sh X := by rcases sh_cases X with h | h <;> omega
theorem two_pos (n : Nat) : 0 < 2 ^ n := Nat.two_pow_pos n
theorem pow_le {a b : Nat} (h : a ≤ b) : 2 ^ a ≤ 2 ^ b := Nat.pow_le_pow_right (by omega) h
theorem sh_unique {X t : Nat} (h : (t = 1 ∧ X < 18014398509481984) ∨ (2 ≤ t ∧ 2 ^ (t + 52) ≤ X ∧ X < 2 ^ (t + 53))) : sh X = t := by
  rcases h with ⟨rfl, h⟩ | ⟨h1, h2, h3⟩
  · unfold sh; rw [if_pos h]
  · have h4 : 2 ^ 54 ≤ 2 ^ (t + 52) := pow_le (by omega)
    have h5 : ¬ X < 18014398509481984 := by omega
    have h0 : X ≠ 0 := by omega
    unfold sh; rw [if_neg h5]
    have a1 : t + 52 ≤ X.log2 := by rw [Nat.le_log2 h0]; exact h2
    have a2 : X.log2 < t + 53 := by rw [Nat.log2_lt h0]; exact h3
    omega
theorem wd_lt (X : Nat) : wd X < 9007199254740992 := by
  unfold wd
  rw [Nat.div_lt_iff_lt_mul (two_pos _)]
  rcases sh_cases X with ⟨h1, h2⟩ | ⟨_, _, h3⟩
  · rw [h1]; omega
  · rw [Nat.pow_add] at h3; omega
theorem wd_ge (X : Nat) (h : 2 ≤ sh X) : 4503599627370496 ≤ wd X := by
  unfold wd
  rw [Nat.le_div_iff_mul_le (two_pos _)]
  rcases sh_cases X with ⟨h1, _⟩ | ⟨_, h2, _⟩
  · omega
  · rw [Nat.pow_add] at h2; omega
theorem magk_parts (t w : Nat) (h : (t = 1 ∧ w < 9007199254740992) ∨ (2 ≤ t ∧ 4503599627370496 ≤ w ∧ w < 9007199254740992)) :
    magk ((t - 1) * 4503599627370496 + w) = w * 2 ^ (t - 1) := by
  unfold magk
  by_cases hw : w < 4503599627370496
  · have ht : t = 1 := by omega
    subst ht
    rw [if_pos (by omega), show (1 - 1) * 4503599627370496 + w = w by omega, Nat.mod_eq_of_lt hw, show (1 - 1 : Nat) = 0 from rfl, Nat.pow_zero, Nat.mul_one]
  · have e1 : ((t - 1) * 4503599627370496 + w) / 4503599627370496 = t := by omega
    have e2 : ((t - 1) * 4503599627370496 + w) % 4503599627370496 = w - 4503599627370496 := by omega
    rw [e1, e2, if_neg (by omega)]
    rw [show 4503599627370496 + (w - 4503599627370496) = w by omega]
theorem magk_parts_succ (t w : Nat) (h : (t = 1 ∧ w < 9007199254740992) ∨ (2 ≤ t ∧ 4503599627370496 ≤ w ∧ w < 9007199254740992)) :
    magk ((t - 1) * 4503599627370496 + w + 1) = (w + 1) * 2 ^ (t - 1) := by
  by_cases hw : w + 1 < 9007199254740992
  · rw [Nat.add_assoc]; exact magk_parts t (w + 1) (by omega)
  · have hw : w = 9007199254740991 := by omega
    have ht : 1 ≤ t := by omega
    have := magk_parts (t + 1) 4503599627370496 (by omega)
    rw [show t + 1 - 1 = t by omega] at this
    rw [show (t - 1) * 4503599627370496 + w + 1 = t * 4503599627370496 + 4503599627370496 by omega, this]
    obtain ⟨u, rfl⟩ : ∃ u, t = u + 1 := ⟨t - 1, by omega⟩
    rw [show u + 1 - 1 = u by omega, Nat.pow_succ, show w + 1 = 4503599627370496 * 2 by omega]; grind
theorem key_parts (k : Nat) : ∃ t w, k = (t - 1) * 4503599627370496 + w ∧ ((t = 1 ∧ w < 9007199254740992) ∨ (2 ≤ t ∧ 4503599627370496 ≤ w ∧ w < 9007199254740992)) := by
  by_cases h : k < 9007199254740992
  · exact ⟨1, k, by omega, by omega⟩
  · exact ⟨k / 4503599627370496, k % 4503599627370496 + 4503599627370496, by omega, by omega⟩
theorem magk_lt_succ (k : Nat) : magk k < magk (k + 1) := by
  obtain ⟨t, w, rfl, h⟩ := key_parts k
  rw [magk_parts t w h, magk_parts_succ t w h]
  exact Nat.mul_lt_mul_of_pos_right (by omega) (two_pos _)
theorem magk_strict {a b : Nat} (h : a < b) : magk a < magk b := by
  induction b with
  | zero => omega
  | succ b ih =>
    by_cases e : a = b
    · subst e; exact magk_lt_succ a
    · exact Nat.lt_trans (ih (by omega)) (magk_lt_succ b)
theorem magk_mono {a b : Nat} (h : a ≤ b) : magk a ≤ magk b := by
  by_cases e : a = b
  · subst e; exact Nat.le_refl _
  · exact Nat.le_of_lt (magk_strict (by omega))
theorem magk_le_iff {a b : Nat} : magk a ≤ magk b ↔ a ≤ b := by
  constructor
  · intro h; by_cases e : a ≤ b
    · exact e
    · exact absurd (magk_strict (a := b) (b := a) (by omega)) (by omega)
  · exact magk_mono
theorem magk_inj {a b : Nat} (h : magk a = magk b) : a = b := by
  have h1 := magk_le_iff.1 (Nat.le_of_eq h)
  have h2 := magk_le_iff.1 (Nat.le_of_eq h.symm)
  omega
theorem fk_parts (X : Nat) : (sh X = 1 ∧ wd X < 9007199254740992) ∨ (2 ≤ sh X ∧ 4503599627370496 ≤ wd X ∧ wd X < 9007199254740992) := by
  have h1 := wd_lt X
  have h2 := sh_pos X
  by_cases h : sh X = 1
  · left; omega
  · right; have := wd_ge X (by omega); omega
theorem two_magk_fk (X : Nat) : 2 * magk (fk X) = wd X * 2 ^ sh X := by
  unfold fk
  rw [magk_parts _ _ (fk_parts X)]
  obtain ⟨u, hu⟩ : ∃ u, sh X = u + 1 := ⟨sh X - 1, by have := sh_pos X; omega⟩
  rw [hu, show u + 1 - 1 = u by omega, Nat.pow_succ]; grind
theorem two_magk_fk_succ (X : Nat) : 2 * magk (fk X + 1) = (wd X + 1) * 2 ^ sh X := by
  unfold fk
  rw [magk_parts_succ _ _ (fk_parts X)]
  obtain ⟨u, hu⟩ : ∃ u, sh X = u + 1 := ⟨sh X - 1, by have := sh_pos X; omega⟩
  rw [hu, show u + 1 - 1 = u by omega, Nat.pow_succ]; grind
theorem fk_le (X : Nat) : 2 * magk (fk X) ≤ X := by
  rw [two_magk_fk]; exact Nat.div_mul_le_self _ _
theorem fk_lt (X : Nat) : X < 2 * magk (fk X + 1) := by
  rw [two_magk_fk_succ]; unfold wd
  exact Nat.lt_mul_of_div_lt (by omega) (two_pos _)
theorem fk_iff (X k : Nat) : 2 * magk k ≤ X ↔ k ≤ fk X := by
  constructor
  · intro h
    by_cases e : k ≤ fk X
    · exact e
    · have := magk_mono (a := fk X + 1) (b := k) (by omega)
      have := fk_lt X
      omega
  · intro h
    have := magk_mono h
    have := fk_le X
    omega
theorem mid_eq (X : Nat) : magk (fk X) + magk (fk X + 1) = (2 * wd X + 1) * 2 ^ (sh X - 1) := by
  have h1 := two_magk_fk X
  have h2 := two_magk_fk_succ X
  obtain ⟨u, hu⟩ : ∃ u, sh X = u + 1 := ⟨sh X - 1, by have := sh_pos X; omega⟩
  rw [hu, Nat.pow_succ] at h1 h2
  rw [hu, show u + 1 - 1 = u by omega]
  have e1 : (2 * wd X + 1) * 2 ^ u = 2 * (wd X * 2 ^ u) + 2 ^ u := by rw [Nat.add_mul, Nat.mul_assoc]; omega
  have e2 : (wd X + 1) * (2 ^ u * 2) = 2 * (wd X * 2 ^ u) + 2 * 2 ^ u := by rw [Nat.add_mul, ← Nat.mul_assoc]; omega
  have e3 : wd X * (2 ^ u * 2) = 2 * (wd X * 2 ^ u) := by rw [← Nat.mul_assoc]; omega
  omega
theorem X_parts (X : Nat) : X = wd X * 2 ^ sh X + (if hf X then 1 else 0) * 2 ^ (sh X - 1) + X % 2 ^ (sh X - 1) := by
  obtain ⟨u, hu⟩ : ∃ u, sh X = u + 1 := ⟨sh X - 1, by have := sh_pos X; omega⟩
  unfold wd hf
  rw [hu, show u + 1 - 1 = u by omega]
  have h1 := Nat.div_add_mod X (2 ^ u)
  have h2 : X / 2 ^ (u + 1) = X / 2 ^ u / 2 := by rw [Nat.pow_succ, Nat.div_div_eq_div_mul]
  have h3 := Nat.div_add_mod (X / 2 ^ u) 2
  rw [h2]
  have h4 : (if (X / 2 ^ u % 2 == 1) = true then 1 else 0) = X / 2 ^ u % 2 := by
    rcases Nat.mod_two_eq_zero_or_one (X / 2 ^ u) with h | h <;> rw [h] <;> rfl
  rw [h4, Nat.pow_succ]
  generalize hq : X / 2 ^ u = q at *
  have h5 : q / 2 * (2 ^ u * 2) + q % 2 * 2 ^ u = q * 2 ^ u := by
    rw [← Nat.mul_assoc, Nat.mul_right_comm, ← Nat.add_mul]; congr 1; omega
  rw [h5, Nat.mul_comm q]; omega
theorem mid_lt (X : Nat) : X < magk (fk X) + magk (fk X + 1) ↔ hf X = false := by
  rw [mid_eq]
  have hp := X_parts X
  have hm := Nat.mod_lt X (two_pos (sh X - 1))
  obtain ⟨u, hu⟩ : ∃ u, sh X = u + 1 := ⟨sh X - 1, by have := sh_pos X; omega⟩
  rw [hu, show u + 1 - 1 = u by omega] at hp hm
  rw [hu, show u + 1 - 1 = u by omega]
  rw [Nat.pow_succ, ← Nat.mul_assoc] at hp
  have e1 : (2 * wd X + 1) * 2 ^ u = wd X * 2 ^ u * 2 + 2 ^ u := by rw [Nat.add_mul, Nat.mul_comm 2, Nat.mul_right_comm]; omega
  rw [e1]
  cases h : hf X <;> simp [h] at hp ⊢ <;> omega
theorem mid_le (X : Nat) : X ≤ magk (fk X) + magk (fk X + 1) ↔ hf X = false ∨ X % 2 ^ (sh X - 1) = 0 := by
  rw [mid_eq]
  have hp := X_parts X
  have hm := Nat.mod_lt X (two_pos (sh X - 1))
  obtain ⟨u, hu⟩ : ∃ u, sh X = u + 1 := ⟨sh X - 1, by have := sh_pos X; omega⟩
  rw [hu, show u + 1 - 1 = u by omega] at hp hm
  rw [hu, show u + 1 - 1 = u by omega]
  rw [Nat.pow_succ, ← Nat.mul_assoc] at hp
  have e1 : (2 * wd X + 1) * 2 ^ u = wd X * 2 ^ u * 2 + 2 ^ u := by rw [Nat.add_mul, Nat.mul_comm 2, Nat.mul_right_comm]; omega
  rw [e1]
  cases h : hf X <;> simp [h] at hp ⊢ <;> omega
theorem exact_iff (X : Nat) (s : Bool) : (hf X || rs X s) = false ↔ X = 2 * magk (fk X) ∧ s = false := by
  rw [two_magk_fk]
  have hp := X_parts X
  have hm := Nat.mod_lt X (two_pos (sh X - 1))
  have h2 := two_pos (sh X - 1)
  unfold rs
  cases h : hf X <;> cases s <;> simp [h] at hp ⊢ <;> omega
theorem odd_fk (X : Nat) : fk X % 2 = X / 2 ^ sh X % 2 := by
  unfold fk wd; omega
theorem fk_of_lt {X : Nat} (h : X < 9007199254740992) : fk X < 4503599627370496 := by
  have : sh X = 1 := sh_unique (by omega)
  unfold fk wd; rw [this]; omega
end Go.Proofs.Ytmadjhmecfbcmaa.M
end
section
namespace Go.Proofs.Ytmadjhmecfbcmaa.M
open Go.RowKit Go.Proofs.YtmadjhmecfbcmaaW.PrintWords Go.Proofs.YtmadjhmecfbcmaaW.PrintLast Go.Proofs.YtmadjhmecfbcmaaW.PrintMore Go.Proofs.Ytmadjhmecfbcmaa.F
theorem w64 {n : Int} (h0 : -9223372036854775808 ≤ n) (h1 : n < 9223372036854775808) : wrap64 n = n := by unfold wrap64; omega
theorem wu64 {n : Int} (h0 : 0 ≤ n) (h1 : n < 18446744073709551616) : IntKind.u64.wrap n = n := by rw [IntKind.wrap_u64]; omega
theorem and_mask (a j : Nat) (ha : a < 18446744073709551616) (hj : j ≤ 63) : bits .and .u64 (a : Int) ((2 ^ j - 1 : Nat) : Int) = ((a % 2 ^ j : Nat) : Int) := by
  have h : 2 ^ j ≤ 2 ^ 63 := pow_le hj
  rw [u64_and_nat a (2 ^ j - 1) ha (by omega), Nat.and_two_pow_sub_one_eq_mod]
theorem and_1 (a : Nat) (ha : a < 18446744073709551616) : bits .and .u64 (a : Int) 1 = ((a % 2 : Nat) : Int) := and_mask a 1 ha (by decide)
theorem and_2047 (a : Nat) (ha : a < 18446744073709551616) : bits .and .u64 (a : Int) 2047 = ((a % 2048 : Nat) : Int) := and_mask a 11 ha (by decide)
theorem and_52 (a : Nat) (ha : a < 18446744073709551616) : bits .and .u64 (a : Int) 4503599627370495 = ((a % 4503599627370496 : Nat) : Int) := and_mask a 52 ha (by decide)
theorem or_join (a b i : Nat) (ha : a < 18446744073709551616) (hb : b < 2 ^ i) (hm : a % 2 ^ i = 0) (hi : b < 18446744073709551616) : bits .or .u64 (a : Int) (b : Int) = ((a + b : Nat) : Int) := by
  rw [u64_or_nat a b ha hi, nat_join i a b hm hb]
theorem or_join' (a b i : Nat) (ha : a < 18446744073709551616) (hb : b < 2 ^ i) (hm : a % 2 ^ i = 0) (hi : b < 18446744073709551616) : bits .or .u64 (b : Int) (a : Int) = ((a + b : Nat) : Int) := by
  rw [u64_or_nat b a hi ha, Nat.or_comm, nat_join i a b hm hb]
def flip (a : Nat) : Nat := if a < 9223372036854775808 then a + 9223372036854775808 else a - 9223372036854775808
theorem xor_sign (a : Nat) (ha : a < 18446744073709551616) : bits .xor .u64 (a : Int) 9223372036854775808 = ((flip a : Nat) : Int) := by
  rw [show (9223372036854775808 : Int) = ((9223372036854775808 : Nat) : Int) from rfl, u64_xor_nat a 9223372036854775808 ha (by decide)]
  congr 1
  unfold flip
  split
  · rename_i h
    have e : a ^^^ 9223372036854775808 = 9223372036854775808 ||| a := by
      apply Nat.eq_of_testBit_eq
      intro j
      rw [Nat.testBit_xor, Nat.testBit_or]
      by_cases hj : j = 63
      · subst hj
        have : a.testBit 63 = false := Nat.testBit_lt_two_pow (by omega)
        rw [this]; rfl
      · rw [show (9223372036854775808 : Nat) = 2 ^ 63 from rfl, Nat.testBit_two_pow]
        simp [Ne.symm hj]
    rw [e, nat_join 63 _ _ (by decide) (by omega)]; omega
  · rename_i h
    obtain ⟨b, rfl⟩ : ∃ b, a = 9223372036854775808 + b := ⟨a - 9223372036854775808, by omega⟩
    have hb : b < 2 ^ 63 := by omega
    rw [← nat_join 63 9223372036854775808 b (by decide) hb]
    have e : (9223372036854775808 ||| b) ^^^ 9223372036854775808 = b := by
      apply Nat.eq_of_testBit_eq
      intro j
      rw [Nat.testBit_xor, Nat.testBit_or]
      by_cases hj : j = 63
      · subst hj
        have : b.testBit 63 = false := Nat.testBit_lt_two_pow hb
        rw [this]; rfl
      · rw [show (9223372036854775808 : Nat) = 2 ^ 63 from rfl, Nat.testBit_two_pow]
        simp [Ne.symm hj]
    rw [e, nat_join 63 _ _ (by decide) hb]; omega
theorem bitLen_log2 (n : Nat) (h0 : n ≠ 0) (h : n < 18446744073709551616) : Lib.bitLen n = n.log2 + 1 := by
  have h1 := Lib.bitLenAux_bounds 64 n (by omega) h0
  have h2 : Lib.bitLenAux 64 n - 1 ≤ n.log2 := by rw [Nat.le_log2 h0]; exact h1.2.1
  have h3 : n.log2 < Lib.bitLenAux 64 n := by rw [Nat.log2_lt h0]; exact h1.2.2
  unfold Lib.bitLen; omega
theorem shl_nat (x n : Nat) (h : n ≤ 64) : shl .u64 (x : Int) (n : Int) = ((x * 2 ^ n % 18446744073709551616 : Nat) : Int) := by
  unfold shl
  rw [IntKind.wrap_u64, show IntKind.u64.bits = 64 from rfl, Int.toNat_natCast, Nat.min_eq_left h]; simp
theorem shr_nat (x n : Nat) (h : n ≤ 64) : shr .u64 (x : Int) (n : Int) = ((x / 2 ^ n : Nat) : Int) := by
  unfold shr
  rw [show IntKind.u64.bits = 64 from rfl, Int.toNat_natCast, Nat.min_eq_left h]; simp
theorem bind_of {α β : Type} {x : Option α} {a : α} (f : α → Option β) (h : x = some a) : x.bind f = f a := by rw [h]; rfl
theorem Ev.later {α : Type} {g : Nat → Option α} {r : α} (n : Nat) (h : ∀ k, g (k + n) = some r) : Ev g r :=
  ⟨n, fun k hk => by have := h (k - n); rwa [Nat.sub_add_cancel hk] at this⟩
theorem Ev.next {α : Type} {g : Nat → Option α} {r : α} (h : Ev (fun k => g (k + 1)) r) : Ev g r := Ev.step (fun _ => rfl) h
theorem Ev.all {α : Type} {g : Nat → Option α} {r : α} (h : ∀ k, g k = some r) : Ev g r := ⟨0, fun k _ => h k⟩
theorem Ev.const {α : Type} {x : Option α} {r : α} (h : x = some r) : Ev (fun _ => x) r := ⟨0, fun _ _ => h⟩
theorem Ev.b {α β : Type} {g : Nat → Option α} {f : Nat → α → Option β} (a : α) {r : β} (h : Ev g a) (k : Ev (fun n => f n a) r) : Ev (fun n => (g n).bind (f n)) r := Ev.bind h k
end Go.Proofs.Ytmadjhmecfbcmaa.M
end
section
namespace Go.Proofs.Ytmadjhmecfbcmaa.M
open Go.RowKit Go.Proofs.YtmadjhmecfbcmaaW.PrintWords Go.Proofs.YtmadjhmecfbcmaaW.PrintLast Go.Proofs.YtmadjhmecfbcmaaW.PrintMore Go.Proofs.Ytmadjhmecfbcmaa.F
structure Kn (y y1 y0 u c t v : Nat) : Prop where
  hy : y = y1 * 4294967296 + y0
  h0 : y0 < 4294967296
  h1 : 2147483648 ≤ y1
  h2 : y1 < 4294967296
  hu : u < y
  hc : c < 4294967296
  hd : u * 4294967296 + c = t * y + v
  hv : v < y
theorem Kn.t_lt {y y1 y0 u c t v : Nat} (K : Kn y y1 y0 u c t v) : t < 4294967296 := by
  have h1 := K.hd; have h2 := K.hu; have h3 := K.hc
  by_cases h : t < 4294967296
  · exact h
  · have : 4294967296 * y ≤ t * y := Nat.mul_le_mul_right _ (by omega)
    omega
theorem Kn.too {y y1 y0 u c t v q r : Nat} (K : Kn y y1 y0 u c t v) (hs : u = q * y1 + r) (h : 4294967296 ≤ q ∨ 4294967296 * r + c < q * y0) : t < q := by
  have ht := K.t_lt
  rcases h with h | h
  · omega
  · have h1 := K.hd
    by_cases g : t < q
    · exact g
    · exfalso
      have h2 : q * y ≤ t * y := Nat.mul_le_mul_right _ (by omega)
      have h3 : q * y = q * y1 * 4294967296 + q * y0 := by rw [K.hy]; grind
      rw [hs] at h1
      omega
theorem Kn.fit {y y1 y0 u c t v q r : Nat} (K : Kn y y1 y0 u c t v) (hs : u = q * y1 + r) (h : q * y0 ≤ 4294967296 * r + c) : q ≤ t := by
  have h1 := K.hd
  have h3 : q * y = q * y1 * 4294967296 + q * y0 := by rw [K.hy]; grind
  by_cases g : q ≤ t
  · exact g
  · exfalso
    have h2 : (t + 1) * y ≤ q * y := Nat.mul_le_mul_right _ (by omega)
    have h4 := K.hv
    rw [hs] at h1
    rw [Nat.add_mul, Nat.one_mul] at h2
    omega
theorem Kn.start {y y1 y0 u c t v : Nat} (K : Kn y y1 y0 u c t v) : t ≤ u / y1 ∧ u / y1 ≤ 4294967297 ∧ u % y1 < 4294967296 ∧ u = u / y1 * y1 + u % y1 := by
  have h1 := K.h1; have h2 := K.h2; have h0 := K.h0; have hu := K.hu; have hy := K.hy; have hd := K.hd; have hc := K.hc
  have hm := Nat.mod_lt u (show 0 < y1 by omega)
  refine ⟨?_, ?_, by omega, by rw [Nat.mul_comm]; exact (Nat.div_add_mod u y1).symm⟩
  · rw [Nat.le_div_iff_mul_le (by omega)]
    have h3 : t * y = t * y1 * 4294967296 + t * y0 := by rw [hy]; grind
    omega
  · have : u / y1 < 4294967298 := by rw [Nat.div_lt_iff_lt_mul (by omega)]; omega
    omega
theorem Kn.mul_ok {y y1 y0 u c t v q : Nat} (K : Kn y y1 y0 u c t v) (hq : q ≤ 4294967297) : q * y0 < 18446744073709551616 := by
  have h0 := K.h0
  have : q * y0 ≤ 4294967297 * 4294967295 := Nat.mul_le_mul hq (by omega)
  omega
theorem wnat {n : Nat} (h : n < 18446744073709551616) : IntKind.u64.wrap (n : Int) = (n : Int) := wu64 (by omega) (by omega)
theorem Dv_l0 {y y1 y0 u c t v : Nat} (K : Kn y y1 y0 u c t v) (s u0 : Int) (res : Int × Int) (J : Ev (fun k => bits_Div64q.j2 k (y : Int) s (y1 : Int) (y0 : Int) (u : Int) (c : Int) u0 (t : Int)) res) :
    ∀ (n q r : Nat), q = t + n → q ≤ 4294967297 → r < 4294967296 → u = q * y1 + r →
      Ev (fun k => bits_Div64q.l0 k (y : Int) s (y1 : Int) (y0 : Int) (u : Int) (c : Int) u0 (q : Int) (r : Int)) res := by
  have h1 := K.h1; have h2 := K.h2; have h0 := K.h0; have hc := K.hc
  intro n
  induction n with
  | zero =>
    intro q r hq hq2 hr hs
    have hmul := K.mul_ok hq2
    have nc : ¬ (4294967296 ≤ q ∨ 4294967296 * r + c < q * y0) := fun h => by have := K.too hs h; omega
    have m1 : IntKind.u64.wrap ((q : Int) * (y0 : Int)) = ((q * y0 : Nat) : Int) := by rw [← Int.natCast_mul]; exact wnat hmul
    have m2 : IntKind.u64.wrap (4294967296 * (r : Int)) = ((4294967296 * r : Nat) : Int) := by rw [wu64 (by omega) (by omega)]; omega
    have m3 : IntKind.u64.wrap (((4294967296 * r : Nat) : Int) + (c : Int)) = ((4294967296 * r + c : Nat) : Int) := by rw [wu64 (by omega) (by omega)]; omega
    refine Ev.next ?_
    simp only [bits_Div64q.l0]
    rw [m1, m2, m3, decide_eq_false (show ¬ (((q * y0 : Nat) : Int) > ((4294967296 * r + c : Nat) : Int)) by omega)]
    refine Ev.congr (fun k => by rw [if_neg (show ¬ (q : Int) ≥ 4294967296 by omega)]) ?_
    refine Ev.next ?_
    simp only [bits_Div64q.j1]
    have e : q = t := by omega
    rw [e]
    exact Ev.congr (fun k => by rw [if_neg (by simp)]) J
  | succ n ih =>
    intro q r hq hq2 hr hs
    have hmul := K.mul_ok hq2
    have cc : 4294967296 ≤ q ∨ 4294967296 * r + c < q * y0 := by
      by_cases h : 4294967296 * r + c < q * y0
      · exact .inr h
      · have := K.fit hs (by omega); omega
    have m1 : IntKind.u64.wrap ((q : Int) * (y0 : Int)) = ((q * y0 : Nat) : Int) := by rw [← Int.natCast_mul]; exact wnat hmul
    have m2 : IntKind.u64.wrap (4294967296 * (r : Int)) = ((4294967296 * r : Nat) : Int) := by rw [wu64 (by omega) (by omega)]; omega
    have m3 : IntKind.u64.wrap (((4294967296 * r : Nat) : Int) + (c : Int)) = ((4294967296 * r + c : Nat) : Int) := by rw [wu64 (by omega) (by omega)]; omega
    have m4 : IntKind.u64.wrap ((r : Int) + (y1 : Int)) = ((r + y1 : Nat) : Int) := by rw [wu64 (by omega) (by omega)]; omega
    have m5 : IntKind.u64.wrap ((q : Int) - 1) = ((q - 1 : Nat) : Int) := by rw [wu64 (by omega) (by omega)]; omega
    have hs2 : u = (q - 1) * y1 + (r + y1) := by
      have : q * y1 = (q - 1) * y1 + y1 := by
        obtain ⟨p, rfl⟩ : ∃ p, q = p + 1 := ⟨q - 1, by omega⟩
        rw [Nat.add_sub_cancel, Nat.add_mul, Nat.one_mul]
      omega
    have B : Ev (fun k => bits_Div64q.j1 k (y : Int) s (y1 : Int) (y0 : Int) (u : Int) (c : Int) u0 (q : Int) (r : Int) true) res := by
      refine Ev.next ?_
      simp only [bits_Div64q.j1]
      rw [m4, m5]
      by_cases g : 4294967296 ≤ r + y1
      · have hm : (q - 1) * y0 ≤ 4294967296 * 4294967296 := Nat.mul_le_mul (by omega) (by omega)
        have := K.fit hs2 (by omega)
        have e : q - 1 = t := by omega
        rw [e]
        exact Ev.congr (fun k => by rw [if_pos trivial, if_pos (by omega)]) J
      · exact Ev.congr (fun k => by rw [if_pos trivial, if_neg (by omega)]) (ih (q - 1) (r + y1) (by omega) (by omega) (by omega) hs2)
    refine Ev.next ?_
    simp only [bits_Div64q.l0]
    rw [m1, m2, m3]
    by_cases g : 4294967296 ≤ q
    · exact Ev.congr (fun k => by rw [if_pos (by omega)]) B
    · have g2 : 4294967296 * r + c < q * y0 := by rcases cc with h | h; exact absurd h g; exact h
      rw [decide_eq_true (show ((q * y0 : Nat) : Int) > ((4294967296 * r + c : Nat) : Int) by omega)]
      exact Ev.congr (fun k => by rw [if_neg (by omega)]) B
theorem Dv_l1 {y y1 y0 u c t v : Nat} (K : Kn y y1 y0 u c t v) (s : Nat) (q1 : Nat) (hs64 : s ≤ 64) (hy : y < 18446744073709551616) (hq1 : q1 < 4294967296) :
    ∀ (n q r : Nat), q = t + n → q ≤ 4294967297 → r < 4294967296 → u = q * y1 + r →
      Ev (fun k => bits_Div64q.l1 k (y : Int) (s : Int) (y1 : Int) (y0 : Int) (c : Int) (q1 : Int) (r : Int) (u : Int) (q : Int)) (((q1 * 4294967296 + t : Nat) : Int), ((v / 2 ^ s : Nat) : Int)) := by
  have h1 := K.h1; have h2 := K.h2; have h0 := K.h0; have hc := K.hc; have hd := K.hd; have hv := K.hv; have hu := K.hu; have htl := K.t_lt
  have f1 : IntKind.u64.wrap (IntKind.u64.wrap ((q1 : Int) * 4294967296) + (t : Int)) = ((q1 * 4294967296 + t : Nat) : Int) := by
    simp only [IntKind.wrap_u64]; omega
  have f2 : IntKind.u64.wrap (IntKind.u64.wrap (IntKind.u64.wrap ((u : Int) * 4294967296) + (c : Int)) - IntKind.u64.wrap ((t : Int) * (y : Int))) = (v : Int) := by
    rw [← Int.natCast_mul t y]
    obtain ⟨p, hp⟩ : ∃ p, t * y = p := ⟨_, rfl⟩
    rw [hp] at hd ⊢
    simp only [IntKind.wrap_u64]; omega
  have f3 : shr .u64 (v : Int) (s : Int) = ((v / 2 ^ s : Nat) : Int) := shr_nat v s hs64
  intro n
  induction n with
  | zero =>
    intro q r hq hq2 hr hs
    have hmul := K.mul_ok hq2
    have nc : ¬ (4294967296 ≤ q ∨ 4294967296 * r + c < q * y0) := fun h => by have := K.too hs h; omega
    have m1 : IntKind.u64.wrap ((q : Int) * (y0 : Int)) = ((q * y0 : Nat) : Int) := by rw [← Int.natCast_mul]; exact wnat hmul
    have m2 : IntKind.u64.wrap (4294967296 * (r : Int)) = ((4294967296 * r : Nat) : Int) := by rw [wu64 (by omega) (by omega)]; omega
    have m3 : IntKind.u64.wrap (((4294967296 * r : Nat) : Int) + (c : Int)) = ((4294967296 * r + c : Nat) : Int) := by rw [wu64 (by omega) (by omega)]; omega
    refine Ev.next ?_
    simp only [bits_Div64q.l1]
    rw [m1, m2, m3, decide_eq_false (show ¬ (((q * y0 : Nat) : Int) > ((4294967296 * r + c : Nat) : Int)) by omega)]
    refine Ev.congr (fun k => by rw [if_neg (show ¬ (q : Int) ≥ 4294967296 by omega)]) ?_
    refine Ev.next ?_
    simp only [bits_Div64q.j4]
    have e : q = t := by omega
    rw [e, f1, f2, f3]
    exact Ev.congr (fun k => by rw [if_neg (by simp), if_pos (by omega)]) (Ev.now _)
  | succ n ih =>
    intro q r hq hq2 hr hs
    have hmul := K.mul_ok hq2
    have cc : 4294967296 ≤ q ∨ 4294967296 * r + c < q * y0 := by
      by_cases h : 4294967296 * r + c < q * y0
      · exact .inr h
      · have := K.fit hs (by omega); omega
    have m1 : IntKind.u64.wrap ((q : Int) * (y0 : Int)) = ((q * y0 : Nat) : Int) := by rw [← Int.natCast_mul]; exact wnat hmul
    have m2 : IntKind.u64.wrap (4294967296 * (r : Int)) = ((4294967296 * r : Nat) : Int) := by rw [wu64 (by omega) (by omega)]; omega
    have m3 : IntKind.u64.wrap (((4294967296 * r : Nat) : Int) + (c : Int)) = ((4294967296 * r + c : Nat) : Int) := by rw [wu64 (by omega) (by omega)]; omega
    have m4 : IntKind.u64.wrap ((r : Int) + (y1 : Int)) = ((r + y1 : Nat) : Int) := by rw [wu64 (by omega) (by omega)]; omega
    have m5 : IntKind.u64.wrap ((q : Int) - 1) = ((q - 1 : Nat) : Int) := by rw [wu64 (by omega) (by omega)]; omega
    have hs2 : u = (q - 1) * y1 + (r + y1) := by
      have : q * y1 = (q - 1) * y1 + y1 := by
        obtain ⟨p, rfl⟩ : ∃ p, q = p + 1 := ⟨q - 1, by omega⟩
        rw [Nat.add_sub_cancel, Nat.add_mul, Nat.one_mul]
      omega
    have B : Ev (fun k => bits_Div64q.j4 k (y : Int) (s : Int) (y1 : Int) (y0 : Int) (c : Int) (q1 : Int) (r : Int) (u : Int) (q : Int) true) (((q1 * 4294967296 + t : Nat) : Int), ((v / 2 ^ s : Nat) : Int)) := by
      refine Ev.next ?_
      simp only [bits_Div64q.j4]
      rw [m4, m5]
      by_cases g : 4294967296 ≤ r + y1
      · have hm : (q - 1) * y0 ≤ 4294967296 * 4294967296 := Nat.mul_le_mul (by omega) (by omega)
        have := K.fit hs2 (by omega)
        have e : q - 1 = t := by omega
        rw [e, f1, f2, f3]
        exact Ev.congr (fun k => by rw [if_pos trivial, if_pos (by omega), if_pos (by omega)]) (Ev.now _)
      · exact Ev.congr (fun k => by rw [if_pos trivial, if_neg (by omega)]) (ih (q - 1) (r + y1) (by omega) (by omega) (by omega) hs2)
    refine Ev.next ?_
    simp only [bits_Div64q.l1]
    rw [m1, m2, m3]
    by_cases g : 4294967296 ≤ q
    · exact Ev.congr (fun k => by rw [if_pos (by omega)]) B
    · have g2 : 4294967296 * r + c < q * y0 := by rcases cc with h | h; exact absurd h g; exact h
      rw [decide_eq_true (show ((q * y0 : Nat) : Int) > ((4294967296 * r + c : Nat) : Int) by omega)]
      exact Ev.congr (fun k => by rw [if_neg (by omega)]) B
theorem Dv_tot (u c c0 p v p2 v2 : Nat) (h1 : u * 4294967296 + c = p + v) (h2 : v * 4294967296 + c0 = p2 + v2) : (u * 4294967296 + c) * 4294967296 + c0 = p * 4294967296 + p2 + v2 := by
  rw [h1, Nat.add_mul, Nat.add_assoc, h2, Nat.add_assoc]
theorem Dv_f (y s u c c0 : Nat) (y1 y0 : Nat) (hy : y = y1 * 4294967296 + y0) (h0 : y0 < 4294967296) (h1 : 2147483648 ≤ y1) (h2 : y1 < 4294967296) (hu : u < y) (hc : c < 4294967296) (hc0 : c0 < 4294967296) (hs : s ≤ 64) :
    Ev (fun k => bits_Div64q.l0 k (y : Int) (s : Int) (y1 : Int) (y0 : Int) (u : Int) (c : Int) (c0 : Int) ((u / y1 : Nat) : Int) ((u % y1 : Nat) : Int))
      ((((u * 4294967296 + c) * 4294967296 + c0) / y : Nat), ((((u * 4294967296 + c) * 4294967296 + c0) % y / 2 ^ s : Nat) : Int)) := by
  have y0' : 0 < y := by omega
  have K : Kn y y1 y0 u c ((u * 4294967296 + c) / y) ((u * 4294967296 + c) % y) :=
    ⟨hy, h0, h1, h2, hu, hc, (Nat.div_add_mod' _ _).symm, Nat.mod_lt _ y0'⟩
  obtain ⟨t, ht⟩ : ∃ t, (u * 4294967296 + c) / y = t := ⟨_, rfl⟩
  obtain ⟨v, hv⟩ : ∃ v, (u * 4294967296 + c) % y = v := ⟨_, rfl⟩
  rw [ht, hv] at K
  have K2 : Kn y y1 y0 v c0 ((v * 4294967296 + c0) / y) ((v * 4294967296 + c0) % y) :=
    ⟨hy, h0, h1, h2, K.hv, hc0, (Nat.div_add_mod' _ _).symm, Nat.mod_lt _ y0'⟩
  obtain ⟨t2, ht2⟩ : ∃ t, (v * 4294967296 + c0) / y = t := ⟨_, rfl⟩
  obtain ⟨v2, hv2⟩ : ∃ v', (v * 4294967296 + c0) % y = v' := ⟨_, rfl⟩
  rw [ht2, hv2] at K2
  have hd := K.hd
  have hd2 := K2.hd
  have hv3 := K2.hv
  have hv1 := K.hv
  have tl := K.t_lt
  have tl2 := K2.t_lt
  have S := K.start
  have S2 := K2.start
  have total : (u * 4294967296 + c) * 4294967296 + c0 = (t * 4294967296 + t2) * y + v2 := by
    have e : (t * 4294967296 + t2) * y = t * y * 4294967296 + t2 * y := by rw [Nat.add_mul (t * 4294967296) t2 y, Nat.mul_right_comm t 4294967296 y]
    rw [e]
    exact Dv_tot u c c0 (t * y) v (t2 * y) v2 hd hd2
  have q_ok : ((u * 4294967296 + c) * 4294967296 + c0) / y = t * 4294967296 + t2 := by
    rw [total, Nat.add_comm, Nat.add_mul_div_right _ _ y0', Nat.div_eq_of_lt hv3, Nat.zero_add]
  have r_ok : ((u * 4294967296 + c) * 4294967296 + c0) % y = v2 := by
    rw [total, Nat.add_comm, Nat.add_mul_mod_self_right, Nat.mod_eq_of_lt hv3]
  rw [q_ok, r_ok]
  have L1 := Dv_l1 K2 s t hs (by omega) tl (v / y1 - t2) (v / y1) (v % y1) (by omega) S2.2.1 S2.2.2.1 S2.2.2.2
  have un : IntKind.u64.wrap (IntKind.u64.wrap (IntKind.u64.wrap ((u : Int) * 4294967296) + (c : Int)) - IntKind.u64.wrap ((t : Int) * (y : Int))) = (v : Int) := by
    rw [← Int.natCast_mul t y]
    obtain ⟨p, hp⟩ : ∃ p, t * y = p := ⟨_, rfl⟩
    rw [hp] at hd ⊢
    simp only [IntKind.wrap_u64]; omega
  have qd : IntKind.u64.wrap (Int.tdiv (v : Int) (y1 : Int)) = ((v / y1 : Nat) : Int) := by
    rw [Int.ofNat_tdiv]; exact wnat (by have := Nat.div_le_self v y1; omega)
  have rd : IntKind.u64.wrap ((v : Int) - IntKind.u64.wrap (((v / y1 : Nat) : Int) * (y1 : Int))) = ((v % y1 : Nat) : Int) := by
    rw [← Int.natCast_mul]
    have e := S2.2.2.2
    obtain ⟨p, hp⟩ : ∃ p, v / y1 * y1 = p := ⟨_, rfl⟩
    rw [hp] at e ⊢
    simp only [IntKind.wrap_u64]; omega
  have J : Ev (fun k => bits_Div64q.j2 k (y : Int) (s : Int) (y1 : Int) (y0 : Int) (u : Int) (c : Int) (c0 : Int) (t : Int)) (((t * 4294967296 + t2 : Nat) : Int), ((v2 / 2 ^ s : Nat) : Int)) := by
    refine Ev.next ?_
    simp only [bits_Div64q.j2]
    rw [un, qd, rd]
    exact Ev.congr (fun k => by rw [if_neg (by omega)]) L1
  exact Dv_l0 K (s : Int) (c0 : Int) _ J (u / y1 - t) (u / y1) (u % y1) (by omega) S.2.1 S.2.2.1 S.2.2.2
theorem Div64_ev (a0 a1 a2 : Nat) (h1 : a1 < 18446744073709551616) (h2 : a0 < a2) (h3 : a2 < 18446744073709551616) :
    Ev (fun k => bits_Div64q.f k (a0 : Int) (a1 : Int) (a2 : Int)) (((a0 * 18446744073709551616 + a1) / a2 : Nat), ((a0 * 18446744073709551616 + a1) % a2 : Nat)) := by
  unfold bits_Div64q.f
  by_cases z : a0 = 0
  · subst z
    rw [Nat.zero_mul, Nat.zero_add]
    have e1 : IntKind.u64.wrap (Int.tdiv (a1 : Int) (a2 : Int)) = ((a1 / a2 : Nat) : Int) := by
      rw [Int.ofNat_tdiv]; exact wnat (by have := Nat.div_le_self a1 a2; omega)
    have e2 : Int.tmod (a1 : Int) (a2 : Int) = ((a1 % a2 : Nat) : Int) := (Int.ofNat_tmod a1 a2).symm
    rw [e1, e2]
    exact Ev.congr (fun k => by rw [if_pos (by omega), if_neg (by omega)]) (Ev.now _)
  have bd := Lib.bitLenAux_bounds 64 a2 (by omega) (by omega)
  obtain ⟨L, hL⟩ : ∃ L, Lib.bitLenAux 64 a2 = L := ⟨_, rfl⟩
  rw [hL] at bd
  have hLZ : bits_LeadingZeros64.f (a2 : Int) = some (((64 - L : Nat)) : Int) := by
    unfold bits_LeadingZeros64.f
    rw [if_pos (by omega), Int.toNat_natCast]
    congr 1
    show (64 : Int) - (Lib.bitLenAux 64 a2 : Nat) = _
    rw [hL]
    have : L ≤ 64 := by
      by_cases g : L ≤ 64
      · exact g
      · have : 2 ^ 64 ≤ 2 ^ (L - 1) := pow_le (by omega)
        omega
    omega
  have hL64 : L ≤ 64 := by
    by_cases g : L ≤ 64
    · exact g
    · have : 2 ^ 64 ≤ 2 ^ (L - 1) := pow_le (by omega)
      omega
  obtain ⟨s, hs⟩ : ∃ s, 64 - L = s := ⟨_, rfl⟩
  rw [hs] at hLZ
  have ps := two_pos s
  have pL : 2 ^ L * 2 ^ s = 18446744073709551616 := by rw [← Nat.pow_add, show L + s = 64 by omega]
  have pL1 : 2 ^ (L - 1) * 2 ^ s = 9223372036854775808 := by rw [← Nat.pow_add, show L - 1 + s = 63 by omega]
  have hy1 : a2 * 2 ^ s < 18446744073709551616 := by rw [← pL]; exact Nat.mul_lt_mul_of_pos_right bd.2.2 ps
  have hy2 : 9223372036854775808 ≤ a2 * 2 ^ s := by rw [← pL1]; exact Nat.mul_le_mul_right _ bd.2.1
  have pS : 2 ^ (64 - s) * 2 ^ s = 18446744073709551616 := by rw [← Nat.pow_add, show 64 - s + s = 64 by omega]
  have hs63 : s ≤ 63 := by omega
  have lohi : a1 / 2 ^ (64 - s) < 2 ^ s := by rw [Nat.div_lt_iff_lt_mul (two_pos _), Nat.mul_comm, pS]; exact h1
  have hhi : (a0 + 1) * 2 ^ s ≤ a2 * 2 ^ s := Nat.mul_le_mul_right _ (by omega)
  rw [Nat.add_mul, Nat.one_mul] at hhi
  have ps63 : 2 ^ s ≤ 2 ^ 63 := pow_le hs63
  have w1 : IntKind.u64.wrap (s : Int) = (s : Int) := wu64 (by omega) (by omega)
  have w2 : IntKind.u64.wrap (64 - (s : Int)) = ((64 - s : Nat) : Int) := by rw [wu64 (by omega) (by omega)]; omega
  have e1 : shl .u64 (a2 : Int) (s : Int) = ((a2 * 2 ^ s : Nat) : Int) := by rw [shl_nat a2 s (by omega), Nat.mod_eq_of_lt hy1]
  have e2 : shl .u64 (a0 : Int) (s : Int) = ((a0 * 2 ^ s : Nat) : Int) := by rw [shl_nat a0 s (by omega), Nat.mod_eq_of_lt (by omega)]
  have e3 : shr .u64 (a1 : Int) ((64 - s : Nat) : Int) = ((a1 / 2 ^ (64 - s) : Nat) : Int) := shr_nat a1 (64 - s) (by omega)
  have e4 : shl .u64 (a1 : Int) (s : Int) = ((a1 * 2 ^ s % 18446744073709551616 : Nat) : Int) := shl_nat a1 s (by omega)
  have e5 : bits .or .u64 ((a0 * 2 ^ s : Nat) : Int) ((a1 / 2 ^ (64 - s) : Nat) : Int) = ((a0 * 2 ^ s + a1 / 2 ^ (64 - s) : Nat) : Int) :=
    or_join _ _ s (by omega) lohi (by simp) (by omega)
  have lowp : a1 * 2 ^ s = a1 / 2 ^ (64 - s) * 18446744073709551616 + a1 * 2 ^ s % 18446744073709551616 := by
    have : a1 * 2 ^ s / 18446744073709551616 = a1 / 2 ^ (64 - s) := by rw [← pS]; exact Nat.mul_div_mul_right _ _ ps
    rw [← this]; exact (Nat.div_add_mod' _ _).symm
  have D1 : (a0 * 18446744073709551616 + a1) / a2 = (a0 * 18446744073709551616 + a1) * 2 ^ s / (a2 * 2 ^ s) := (Nat.mul_div_mul_right _ _ ps).symm
  have D2 : (a0 * 18446744073709551616 + a1) % a2 = (a0 * 18446744073709551616 + a1) * 2 ^ s % (a2 * 2 ^ s) / 2 ^ s := by
    rw [Nat.mul_mod_mul_right, Nat.mul_div_cancel _ ps]
  rw [D1, D2]
  rw [Nat.add_mul, Nat.mul_right_comm]
  obtain ⟨A0, hA0⟩ : ∃ x, a0 * 2 ^ s = x := ⟨_, rfl⟩
  obtain ⟨H, hH⟩ : ∃ x, a1 / 2 ^ (64 - s) = x := ⟨_, rfl⟩
  obtain ⟨Y, hY⟩ : ∃ x, a2 * 2 ^ s = x := ⟨_, rfl⟩
  obtain ⟨A1, hA1⟩ : ∃ x, a1 * 2 ^ s = x := ⟨_, rfl⟩
  obtain ⟨M, hM⟩ : ∃ x, A1 % 18446744073709551616 = x := ⟨_, rfl⟩
  rw [hA0, hA1, hY]
  rw [hA1, hM, hH] at lowp
  rw [hA0] at hhi e2 e5
  rw [hH] at lohi e3 e5
  rw [hY] at hy1 hy2 hhi e1
  rw [hA1, hM] at e4
  have hM64 : M < 18446744073709551616 := by omega
  have tot : A0 * 18446744073709551616 + A1 = ((A0 + H) * 4294967296 + M / 4294967296) * 4294967296 + M % 4294967296 := by omega
  have m32 : bits .and .u64 (Y : Int) 4294967295 = ((Y % 4294967296 : Nat) : Int) := and_mask Y 32 hy1 (by decide)
  have m32' : bits .and .u64 (M : Int) 4294967295 = ((M % 4294967296 : Nat) : Int) := and_mask M 32 hM64 (by decide)
  have dY : (Y : Int) / 4294967296 = ((Y / 4294967296 : Nat) : Int) := by omega
  have dM : (M : Int) / 4294967296 = ((M / 4294967296 : Nat) : Int) := by omega
  obtain ⟨y1, hy⟩ : ∃ x, Y / 4294967296 = x := ⟨_, rfl⟩
  obtain ⟨u, hu⟩ : ∃ x, A0 + H = x := ⟨_, rfl⟩
  have hy1b : 2147483648 ≤ y1 := by omega
  have hu64 : u < Y := by omega
  have qd : IntKind.u64.wrap (Int.tdiv (u : Int) (y1 : Int)) = ((u / y1 : Nat) : Int) := by
    rw [Int.ofNat_tdiv]; exact wnat (by have := Nat.div_le_self u y1; omega)
  have rd : IntKind.u64.wrap ((u : Int) - IntKind.u64.wrap (((u / y1 : Nat) : Int) * (y1 : Int))) = ((u % y1 : Nat) : Int) := by
    rw [← Int.natCast_mul]
    have e := (Nat.div_add_mod' u y1).symm
    obtain ⟨p, hp⟩ : ∃ p, u / y1 * y1 = p := ⟨_, rfl⟩
    rw [hp] at e ⊢
    have := Nat.mod_lt u (show 0 < y1 by omega)
    simp only [IntKind.wrap_u64]; omega
  have F := Dv_f Y s u (M / 4294967296) (M % 4294967296) y1 (Y % 4294967296) (by omega) (by omega) hy1b (by omega) hu64 (by omega) (by omega) (by omega)
  rw [hu] at tot e5
  rw [hy] at dY
  rw [tot]
  refine Ev.congr (fun k => by rw [if_neg (by omega)]) ?_
  refine Ev.b _ (Ev.const hLZ) ?_
  rw [w1, w2, e1, e2, e3, e4, e5, m32, m32', dY, dM, qd, rd]
  exact Ev.congr (fun k => by rw [if_pos (by omega), if_pos (by omega), if_neg (by omega)]) F
theorem Dv64_ok (a0 a1 a2 : Int) (h : 0 ≤ a0 ∧ 0 ≤ a1 ∧ a1 < 18446744073709551616 ∧ a0 < a2 ∧ a2 < 18446744073709551616) :
    ∃ k, bits_Div64q.f k a0 a1 a2 = some ((a0 * 18446744073709551616 + a1) / a2, (a0 * 18446744073709551616 + a1) % a2) := by
  obtain ⟨h1, h2, h3, h4, h5⟩ := h
  obtain ⟨x, rfl⟩ := Int.eq_ofNat_of_zero_le h1
  obtain ⟨y, rfl⟩ := Int.eq_ofNat_of_zero_le h2
  obtain ⟨z, rfl⟩ := Int.eq_ofNat_of_zero_le (show 0 ≤ a2 by omega)
  obtain ⟨k, hk⟩ := Div64_ev x y z (by omega) (by omega) (by omega)
  refine ⟨k, (hk k (Nat.le_refl _)).trans ?_⟩
  rw [Int.natCast_ediv, Int.natCast_emod, Int.natCast_add, Int.natCast_mul]
  rfl
end Go.Proofs.Ytmadjhmecfbcmaa.M
end
section
namespace Go.Proofs.Ytmadjhmecfbcmaa.F
open Go.RowKit Go.Proofs.YtmadjhmecfbcmaaW.PrintWords Go.Proofs.YtmadjhmecfbcmaaW.PrintLast Go.Proofs.YtmadjhmecfbcmaaW.PrintMore
attribute [local go_sem] max2_int min2_int max_two min_two max_three min_three max_four min_four
set_option linter.unusedVariables false
set_option linter.unusedSimpArgs false
set_option maxHeartbeats 8000000 in
set_option maxRecDepth 100000 in
theorem bits_Div64q.walk (k : Nat) (a0 : Int) (a1 : Int) (a2 : Int) (r1 : Int) (r2 : Int) (w : World) (c00b0 : (a2 == 0) = false) (c01b0 : decide (a2 ≤ a0) = false) (h : bits_Div64q.f k a0 a1 a2 = some (r1, r2)) :
  Calls Try.prog 162 #[.int .u64 a0, .int .u64 a1, .int .u64 a2] w fun e w' => e = .returned (.tuple #[.int .u64 r1, .int .u64 r2]) ∧ Drawn0 w w' := by
 have H : (if a0 = 0 then (if a2 = 0 then (none) else (some (IntKind.u64.wrap (Int.tdiv a1 a2), Int.tmod a1 a2))) else ((bits_LeadingZeros64.f a2).bind fun t256 => (if 0 ≤ (IntKind.u64.wrap (t256)) then (if 0 ≤ (IntKind.u64.wrap (64 - (IntKind.u64.wrap (t256)))) then (if ((shl .u64 a2 (IntKind.u64.wrap (t256))) / 4294967296) = 0 then (none) else (bits_Div64q.l0 k (shl .u64 a2 (IntKind.u64.wrap (t256))) (IntKind.u64.wrap (t256)) ((shl .u64 a2 (IntKind.u64.wrap (t256))) / 4294967296) (Go.bits .and .u64 (shl .u64 a2 (IntKind.u64.wrap (t256))) 4294967295) (Go.bits .or .u64 (shl .u64 a0 (IntKind.u64.wrap (t256))) (shr .u64 a1 (IntKind.u64.wrap (64 - (IntKind.u64.wrap (t256)))))) ((shl .u64 a1 (IntKind.u64.wrap (t256))) / 4294967296) (Go.bits .and .u64 (shl .u64 a1 (IntKind.u64.wrap (t256))) 4294967295) (IntKind.u64.wrap (Int.tdiv (Go.bits .or .u64 (shl .u64 a0 (IntKind.u64.wrap (t256))) (shr .u64 a1 (IntKind.u64.wrap (64 - (IntKind.u64.wrap (t256)))))) ((shl .u64 a2 (IntKind.u64.wrap (t256))) / 4294967296))) (IntKind.u64.wrap ((Go.bits .or .u64 (shl .u64 a0 (IntKind.u64.wrap (t256))) (shr .u64 a1 (IntKind.u64.wrap (64 - (IntKind.u64.wrap (t256)))))) - (IntKind.u64.wrap ((IntKind.u64.wrap (Int.tdiv (Go.bits .or .u64 (shl .u64 a0 (IntKind.u64.wrap (t256))) (shr .u64 a1 (IntKind.u64.wrap (64 - (IntKind.u64.wrap (t256)))))) ((shl .u64 a2 (IntKind.u64.wrap (t256))) / 4294967296))) * ((shl .u64 a2 (IntKind.u64.wrap (t256))) / 4294967296))))))) else (none)) else (none)))) = some (r1, r2) := h
 clear h
 by_cases c4 : a0 = 0
 ·rw [if_pos c4] at H
  have c4b0 : (a0 == 0) = true := beq_iff_eq.mpr c4
  have c4b1 : (a0 != 0) = false := bne_eq_false_iff_eq.mpr c4
  clear c4
  by_cases c5 : a2 = 0
  ·rw [if_pos c5] at H
   exact absurd H (by simp)
  ·rw [if_neg c5] at H
   have c5b0 : (a2 == 0) = false := beq_eq_false_iff_ne.mpr c5
   have c5b1 : (a2 != 0) = true := bne_iff_ne.mpr c5
   simp only [Option.some.injEq, Prod.mk.injEq] at H
   obtain ⟨rfl, rfl⟩ := H
   go_enter Try.func162, Try.ntmps162
   go_wp2
   repeat (go_quiet (fail); try go_wp2)
   go_ret2
   exact ⟨by first | rfl | (simp; done) | (simp [*]; done), by repeat (first | exact Drawn0.refl _ | apply Drawn0.step)⟩
 ·rw [if_neg c4] at H
  have c4b0 : (a0 == 0) = false := beq_eq_false_iff_ne.mpr c4
  have c4b1 : (a0 != 0) = true := bne_iff_ne.mpr c4
  obtain ⟨t256, A6, H⟩ := zbs H
  try dsimp only at H
  obtain ⟨ji7, hji7⟩ : ∃ j_ : Int, (IntKind.u64.wrap (t256)) = j_ := ⟨_, rfl⟩
  replace H : (if 0 ≤ (ji7) then (if 0 ≤ (IntKind.u64.wrap (64 - (ji7))) then (if ((shl .u64 a2 (ji7)) / 4294967296) = 0 then (none) else (bits_Div64q.l0 k (shl .u64 a2 (ji7)) ji7 ((shl .u64 a2 (ji7)) / 4294967296) (Go.bits .and .u64 (shl .u64 a2 (ji7)) 4294967295) (Go.bits .or .u64 (shl .u64 a0 (ji7)) (shr .u64 a1 (IntKind.u64.wrap (64 - (ji7))))) ((shl .u64 a1 (ji7)) / 4294967296) (Go.bits .and .u64 (shl .u64 a1 (ji7)) 4294967295) (IntKind.u64.wrap (Int.tdiv (Go.bits .or .u64 (shl .u64 a0 (ji7)) (shr .u64 a1 (IntKind.u64.wrap (64 - (ji7))))) ((shl .u64 a2 (ji7)) / 4294967296))) (IntKind.u64.wrap ((Go.bits .or .u64 (shl .u64 a0 (ji7)) (shr .u64 a1 (IntKind.u64.wrap (64 - (ji7))))) - (IntKind.u64.wrap ((IntKind.u64.wrap (Int.tdiv (Go.bits .or .u64 (shl .u64 a0 (ji7)) (shr .u64 a1 (IntKind.u64.wrap (64 - (ji7))))) ((shl .u64 a2 (ji7)) / 4294967296))) * ((shl .u64 a2 (ji7)) / 4294967296))))))) else (none)) else (none)) = some (r1, r2) := by first | (rw [hji7] at H; exact H) | (simp only [hji7] at H ⊢; exact H)
  (try rw [hji7] at A6)
  by_cases c8 : 0 ≤ (ji7)
  ·rw [if_pos c8] at H
   have c8b0 := eq_true c8
   have c8b1 : decide (0 ≤ (ji7)) = true := decide_eq_true c8
   clear c8
   obtain ⟨ji9, hji9⟩ : ∃ j_ : Int, (shl .u64 a2 (ji7)) = j_ := ⟨_, rfl⟩
   replace H : (if 0 ≤ (IntKind.u64.wrap (64 - (ji7))) then (if ((ji9) / 4294967296) = 0 then (none) else (bits_Div64q.l0 k ji9 ji7 ((ji9) / 4294967296) (Go.bits .and .u64 (ji9) 4294967295) (Go.bits .or .u64 (shl .u64 a0 (ji7)) (shr .u64 a1 (IntKind.u64.wrap (64 - (ji7))))) ((shl .u64 a1 (ji7)) / 4294967296) (Go.bits .and .u64 (shl .u64 a1 (ji7)) 4294967295) (IntKind.u64.wrap (Int.tdiv (Go.bits .or .u64 (shl .u64 a0 (ji7)) (shr .u64 a1 (IntKind.u64.wrap (64 - (ji7))))) ((ji9) / 4294967296))) (IntKind.u64.wrap ((Go.bits .or .u64 (shl .u64 a0 (ji7)) (shr .u64 a1 (IntKind.u64.wrap (64 - (ji7))))) - (IntKind.u64.wrap ((IntKind.u64.wrap (Int.tdiv (Go.bits .or .u64 (shl .u64 a0 (ji7)) (shr .u64 a1 (IntKind.u64.wrap (64 - (ji7))))) ((ji9) / 4294967296))) * ((ji9) / 4294967296))))))) else (none)) = some (r1, r2) := by first | (rw [hji9] at H; exact H) | (simp only [hji9] at H ⊢; exact H)
   (try rw [hji9] at A6)
   have hji9_ : (IntKind.u64.wrap (a2 * 2 ^ min (ji7).toNat 64)) = ji9 := hji9
   have hji9z : (ji7) ≤ 64 → (IntKind.u64.wrap (a2 * 2 ^ (ji7).toNat)) = ji9 := shl_small hji9
   have c10b0 := eq_true (of_decide_eq_true (by first | (with_reducible assumption) | assumption) : 0 ≤ (ji7))
   obtain ⟨ji11, hji11⟩ : ∃ j_ : Int, (shl .u64 a0 (ji7)) = j_ := ⟨_, rfl⟩
   replace H : (if 0 ≤ (IntKind.u64.wrap (64 - (ji7))) then (if ((ji9) / 4294967296) = 0 then (none) else (bits_Div64q.l0 k ji9 ji7 ((ji9) / 4294967296) (Go.bits .and .u64 (ji9) 4294967295) (Go.bits .or .u64 (ji11) (shr .u64 a1 (IntKind.u64.wrap (64 - (ji7))))) ((shl .u64 a1 (ji7)) / 4294967296) (Go.bits .and .u64 (shl .u64 a1 (ji7)) 4294967295) (IntKind.u64.wrap (Int.tdiv (Go.bits .or .u64 (ji11) (shr .u64 a1 (IntKind.u64.wrap (64 - (ji7))))) ((ji9) / 4294967296))) (IntKind.u64.wrap ((Go.bits .or .u64 (ji11) (shr .u64 a1 (IntKind.u64.wrap (64 - (ji7))))) - (IntKind.u64.wrap ((IntKind.u64.wrap (Int.tdiv (Go.bits .or .u64 (ji11) (shr .u64 a1 (IntKind.u64.wrap (64 - (ji7))))) ((ji9) / 4294967296))) * ((ji9) / 4294967296))))))) else (none)) = some (r1, r2) := by first | (rw [hji11] at H; exact H) | (simp only [hji11] at H ⊢; exact H)
   (try rw [hji11] at A6)
   have hji11_ : (IntKind.u64.wrap (a0 * 2 ^ min (ji7).toNat 64)) = ji11 := hji11
   have hji11z : (ji7) ≤ 64 → (IntKind.u64.wrap (a0 * 2 ^ (ji7).toNat)) = ji11 := shl_small hji11
   obtain ⟨ji12, hji12⟩ : ∃ j_ : Int, (IntKind.u64.wrap (64 - (ji7))) = j_ := ⟨_, rfl⟩
   replace H : (if 0 ≤ (ji12) then (if ((ji9) / 4294967296) = 0 then (none) else (bits_Div64q.l0 k ji9 ji7 ((ji9) / 4294967296) (Go.bits .and .u64 (ji9) 4294967295) (Go.bits .or .u64 (ji11) (shr .u64 a1 (ji12))) ((shl .u64 a1 (ji7)) / 4294967296) (Go.bits .and .u64 (shl .u64 a1 (ji7)) 4294967295) (IntKind.u64.wrap (Int.tdiv (Go.bits .or .u64 (ji11) (shr .u64 a1 (ji12))) ((ji9) / 4294967296))) (IntKind.u64.wrap ((Go.bits .or .u64 (ji11) (shr .u64 a1 (ji12))) - (IntKind.u64.wrap ((IntKind.u64.wrap (Int.tdiv (Go.bits .or .u64 (ji11) (shr .u64 a1 (ji12))) ((ji9) / 4294967296))) * ((ji9) / 4294967296))))))) else (none)) = some (r1, r2) := by first | (rw [hji12] at H; exact H) | (simp only [hji12] at H ⊢; exact H)
   (try rw [hji12] at A6)
   by_cases c13 : 0 ≤ (ji12)
   ·rw [if_pos c13] at H
    have c13b0 := eq_true c13
    have c13b1 : decide (0 ≤ (ji12)) = true := decide_eq_true c13
    clear c13
    obtain ⟨ji14, hji14⟩ : ∃ j_ : Int, (shr .u64 a1 (ji12)) = j_ := ⟨_, rfl⟩
    replace H : (if ((ji9) / 4294967296) = 0 then (none) else (bits_Div64q.l0 k ji9 ji7 ((ji9) / 4294967296) (Go.bits .and .u64 (ji9) 4294967295) (Go.bits .or .u64 (ji11) (ji14)) ((shl .u64 a1 (ji7)) / 4294967296) (Go.bits .and .u64 (shl .u64 a1 (ji7)) 4294967295) (IntKind.u64.wrap (Int.tdiv (Go.bits .or .u64 (ji11) (ji14)) ((ji9) / 4294967296))) (IntKind.u64.wrap ((Go.bits .or .u64 (ji11) (ji14)) - (IntKind.u64.wrap ((IntKind.u64.wrap (Int.tdiv (Go.bits .or .u64 (ji11) (ji14)) ((ji9) / 4294967296))) * ((ji9) / 4294967296))))))) = some (r1, r2) := by first | (rw [hji14] at H; exact H) | (simp only [hji14] at H ⊢; exact H)
    (try rw [hji14] at A6)
    have hji14_ : (a1 / 2 ^ min (ji12).toNat 64) = ji14 := hji14
    have hji14z : (ji12) ≤ 64 → (a1 / 2 ^ (ji12).toNat) = ji14 := shr_small hji14
    have c15b0 := eq_true (of_decide_eq_true (by first | (with_reducible assumption) | assumption) : 0 ≤ (ji7))
    obtain ⟨ji16, hji16⟩ : ∃ j_ : Int, (shl .u64 a1 (ji7)) = j_ := ⟨_, rfl⟩
    replace H : (if ((ji9) / 4294967296) = 0 then (none) else (bits_Div64q.l0 k ji9 ji7 ((ji9) / 4294967296) (Go.bits .and .u64 (ji9) 4294967295) (Go.bits .or .u64 (ji11) (ji14)) ((ji16) / 4294967296) (Go.bits .and .u64 (ji16) 4294967295) (IntKind.u64.wrap (Int.tdiv (Go.bits .or .u64 (ji11) (ji14)) ((ji9) / 4294967296))) (IntKind.u64.wrap ((Go.bits .or .u64 (ji11) (ji14)) - (IntKind.u64.wrap ((IntKind.u64.wrap (Int.tdiv (Go.bits .or .u64 (ji11) (ji14)) ((ji9) / 4294967296))) * ((ji9) / 4294967296))))))) = some (r1, r2) := by first | (rw [hji16] at H; exact H) | (simp only [hji16] at H ⊢; exact H)
    (try rw [hji16] at A6)
    have hji16_ : (IntKind.u64.wrap (a1 * 2 ^ min (ji7).toNat 64)) = ji16 := hji16
    have hji16z : (ji7) ≤ 64 → (IntKind.u64.wrap (a1 * 2 ^ (ji7).toNat)) = ji16 := shl_small hji16
    by_cases c17 : ((ji9) / 4294967296) = 0
    ·rw [if_pos c17] at H
     exact absurd H (by simp)
    ·rw [if_neg c17] at H
     have c17b0 : (((ji9) / 4294967296) == 0) = false := beq_eq_false_iff_ne.mpr c17
     have c17b1 : (((ji9) / 4294967296) != 0) = true := bne_iff_ne.mpr c17
     have HC18 := Aside0.mk H
     clear H
     go_enter Try.func162, Try.ntmps162
     go_upto_block 0 with (first | (go_at_call 186; (with_reducible refine (bits_LeadingZeros64.calls a2 t256 _ A6.out).mono ?_); rintro e w' ⟨rfl, ⟨nd, rfl⟩⟩; (try first | exact ⟨rfl, _, World.drewN_drewN _ _ _⟩ | exact ⟨rfl, _, Eq.trans (World.drewN_drewN _ _ _) (congrArg (World.drewN _) (Nat.add_assoc _ _ _))⟩)))
     repeat (go_quiet (first | (go_at_call 186; (with_reducible refine (bits_LeadingZeros64.calls a2 t256 _ A6.out).mono ?_); rintro e w' ⟨rfl, ⟨nd, rfl⟩⟩; (try first | exact ⟨rfl, _, World.drewN_drewN _ _ _⟩ | exact ⟨rfl, _, Eq.trans (World.drewN_drewN _ _ _) (congrArg (World.drewN _) (Nat.add_assoc _ _ _))⟩))); go_upto_block 0 with (first | (go_at_call 186; (with_reducible refine (bits_LeadingZeros64.calls a2 t256 _ A6.out).mono ?_); rintro e w' ⟨rfl, ⟨nd, rfl⟩⟩; (try first | exact ⟨rfl, _, World.drewN_drewN _ _ _⟩ | exact ⟨rfl, _, Eq.trans (World.drewN_drewN _ _ _) (congrArg (World.drewN _) (Nat.add_assoc _ _ _))⟩))))
     (try simp only [Act.put, List.setIfInBounds_toArray, List.set_cons_zero, List.set_cons_succ])
     go_cut [15] (fun v15 wc => ∃ (kq : Nat) (x15_17 : Int), v15 = .int .u64 x15_17 ∧ Aside0 (bits_Div64q.j2 kq ji9 ji7 ((ji9) / 4294967296) (Go.bits .and .u64 (ji9) 4294967295) (Go.bits .or .u64 (ji11) (ji14)) ((ji16) / 4294967296) (Go.bits .and .u64 (ji16) 4294967295) x15_17 = some (r1, r2)) ∧ Aside0 (kq ≤ k) ∧ Drawn0 w wc)
     case first =>
      have H := HC18.out
      clear HC18
      have H' := Aside0.mk H
      clear H
      go_wp2
      repeat (go_quiet (fail); try go_wp2)
      (try simp only [Act.put, List.setIfInBounds_toArray, List.set_cons_zero, List.set_cons_succ])
      go_loopg [15, 16] k (fun kq v15 v16 w' => ∃ (x15_1 : Int) (x16_1 : Int), v15 = .int .u64 x15_1 ∧ v16 = .int .u64 x16_1 ∧ Aside0 (bits_Div64q.l0 kq ji9 ji7 ((ji9) / 4294967296) (Go.bits .and .u64 (ji9) 4294967295) (Go.bits .or .u64 (ji11) (ji14)) ((ji16) / 4294967296) (Go.bits .and .u64 (ji16) 4294967295) x15_1 x16_1 = some (r1, r2)) ∧ Aside0 (kq ≤ k) ∧ Drawn0 w w')
      case atStart => exact ⟨(IntKind.u64.wrap (Int.tdiv (Go.bits .or .u64 (ji11) (ji14)) ((ji9) / 4294967296))), (IntKind.u64.wrap ((Go.bits .or .u64 (ji11) (ji14)) - (IntKind.u64.wrap ((IntKind.u64.wrap (Int.tdiv (Go.bits .or .u64 (ji11) (ji14)) ((ji9) / 4294967296))) * ((ji9) / 4294967296))))), (by first | rfl | (simp; done) | (simp only [← hji9, ← hji11, ← hji14] <;> (first | rfl | simp)) | (simp [*]; done)), (by first | rfl | (simp; done) | (simp only [← hji9, ← hji11, ← hji14] <;> (first | rfl | simp)) | (simp [*]; done)), H', ⟨Nat.le_refl _⟩, by repeat (first | exact Drawn0.refl _ | apply Drawn0.step)⟩
      case round =>
       clear H'
       try clear c1
       try clear p2
       try clear c4
       try clear c4b0
       try clear c4b1
       try clear c5
       try clear c5b0
       try clear c5b1
       try clear c8
       try clear c8b0
       try clear c8b1
       try clear c10
       try clear c10b0
       try clear c13
       try clear c13b0
       try clear c13b1
       try clear c15
       try clear c15b0
       try clear c16
       try clear c17
       try clear c17b0
       try clear c17b1
       obtain ⟨x15_1, x16_1, rfl, rfl, HA, HK1, ⟨m1, rfl⟩⟩ := hrel
       cases gk with
       | zero => exact absurd HA.out (by simp [bits_Div64q.l0])
       | succ k1 =>
        have H := HA.out
        clear HA
        simp only [bits_Div64q.l0] at H
        have HC19 := Aside0.mk H
        clear H
        go_upto_region 17 with (fail)
        repeat (go_quiet (fail); go_upto_region 17 with (fail))
        go_cut [78] (fun v78 wc => ∃ (kq : Nat) (x78_18 : Bool), v78 = .bool x78_18 ∧ Aside0 (bits_Div64q.j1 kq ji9 ji7 ((ji9) / 4294967296) (Go.bits .and .u64 (ji9) 4294967295) (Go.bits .or .u64 (ji11) (ji14)) ((ji16) / 4294967296) (Go.bits .and .u64 (ji16) 4294967295) x15_1 x16_1 x78_18 = some (r1, r2)) ∧ Aside0 (kq ≤ k1) ∧ Drawn0 w wc)
        case first =>
         have H := HC19.out
         clear HC19
         by_cases c20 : x15_1 ≥ 4294967296
         ·rw [if_pos c20] at H
          have c20b0 : decide (4294967296 ≤ x15_1) = true := decide_eq_true c20
          clear c20
          (first | rw [c20b0] | (simp only [i64_w, i32_w]; rw [c20b0]) | skip)
          have H' := Aside0.mk H
          clear H
          go_wp2
          repeat (go_quiet (fail); try go_wp2)
          go_meet
          case rel => exact ⟨_, (true), (by first | rfl | (simp; done) | (simp [*]; done)), H', ⟨by have := HK1.out; first | omega | exact Nat.le_refl _⟩, by repeat (first | exact Drawn0.refl _ | apply Drawn0.step)⟩
         ·rw [if_neg c20] at H
          have c20b0 : decide (4294967296 ≤ x15_1) = false := decide_eq_false c20
          clear c20
          (first | rw [c20b0] | (simp only [i64_w, i32_w]; rw [c20b0]) | skip)
          have H' := Aside0.mk H
          clear H
          go_wp2
          repeat (go_quiet (fail); try go_wp2)
          go_meet
          case rel => exact ⟨_, (decide ((IntKind.u64.wrap (x15_1 * (Go.bits .and .u64 (ji9) 4294967295))) > (IntKind.u64.wrap ((IntKind.u64.wrap (4294967296 * x16_1)) + ((ji16) / 4294967296))))), (by first | rfl | (simp; done) | (simp only [← hji9, ← hji16] <;> (first | rfl | simp)) | (simp [*]; done)), H', ⟨by have := HK1.out; first | omega | exact Nat.le_refl _⟩, by repeat (first | exact Drawn0.refl _ | apply Drawn0.step)⟩
        case rest =>
         clear HC19
         try clear c1
         try clear c2
         try clear p2
         try clear c4
         try clear c4b0
         try clear c4b1
         try clear c5
         try clear c5b0
         try clear c5b1
         try clear c8
         try clear c8b0
         try clear c8b1
         try clear c10
         try clear c10b0
         try clear c13
         try clear c13b0
         try clear c13b1
         try clear c15
         try clear c15b0
         try clear c16
         try clear c17
         try clear c17b0
         try clear c17b1
         try clear c20
         try clear c20b0
         try clear p2
         obtain ⟨kq, x78_18, rfl, HA, HJ18, ⟨mc18, rfl⟩⟩ := hcut
         cases kq with
         | zero => exact absurd HA.out (by simp [bits_Div64q.j1])
         | succ kj18 =>
          have H := HA.out
          clear HA
          simp only [bits_Div64q.j1] at H
          by_cases c21 : x78_18 = true
          ·subst c21
           have H1 : (if (IntKind.u64.wrap (x16_1 + ((ji9) / 4294967296))) ≥ 4294967296 then (bits_Div64q.j2 kj18 ji9 ji7 ((ji9) / 4294967296) (Go.bits .and .u64 (ji9) 4294967295) (Go.bits .or .u64 (ji11) (ji14)) ((ji16) / 4294967296) (Go.bits .and .u64 (ji16) 4294967295) (IntKind.u64.wrap (x15_1 - 1))) else (bits_Div64q.l0 kj18 ji9 ji7 ((ji9) / 4294967296) (Go.bits .and .u64 (ji9) 4294967295) (Go.bits .or .u64 (ji11) (ji14)) ((ji16) / 4294967296) (Go.bits .and .u64 (ji16) 4294967295) (IntKind.u64.wrap (x15_1 - 1)) (IntKind.u64.wrap (x16_1 + ((ji9) / 4294967296))))) = some (r1, r2) := by rw [if_pos rfl] at H; exact H
           clear H
           have H := H1
           clear H1
           by_cases c22 : (IntKind.u64.wrap (x16_1 + ((ji9) / 4294967296))) ≥ 4294967296
           ·rw [if_pos c22] at H
            have c22b0 : decide (4294967296 ≤ (IntKind.u64.wrap (x16_1 + ((ji9) / 4294967296)))) = true := decide_eq_true c22
            clear c22
            have H' := Aside0.mk H
            clear H
            go_wp2
            repeat (go_quiet (fail); try go_wp2)
            go_meet
            case rel => exact ⟨_, (IntKind.u64.wrap (x15_1 - 1)), (by first | rfl | (simp; done) | (simp [*]; done)), H', ⟨by have := HK1.out; have := HJ18.out; first | omega | exact Nat.le_refl _⟩, by repeat (first | exact Drawn0.refl _ | apply Drawn0.step)⟩
           ·rw [if_neg c22] at H
            have c22b0 : decide (4294967296 ≤ (IntKind.u64.wrap (x16_1 + ((ji9) / 4294967296)))) = false := decide_eq_false c22
            clear c22
            have H' := Aside0.mk H
            clear H
            go_wp2
            repeat (go_quiet (fail); try go_wp2)
            go_roundg kj18
            case measure => have := HK1.out; have := HJ18.out; omega
            case rel => exact ⟨(IntKind.u64.wrap (x15_1 - 1)), (IntKind.u64.wrap (x16_1 + ((ji9) / 4294967296))), (by first | rfl | (simp; done) | (simp [*]; done)), (by first | rfl | (simp; done) | (simp only [← hji9] <;> (first | rfl | simp)) | (simp [*]; done)), H', ⟨by have := HK1.out; have := HJ18.out; omega⟩, by repeat (first | exact Drawn0.refl _ | apply Drawn0.step)⟩
          ·replace c21 := Bool.eq_false_iff.mpr c21
           subst c21
           have H1 : (bits_Div64q.j2 kj18 ji9 ji7 ((ji9) / 4294967296) (Go.bits .and .u64 (ji9) 4294967295) (Go.bits .or .u64 (ji11) (ji14)) ((ji16) / 4294967296) (Go.bits .and .u64 (ji16) 4294967295) x15_1) = some (r1, r2) := by rw [if_neg (show ¬ (false = true) by decide)] at H; exact H
           clear H
           have H := H1
           clear H1
           have H' := Aside0.mk H
           clear H
           go_wp2
           repeat (go_quiet (fail); try go_wp2)
           go_meet
           case rel => exact ⟨_, (x15_1), (by first | rfl | (simp; done) | (simp [*]; done)), H', ⟨by have := HK1.out; have := HJ18.out; first | omega | exact Nat.le_refl _⟩, by repeat (first | exact Drawn0.refl _ | apply Drawn0.step)⟩
     case rest =>
      clear HC18
      try clear c1
      try clear c2
      try clear p2
      try clear c4
      try clear c4b0
      try clear c4b1
      try clear c5
      try clear c5b0
      try clear c5b1
      try clear c8
      try clear c8b0
      try clear c8b1
      try clear c10
      try clear c10b0
      try clear c13
      try clear c13b0
      try clear c13b1
      try clear c15
      try clear c15b0
      try clear c16
      try clear c17
      try clear c17b0
      try clear c17b1
      try clear c18
      try clear c20
      try clear c20b0
      try clear c21
      try clear c22
      try clear c22b0
      try clear p2
      obtain ⟨kq, x15_17, rfl, HA, HJ17, ⟨mc17, rfl⟩⟩ := hcut
      cases kq with
      | zero => exact absurd HA.out (by simp [bits_Div64q.j2])
      | succ kj17 =>
       have H := HA.out
       clear HA
       simp only [bits_Div64q.j2] at H
       by_cases c23 : ((ji9) / 4294967296) = 0
       ·rw [if_pos c23] at H
        exact absurd H (by simp)
       ·rw [if_neg c23] at H
        have c23b0 : (((ji9) / 4294967296) == 0) = false := beq_eq_false_iff_ne.mpr c23
        have c23b1 : (((ji9) / 4294967296) != 0) = true := bne_iff_ne.mpr c23
        have H' := Aside0.mk H
        clear H
        go_wp2
        repeat (go_quiet (fail); try go_wp2)
        (try simp only [Act.put, List.setIfInBounds_toArray, List.set_cons_zero, List.set_cons_succ])
        go_loopg [16, 18] kj17 (fun kq v16 v18 w' => ∃ (x16_2 : Int) (x18_2 : Int), v16 = .int .u64 x16_2 ∧ v18 = .int .u64 x18_2 ∧ Aside0 (bits_Div64q.l1 kq ji9 ji7 ((ji9) / 4294967296) (Go.bits .and .u64 (ji9) 4294967295) (Go.bits .and .u64 (ji16) 4294967295) x15_17 x16_2 (IntKind.u64.wrap ((IntKind.u64.wrap ((IntKind.u64.wrap ((Go.bits .or .u64 (ji11) (ji14)) * 4294967296)) + ((ji16) / 4294967296))) - (IntKind.u64.wrap (x15_17 * ji9)))) x18_2 = some (r1, r2)) ∧ Aside0 (kq ≤ kj17) ∧ Drawn0 w w')
        case atStart => exact ⟨(IntKind.u64.wrap ((IntKind.u64.wrap ((IntKind.u64.wrap ((IntKind.u64.wrap ((Go.bits .or .u64 (ji11) (ji14)) * 4294967296)) + ((ji16) / 4294967296))) - (IntKind.u64.wrap (x15_17 * ji9)))) - (IntKind.u64.wrap ((IntKind.u64.wrap (Int.tdiv (IntKind.u64.wrap ((IntKind.u64.wrap ((IntKind.u64.wrap ((Go.bits .or .u64 (ji11) (ji14)) * 4294967296)) + ((ji16) / 4294967296))) - (IntKind.u64.wrap (x15_17 * ji9)))) ((ji9) / 4294967296))) * ((ji9) / 4294967296))))), (IntKind.u64.wrap (Int.tdiv (IntKind.u64.wrap ((IntKind.u64.wrap ((IntKind.u64.wrap ((Go.bits .or .u64 (ji11) (ji14)) * 4294967296)) + ((ji16) / 4294967296))) - (IntKind.u64.wrap (x15_17 * ji9)))) ((ji9) / 4294967296))), (by first | rfl | (simp; done) | (simp only [← hji9, ← hji11, ← hji14, ← hji16] <;> (first | rfl | simp)) | (simp [*]; done)), (by first | rfl | (simp; done) | (simp only [← hji9, ← hji11, ← hji14, ← hji16] <;> (first | rfl | simp)) | (simp [*]; done)), H', ⟨Nat.le_refl _⟩, by repeat (first | exact Drawn0.refl _ | apply Drawn0.step)⟩
        case round =>
         clear H'
         try clear c1
         try clear c2
         try clear p2
         try clear c4
         try clear c4b0
         try clear c4b1
         try clear c5
         try clear c5b0
         try clear c5b1
         try clear c8
         try clear c8b0
         try clear c8b1
         try clear c10
         try clear c10b0
         try clear c13
         try clear c13b0
         try clear c13b1
         try clear c15
         try clear c15b0
         try clear c16
         try clear c17
         try clear c17b0
         try clear c17b1
         try clear c18
         try clear c20
         try clear c20b0
         try clear c21
         try clear c22
         try clear c22b0
         try clear c23
         try clear c23b0
         try clear c23b1
         try clear p2
         obtain ⟨x16_2, x18_2, rfl, rfl, HA, HK2, ⟨m2, rfl⟩⟩ := hrel
         cases gk with
         | zero => exact absurd HA.out (by simp [bits_Div64q.l1])
         | succ k2 =>
          have H := HA.out
          clear HA
          simp only [bits_Div64q.l1] at H
          have HC24 := Aside0.mk H
          clear H
          go_upto_region 24 with (fail)
          repeat (go_quiet (fail); go_upto_region 24 with (fail))
          go_cut [113] (fun v113 wc => ∃ (kq : Nat) (x113_23 : Bool), v113 = .bool x113_23 ∧ Aside0 (bits_Div64q.j4 kq ji9 ji7 ((ji9) / 4294967296) (Go.bits .and .u64 (ji9) 4294967295) (Go.bits .and .u64 (ji16) 4294967295) x15_17 x16_2 (IntKind.u64.wrap ((IntKind.u64.wrap ((IntKind.u64.wrap ((Go.bits .or .u64 (ji11) (ji14)) * 4294967296)) + ((ji16) / 4294967296))) - (IntKind.u64.wrap (x15_17 * ji9)))) x18_2 x113_23 = some (r1, r2)) ∧ Aside0 (kq ≤ k2) ∧ Drawn0 w wc)
          case first =>
           have H := HC24.out
           clear HC24
           by_cases c25 : x18_2 ≥ 4294967296
           ·rw [if_pos c25] at H
            have c25b0 : decide (4294967296 ≤ x18_2) = true := decide_eq_true c25
            clear c25
            (first | rw [c25b0] | (simp only [i64_w, i32_w]; rw [c25b0]) | skip)
            have H' := Aside0.mk H
            clear H
            go_wp2
            repeat (go_quiet (fail); try go_wp2)
            go_meet
            case rel => exact ⟨_, (true), (by first | rfl | (simp; done) | (simp [*]; done)), H', ⟨by have := HJ17.out; have := HK2.out; first | omega | exact Nat.le_refl _⟩, by repeat (first | exact Drawn0.refl _ | apply Drawn0.step)⟩
           ·rw [if_neg c25] at H
            have c25b0 : decide (4294967296 ≤ x18_2) = false := decide_eq_false c25
            clear c25
            (first | rw [c25b0] | (simp only [i64_w, i32_w]; rw [c25b0]) | skip)
            have H' := Aside0.mk H
            clear H
            go_wp2
            repeat (go_quiet (fail); try go_wp2)
            go_meet
            case rel => exact ⟨_, (decide ((IntKind.u64.wrap (x18_2 * (Go.bits .and .u64 (ji9) 4294967295))) > (IntKind.u64.wrap ((IntKind.u64.wrap (4294967296 * x16_2)) + (Go.bits .and .u64 (ji16) 4294967295))))), (by first | rfl | (simp; done) | (simp only [← hji9, ← hji16] <;> (first | rfl | simp)) | (simp [*]; done)), H', ⟨by have := HJ17.out; have := HK2.out; first | omega | exact Nat.le_refl _⟩, by repeat (first | exact Drawn0.refl _ | apply Drawn0.step)⟩
          case rest =>
           clear HC24
           try clear c1
           try clear c2
           try clear p2
           try clear c4
           try clear c4b0
           try clear c4b1
           try clear c5
           try clear c5b0
           try clear c5b1
           try clear c8
           try clear c8b0
           try clear c8b1
           try clear c10
           try clear c10b0
           try clear c13
           try clear c13b0
           try clear c13b1
           try clear c15
           try clear c15b0
           try clear c16
           try clear c17
           try clear c17b0
           try clear c17b1
           try clear c18
           try clear c20
           try clear c20b0
           try clear c21
           try clear c22
           try clear c22b0
           try clear c23
           try clear c23b0
           try clear c23b1
           try clear c25
           try clear c25b0
           try clear p2
           obtain ⟨kq, x113_23, rfl, HA, HJ23, ⟨mc23, rfl⟩⟩ := hcut
           cases kq with
           | zero => exact absurd HA.out (by simp [bits_Div64q.j4])
           | succ kj23 =>
            have H := HA.out
            clear HA
            simp only [bits_Div64q.j4] at H
            by_cases c26 : x113_23 = true
            ·subst c26
             have H1 : (if (IntKind.u64.wrap (x16_2 + ((ji9) / 4294967296))) ≥ 4294967296 then (if 0 ≤ ji7 then (some (IntKind.u64.wrap ((IntKind.u64.wrap (x15_17 * 4294967296)) + (IntKind.u64.wrap (x18_2 - 1))), shr .u64 (IntKind.u64.wrap ((IntKind.u64.wrap ((IntKind.u64.wrap ((IntKind.u64.wrap ((IntKind.u64.wrap ((IntKind.u64.wrap ((Go.bits .or .u64 (ji11) (ji14)) * 4294967296)) + ((ji16) / 4294967296))) - (IntKind.u64.wrap (x15_17 * ji9)))) * 4294967296)) + (Go.bits .and .u64 (ji16) 4294967295))) - (IntKind.u64.wrap ((IntKind.u64.wrap (x18_2 - 1)) * ji9)))) ji7)) else (none)) else (bits_Div64q.l1 kj23 ji9 ji7 ((ji9) / 4294967296) (Go.bits .and .u64 (ji9) 4294967295) (Go.bits .and .u64 (ji16) 4294967295) x15_17 (IntKind.u64.wrap (x16_2 + ((ji9) / 4294967296))) (IntKind.u64.wrap ((IntKind.u64.wrap ((IntKind.u64.wrap ((Go.bits .or .u64 (ji11) (ji14)) * 4294967296)) + ((ji16) / 4294967296))) - (IntKind.u64.wrap (x15_17 * ji9)))) (IntKind.u64.wrap (x18_2 - 1)))) = some (r1, r2) := by rw [if_pos rfl] at H; exact H
             clear H
             have H := H1
             clear H1
             by_cases c27 : (IntKind.u64.wrap (x16_2 + ((ji9) / 4294967296))) ≥ 4294967296
             ·rw [if_pos c27] at H
              have c27b0 : decide (4294967296 ≤ (IntKind.u64.wrap (x16_2 + ((ji9) / 4294967296)))) = true := decide_eq_true c27
              clear c27
              by_cases c28 : 0 ≤ ji7
              ·rw [if_pos c28] at H
               have c28b0 := eq_true c28
               have c28b1 : decide (0 ≤ ji7) = true := decide_eq_true c28
               clear c28
               obtain ⟨ji29, hji29⟩ : ∃ j_ : Int, (shr .u64 (IntKind.u64.wrap ((IntKind.u64.wrap ((IntKind.u64.wrap ((IntKind.u64.wrap ((IntKind.u64.wrap ((IntKind.u64.wrap ((Go.bits .or .u64 (ji11) (ji14)) * 4294967296)) + ((ji16) / 4294967296))) - (IntKind.u64.wrap (x15_17 * ji9)))) * 4294967296)) + (Go.bits .and .u64 (ji16) 4294967295))) - (IntKind.u64.wrap ((IntKind.u64.wrap (x18_2 - 1)) * ji9)))) ji7) = j_ := ⟨_, rfl⟩
               replace H : (some (IntKind.u64.wrap ((IntKind.u64.wrap (x15_17 * 4294967296)) + (IntKind.u64.wrap (x18_2 - 1))), ji29)) = some (r1, r2) := by first | (rw [hji29] at H; exact H) | (simp only [hji29] at H ⊢; exact H)
               have hji29_ : ((IntKind.u64.wrap ((IntKind.u64.wrap ((IntKind.u64.wrap ((IntKind.u64.wrap ((IntKind.u64.wrap ((IntKind.u64.wrap ((Go.bits .or .u64 (ji11) (ji14)) * 4294967296)) + ((ji16) / 4294967296))) - (IntKind.u64.wrap (x15_17 * ji9)))) * 4294967296)) + (Go.bits .and .u64 (ji16) 4294967295))) - (IntKind.u64.wrap ((IntKind.u64.wrap (x18_2 - 1)) * ji9)))) / 2 ^ min ji7.toNat 64) = ji29 := hji29
               have hji29z : ji7 ≤ 64 → ((IntKind.u64.wrap ((IntKind.u64.wrap ((IntKind.u64.wrap ((IntKind.u64.wrap ((IntKind.u64.wrap ((IntKind.u64.wrap ((Go.bits .or .u64 (ji11) (ji14)) * 4294967296)) + ((ji16) / 4294967296))) - (IntKind.u64.wrap (x15_17 * ji9)))) * 4294967296)) + (Go.bits .and .u64 (ji16) 4294967295))) - (IntKind.u64.wrap ((IntKind.u64.wrap (x18_2 - 1)) * ji9)))) / 2 ^ ji7.toNat) = ji29 := shr_small hji29
               simp only [Option.some.injEq, Prod.mk.injEq] at H
               obtain ⟨rfl, rfl⟩ := H
               go_wp2
               repeat (go_quiet (fail); try go_wp2)
               go_ret2
               exact ⟨by first | rfl | (simp; done) | (simp only [← hji7, ← hji9, ← hji11, ← hji12, ← hji14, ← hji16, ← hji29] <;> (first | rfl | simp)) | (simp [*]; done), by repeat (first | exact Drawn0.refl _ | apply Drawn0.step)⟩
              ·rw [if_neg c28] at H
               exact absurd H (by simp)
             ·rw [if_neg c27] at H
              have c27b0 : decide (4294967296 ≤ (IntKind.u64.wrap (x16_2 + ((ji9) / 4294967296)))) = false := decide_eq_false c27
              clear c27
              have H' := Aside0.mk H
              clear H
              go_wp2
              repeat (go_quiet (fail); try go_wp2)
              go_roundg kj23
              case measure => have := HJ17.out; have := HK2.out; have := HJ23.out; omega
              case rel => exact ⟨(IntKind.u64.wrap (x16_2 + ((ji9) / 4294967296))), (IntKind.u64.wrap (x18_2 - 1)), (by first | rfl | (simp; done) | (simp only [← hji9] <;> (first | rfl | simp)) | (simp [*]; done)), (by first | rfl | (simp; done) | (simp [*]; done)), H', ⟨by have := HJ17.out; have := HK2.out; have := HJ23.out; omega⟩, by repeat (first | exact Drawn0.refl _ | apply Drawn0.step)⟩
            ·replace c26 := Bool.eq_false_iff.mpr c26
             subst c26
             have H1 : (if 0 ≤ ji7 then (some (IntKind.u64.wrap ((IntKind.u64.wrap (x15_17 * 4294967296)) + x18_2), shr .u64 (IntKind.u64.wrap ((IntKind.u64.wrap ((IntKind.u64.wrap ((IntKind.u64.wrap ((IntKind.u64.wrap ((IntKind.u64.wrap ((Go.bits .or .u64 (ji11) (ji14)) * 4294967296)) + ((ji16) / 4294967296))) - (IntKind.u64.wrap (x15_17 * ji9)))) * 4294967296)) + (Go.bits .and .u64 (ji16) 4294967295))) - (IntKind.u64.wrap (x18_2 * ji9)))) ji7)) else (none)) = some (r1, r2) := by rw [if_neg (show ¬ (false = true) by decide)] at H; exact H
             clear H
             have H := H1
             clear H1
             by_cases c30 : 0 ≤ ji7
             ·rw [if_pos c30] at H
              have c30b0 := eq_true c30
              have c30b1 : decide (0 ≤ ji7) = true := decide_eq_true c30
              clear c30
              obtain ⟨ji31, hji31⟩ : ∃ j_ : Int, (shr .u64 (IntKind.u64.wrap ((IntKind.u64.wrap ((IntKind.u64.wrap ((IntKind.u64.wrap ((IntKind.u64.wrap ((IntKind.u64.wrap ((Go.bits .or .u64 (ji11) (ji14)) * 4294967296)) + ((ji16) / 4294967296))) - (IntKind.u64.wrap (x15_17 * ji9)))) * 4294967296)) + (Go.bits .and .u64 (ji16) 4294967295))) - (IntKind.u64.wrap (x18_2 * ji9)))) ji7) = j_ := ⟨_, rfl⟩
              replace H : (some (IntKind.u64.wrap ((IntKind.u64.wrap (x15_17 * 4294967296)) + x18_2), ji31)) = some (r1, r2) := by first | (rw [hji31] at H; exact H) | (simp only [hji31] at H ⊢; exact H)
              have hji31_ : ((IntKind.u64.wrap ((IntKind.u64.wrap ((IntKind.u64.wrap ((IntKind.u64.wrap ((IntKind.u64.wrap ((IntKind.u64.wrap ((Go.bits .or .u64 (ji11) (ji14)) * 4294967296)) + ((ji16) / 4294967296))) - (IntKind.u64.wrap (x15_17 * ji9)))) * 4294967296)) + (Go.bits .and .u64 (ji16) 4294967295))) - (IntKind.u64.wrap (x18_2 * ji9)))) / 2 ^ min ji7.toNat 64) = ji31 := hji31
              have hji31z : ji7 ≤ 64 → ((IntKind.u64.wrap ((IntKind.u64.wrap ((IntKind.u64.wrap ((IntKind.u64.wrap ((IntKind.u64.wrap ((IntKind.u64.wrap ((Go.bits .or .u64 (ji11) (ji14)) * 4294967296)) + ((ji16) / 4294967296))) - (IntKind.u64.wrap (x15_17 * ji9)))) * 4294967296)) + (Go.bits .and .u64 (ji16) 4294967295))) - (IntKind.u64.wrap (x18_2 * ji9)))) / 2 ^ ji7.toNat) = ji31 := shr_small hji31
              simp only [Option.some.injEq, Prod.mk.injEq] at H
              obtain ⟨rfl, rfl⟩ := H
              go_wp2
              repeat (go_quiet (fail); try go_wp2)
              go_ret2
              exact ⟨by first | rfl | (simp; done) | (simp only [← hji7, ← hji9, ← hji11, ← hji12, ← hji14, ← hji16, ← hji31] <;> (first | rfl | simp)) | (simp [*]; done), by repeat (first | exact Drawn0.refl _ | apply Drawn0.step)⟩
             ·rw [if_neg c30] at H
              exact absurd H (by simp)
   ·rw [if_neg c13] at H
    exact absurd H (by simp)
  ·rw [if_neg c8] at H
   exact absurd H (by simp)
theorem bits_Div64.calls (a0 : Int) (a1 : Int) (a2 : Int) (r1 : Int) (r2 : Int) (w : World) (h : bits_Div64.f a0 a1 a2 = some (r1, r2)) :
  Calls Try.prog 162 #[.int .u64 a0, .int .u64 a1, .int .u64 a2] w fun e w' => e = .returned (.tuple #[.int .u64 r1, .int .u64 r2]) ∧ Below w.heap.size w w' := by
 unfold bits_Div64.f at h
 split at h
 ·rename_i g
  obtain ⟨k, hk⟩ : ∃ k, bits_Div64q.f k a0 a1 a2 = some (r1, r2) := by
   rw [← h]; exact M.Dv64_ok a0 a1 a2 g
  refine (bits_Div64q.walk k a0 a1 a2 r1 r2 w (beq_eq_false_iff_ne.2 (by omega)) (decide_eq_false (by omega)) hk).mono ?_
  rintro e w' ⟨rfl, ⟨nd, rfl⟩⟩
  exact ⟨rfl, by apply pw_below_drewN; exact Below.refl _ _⟩
 ·cases h
end Go.Proofs.Ytmadjhmecfbcmaa.F
end
section
namespace Go.Proofs.Ytmadjhmecfbcmaa.F
open Go.RowKit Go.Proofs.YtmadjhmecfbcmaaW.PrintWords Go.Proofs.YtmadjhmecfbcmaaW.PrintLast Go.Proofs.YtmadjhmecfbcmaaW.PrintMore
attribute [local go_sem] max2_int min2_int max_two min_two max_three min_three max_four min_four
set_option linter.unusedVariables false
set_option linter.unusedSimpArgs false
set_option maxHeartbeats 8000000 in
set_option maxRecDepth 100000 in
theorem wide_U128_Div.calls (a0_0 : Int) (a0_1 : Int) (a1 : Int) (r1 : Int) (r2 : Int) (r3 : Int) (w : World) (h : wide_U128_Div.f a0_0 a0_1 a1 = some (r1, r2, r3)) :
  Calls Try.prog 104 #[.agg #[.int .u64 a0_0, .int .u64 a0_1], .int .u64 a1] w fun e w' => e = .returned (.tuple #[.agg #[.int .u64 r1, .int .u64 r2], .int .u64 r3]) ∧ Below w.heap.size w w' := by
 have hu109 := Try.underlying109
 have HB := Aside0.mk (Below.refl w.heap.size w)
 have H : (if a1 = 0 then (some (0, 0, 0)) else ((bits_Div64.f 0 a0_0 a1).bind fun bt258 => ((bits_Div64.f bt258.2 a0_1 a1).bind fun bt260 => (some (bt258.1, bt260.1, bt260.2))))) = some (r1, r2, r3) := h
 clear h
 by_cases c3 : a1 = 0
 ·rw [if_pos c3] at H
  have c3b0 : (a1 == 0) = true := beq_iff_eq.mpr c3
  have c3b1 : (a1 != 0) = false := bne_eq_false_iff_eq.mpr c3
  clear c3
  simp only [Option.some.injEq, Prod.mk.injEq] at H
  obtain ⟨rfl, rfl, rfl⟩ := H
  go_enter Try.func104, Try.ntmps104
  go_wp2_with (first | ((with_reducible refine gate_dst (N := 2) rfl ?_); refine zbx 2 #[.int .u64 a0_0, .int .u64 a0_1] 109 (h := ?_); intro gb256 hg w4 hbox hb; have GW256 := zkZ hg (zaB (p := Below w.heap.size w _)); have GE256 := GW256; replace HB := Aside0.mk (below_step zaB hb); have BK256 := Aside0.mk (hbox); clear hb hbox hg) | ((with_reducible refine gate_dst (N := 4) rfl ?_); refine zbx 4 #[.int .u64 0, .int .u64 0] 109 (h := ?_); intro gb257 hg w5 hbox hb; have GW257 := zkz HB hg; have GE257 := GW257; have NB256_257 := zkl BK256 hg; have NB257_256 := zkr BK256 hg; replace BK256 := zkb BK256 hb; replace HB := zkB HB hb; have BK257 := Aside0.mk (hbox); clear hb hbox hg; have hnb6 := NB257_256.out; have hnc6 := NB256_257.out; have hcz7_0 := zc0 BK257; have hcz7_1 := zc1 BK257; have hfz7_0 := blk_frozen BK257.out 0; have hfz7_1 := blk_frozen BK257.out 1))
  refine bodyPost_ret (results_ct rfl _ _ gb257 109 #[.int .u64 0, .int .u64 0] (0, 0) _ rfl (blk_put (cs := #[.int .u64 0, .int .u64 0]) (blk_put (zkq BK257) 0 _ rfl) 1 _ rfl) Try.underlying109 rfl (by kernel_rfl)) rfl ?_
  exact ⟨zaE, zaB⟩
 ·rw [if_neg c3] at H
  have c3b0 : (a1 == 0) = false := beq_eq_false_iff_ne.mpr c3
  have c3b1 : (a1 != 0) = true := bne_iff_ne.mpr c3
  obtain ⟨⟨t258, t259⟩, A8, H⟩ := zbs H
  try dsimp only at H
  obtain ⟨⟨t260, t261⟩, A9, H⟩ := zbs H
  try dsimp only at H
  simp only [Option.some.injEq, Prod.mk.injEq] at H
  obtain ⟨rfl, rfl, rfl⟩ := H
  go_enter Try.func104, Try.ntmps104
  go_wp2_with (first | ((with_reducible refine gate_dst (N := 2) rfl ?_); refine zbx 2 #[.int .u64 a0_0, .int .u64 a0_1] 109 (h := ?_); intro gb256 hg w10 hbox hb; have GW256 := zkZ hg (zaB (p := Below w.heap.size w _)); have GE256 := GW256; replace HB := Aside0.mk (below_step zaB hb); have BK256 := Aside0.mk (hbox); clear hb hbox hg) | ((with_reducible refine gate_dst (N := 4) rfl ?_); refine zbx 4 #[.int .u64 0, .int .u64 0] 109 (h := ?_); intro gb257 hg w11 hbox hb; have GW257 := zkz HB hg; have GE257 := GW257; have NB256_257 := zkl BK256 hg; have NB257_256 := zkr BK256 hg; replace BK256 := zkb BK256 hb; replace HB := zkB HB hb; have BK257 := Aside0.mk (hbox); clear hb hbox hg; have hnb12 := NB256_257.out; have hnc12 := NB257_256.out; have hcz13_0 := zc0 BK256; have hcz13_1 := zc1 BK256; have hfz13_0 := blk_frozen BK256.out 0; have hfz13_1 := blk_frozen BK256.out 1) | ((with_reducible refine gate_callee (f := 162) rfl ?_); refine zgL 16 Try.func162 (bits_Div64.calls 0 a0_0 a1 t258 t259 _ A8.out) (h := ?_); rintro w14 hb; replace BK256 := zkb BK256 hb; replace BK257 := zkb BK257 hb; replace HB := zkB HB hb; (try clear hb); have hcz15_0 := zc0 BK256; have hcz15_1 := zc1 BK256; have hfz15_0 := blk_frozen BK256.out 0; have hfz15_1 := blk_frozen BK256.out 1) | ((with_reducible refine gate_callee (f := 162) rfl ?_); refine zgL 24 Try.func162 (bits_Div64.calls t259 a0_1 a1 t260 t261 _ A9.out) (h := ?_); rintro w16 hb; replace BK256 := zkb BK256 hb; replace BK257 := zkb BK257 hb; replace HB := zkB HB hb; (try clear hb); have hcz17_0 := zc0 BK257; have hcz17_1 := zc1 BK257; have hfz17_0 := blk_frozen BK257.out 0; have hfz17_1 := blk_frozen BK257.out 1))
  refine bodyPost_ret (results_ct rfl _ _ gb257 109 #[.int .u64 t258, .int .u64 t260] (0, 0) _ rfl (blk_put (cs := #[.int .u64 t258, .int .u64 0]) (blk_put (zkq BK257) 0 _ rfl) 1 _ rfl) Try.underlying109 rfl (by kernel_rfl)) rfl ?_
  exact ⟨zaE, zaB⟩
end Go.Proofs.Ytmadjhmecfbcmaa.F
end
