/- The walk of the law SlipRises and what it computes, part 5 of 7: no conditions. -/
import Derived.Test.YtmadjhmecfbcmaaASlipRises4
set_option linter.unusedVariables false
set_option linter.unusedSimpArgs false
section
namespace Go.Proofs.Ytmadjhmecfbcmaa.F
open Go.RowKit Go.Proofs.YtmadjhmecfbcmaaW.PrintWords Go.Proofs.YtmadjhmecfbcmaaW.PrintLast Go.Proofs.YtmadjhmecfbcmaaW.PrintMore
attribute [local go_sem] max2_int min2_int max_two min_two max_three min_three max_four min_four
set_option linter.unusedVariables false
set_option linter.unusedSimpArgs false
set_option maxHeartbeats 8000000
set_option maxRecDepth 100000
def slip_Do.T1 : Bool × List (List Nat × List Nat) := (true, [([], []), ([0], [0]), ([1], [1]), ([], []), ([3], [3]), ([4, 2], [4]), ([], []), ([6], [6]), ([7, 5], [7]), ([], []), ([9, 8], [9]), ([], []), ([11, 10], [11]), ([2, 5, 8, 10, 12], [2, 5, 8, 10, 12]), ([], []), ([14, 13, 12, 0, 1, 2, 3, 4, 5, 6, 7, 8, 9, 10, 11, 12, 13, 14], [13, 14])])
def slip_Do.B1 : List Nat := [0, 1, 3, 0, 8, 31, 0, 64, 255, 0, 1023, 0, 4095, 8191, 0, 32767]
theorem slip_Do.tab1 : rtab .any (opsOf Try.f64 1) = slip_Do.T1 := by kernel_rfl
theorem slip_Do.bits1 : waitsOk slip_Do.T1.2 slip_Do.B1 = true := by kernel_rfl
def slip_Do.T12 : Bool × List (List Nat × List Nat) := (true, [([], []), ([0], [0]), ([], []), ([1, 2], [1, 2]), ([3, 2], [3]), ([4], [4]), ([5, 4], [4, 5]), ([4, 4], [4]), ([6, 7, 4], [4, 6, 7]), ([4, 8], [4, 8])])
def slip_Do.B12 : List Nat := [0, 1, 0, 7, 15, 31, 63, 31, 255, 511]
theorem slip_Do.tab12 : rtab .any (opsOf Try.f64 12) = slip_Do.T12 := by kernel_rfl
theorem slip_Do.bits12 : waitsOk slip_Do.T12.2 slip_Do.B12 = true := by kernel_rfl
def slip_Do.T14 : Bool × List (List Nat × List Nat) := (true, [([], []), ([0], [0]), ([1], [1]), ([], []), ([3], [3]), ([2, 4, 2], [2, 4]), ([], []), ([6], [6]), ([7, 5], [7]), ([], []), ([9], [9]), ([8, 10, 8], [8, 10]), ([5, 11, 11], [5, 11]), ([12, 12, 0, 1, 2, 3, 4, 5, 6, 7, 8, 9, 10, 11, 12], [12])])
def slip_Do.B14 : List Nat := [0, 1, 3, 0, 8, 31, 0, 64, 255, 0, 512, 2047, 4095, 8191]
theorem slip_Do.tab14 : rtab .any (opsOf Try.f64 14) = slip_Do.T14 := by kernel_rfl
theorem slip_Do.bits14 : waitsOk slip_Do.T14.2 slip_Do.B14 = true := by kernel_rfl
abbrev slip_Do.HS (w' : World) (gb1517 gb1518 gb1519 : Nat) (a1_0 a2_0 a3_0 : Bool) (a1_1 a1_2 a2_1 a2_2 a3_1 a3_2 : Int) : Prop := w'.cell? ⟨gb1517, 0, none⟩ = some (.bool a1_0) ∧ w'.cell? ⟨gb1517, 1, none⟩ = some (.int .u64 a1_1) ∧ w'.cell? ⟨gb1517, 2, none⟩ = some (.int .u64 a1_2) ∧ w'.cell? ⟨gb1518, 0, none⟩ = some (.bool a2_0) ∧ w'.cell? ⟨gb1518, 1, none⟩ = some (.int .u64 a2_1) ∧ w'.cell? ⟨gb1518, 2, none⟩ = some (.int .u64 a2_2) ∧ w'.cell? ⟨gb1519, 0, none⟩ = some (.bool a3_0) ∧ w'.cell? ⟨gb1519, 1, none⟩ = some (.int .u64 a3_1) ∧ w'.cell? ⟨gb1519, 2, none⟩ = some (.int .u64 a3_2)
theorem slip_Do.lit {P : Program} {ops : Array Oper} {Q : Exit → Act → World → Prop} {o : Oper} {a : Act} {W : World} {Kc : Act → World → Prop} (N : Tmp) (x : Bool) (y z : Int) (h : ∀ v1 w1, Kd.R k43 43 w1 W.heap.size (fun _ => True) v1 [(⟨x, y, z⟩ : S43)] → Below W.heap.size W w1 → W.grownBy w1 none → (∃ b, v1.ownBlock = some b ∧ W.heap.size ≤ b) → Kc (a.put o.dst v1) w1)
  (hw : Region.wanted o (yielded ops a.tmps) = true := by rfl) (hd : o.dst = some N := by rfl) (hr : (execOp a.eval o).run P W = .ok (.value (.slice (some ⟨W.heap.size, 0, none⟩) 1 1)) (W.alloc (.cells #[.bool x, .int .u64 y, .int .u64 z] 43)) := by first | (go_simp; done) | (go_simp; rfl)) : if Region.wanted o (yielded ops a.tmps) = true then Oper.wp P o a W Kc Q else Kc (a.put o.dst undef) W :=
  Kd.R_lit_step k43 _ 43 hw (N := N) hd (xs := ([(⟨x, y, z⟩ : S43)] : List S43)) (inner := [.bool x, .int .u64 y, .int .u64 z]) (ok := fun _ => True) (okp := fun _ => True) hr (Reps.c3 (show Kd.M k43 _ _ _ (⟨x, y, z⟩ : S43) [.bool x, .int .u64 y, .int .u64 z] from (k43_mkM _ _ _ (⟨x, y, z⟩ : S43))) (Reps.none _ _)) (fun _ hk => hk) trivial (Below.refl _ _) (Nat.le_refl _) (by simp) h
theorem slip_Do.calls (k : Nat) (a0 : Int) (a1_0 : Bool) (a1_1 : Int) (a1_2 : Int) (a2_0 : Bool) (a2_1 : Int) (a2_2 : Int) (a3_0 : Bool) (a3_1 : Int) (a3_2 : Int) (a4 : Int) (a5 : Int) (r : Int) (w : World) (h : slip_Do.f k a0 a1_0 a1_1 a1_2 a2_0 a2_1 a2_2 a3_0 a3_1 a3_2 a4 a5 = some r) :
  Calls Try.prog 64 #[.int .u8 a0, .agg #[.bool a1_0, .int .u64 a1_1, .int .u64 a1_2], .agg #[.bool a2_0, .int .u64 a2_1, .int .u64 a2_2], .agg #[.bool a3_0, .int .u64 a3_1, .int .u64 a3_2], .int .u64 a4, .int .u64 a5] w fun e w' => e = .returned (.int .u64 r) ∧ Below w.heap.size w w' := by
 have hu43 := Try.underlying43
 have hfd0_ : ∀ (b : Bool) (x y : Int) (w : World), (Instr.field 43 (.agg #[.bool b, .int .u64 x, .int .u64 y]) 0).run Try.prog w = .ok (.bool b) w := fun _ _ _ _ => by kernel_rfl
 have hfd1_ : ∀ (b : Bool) (x y : Int) (w : World), (Instr.field 43 (.agg #[.bool b, .int .u64 x, .int .u64 y]) 1).run Try.prog w = .ok (.int .u64 x) w := fun _ _ _ _ => by kernel_rfl
 have hfd2_ : ∀ (b : Bool) (x y : Int) (w : World), (Instr.field 43 (.agg #[.bool b, .int .u64 x, .int .u64 y]) 2).run Try.prog w = .ok (.int .u64 y) w := fun _ _ _ _ => by kernel_rfl
 have hu128 := Try.underlying128
 have HB := Aside0.mk (Below.refl w.heap.size w)
 have H := h
 unfold slip_Do.f at H
 clear h
 obtain ⟨y1520, hy1520⟩ : ∃ y_ : List (S43), y_ = (([(⟨a1_0, a1_1, a1_2⟩ : S43)] : List (S43))) := ⟨_, rfl⟩
 replace H : ((span_Join.f k y1520).bind fun bt1523 => ((span_Join.f k (([(⟨a2_0, a2_1, a2_2⟩ : S43)] : List (S43)))).bind fun bt1529 => ((span_Join.f k (([(⟨a3_0, a3_1, a3_2⟩ : S43)] : List (S43)))).bind fun bt1535 => ((slip_Good.f k a4).bind fun t1538 => ((slip_Good.f k a5).bind fun t1539 => (if bt1523.1 = true then (slip_Do.j0 k a0 true bt1523.1 bt1523.2.1 bt1523.2.2 bt1529.1 bt1529.2.1 bt1529.2.2 bt1535.1 bt1535.2.1 bt1535.2.2 t1538 t1539) else (if bt1535.1 = true then (slip_Do.j0 k a0 true bt1523.1 bt1523.2.1 bt1523.2.2 bt1529.1 bt1529.2.1 bt1529.2.2 bt1535.1 bt1535.2.1 bt1535.2.2 t1538 t1539) else (if 5 ≤ a0 then (if a0 ≤ 16 then (slip_Do.j0 k a0 bt1529.1 bt1523.1 bt1523.2.1 bt1523.2.2 bt1529.1 bt1529.2.1 bt1529.2.2 bt1535.1 bt1535.2.1 bt1535.2.2 t1538 t1539) else (slip_Do.j0 k a0 false bt1523.1 bt1523.2.1 bt1523.2.2 bt1529.1 bt1529.2.1 bt1529.2.2 bt1535.1 bt1535.2.1 bt1535.2.2 t1538 t1539)) else (slip_Do.j0 k a0 false bt1523.1 bt1523.2.1 bt1523.2.2 bt1529.1 bt1529.2.1 bt1529.2.2 bt1535.1 bt1535.2.1 bt1535.2.2 t1538 t1539))))))))) = some r := by first | (rw [hy1520]; with_reducible exact H) | (have H2_ := (Option.bind_some _ _).symm.trans H; rw [hy1520]; with_reducible exact H2_) | (have H2_ := (Option.bind_some _ _).symm.trans H; with_reducible exact H2_) | with_reducible exact H | (rw [hy1520]; exact H) | exact H
 have Ny1520 := Aside0.mk hy1520
 clear hy1520
 obtain ⟨⟨t1523, t1524, t1525⟩, A7, H⟩ := zbs H
 try dsimp only at H
 obtain ⟨y1526, hy1526⟩ : ∃ y_ : List (S43), y_ = (([(⟨a2_0, a2_1, a2_2⟩ : S43)] : List (S43))) := ⟨_, rfl⟩
 replace H : ((span_Join.f k y1526).bind fun bt1529 => ((span_Join.f k (([(⟨a3_0, a3_1, a3_2⟩ : S43)] : List (S43)))).bind fun bt1535 => ((slip_Good.f k a4).bind fun t1538 => ((slip_Good.f k a5).bind fun t1539 => (if t1523 = true then (slip_Do.j0 k a0 true t1523 t1524 t1525 bt1529.1 bt1529.2.1 bt1529.2.2 bt1535.1 bt1535.2.1 bt1535.2.2 t1538 t1539) else (if bt1535.1 = true then (slip_Do.j0 k a0 true t1523 t1524 t1525 bt1529.1 bt1529.2.1 bt1529.2.2 bt1535.1 bt1535.2.1 bt1535.2.2 t1538 t1539) else (if 5 ≤ a0 then (if a0 ≤ 16 then (slip_Do.j0 k a0 bt1529.1 t1523 t1524 t1525 bt1529.1 bt1529.2.1 bt1529.2.2 bt1535.1 bt1535.2.1 bt1535.2.2 t1538 t1539) else (slip_Do.j0 k a0 false t1523 t1524 t1525 bt1529.1 bt1529.2.1 bt1529.2.2 bt1535.1 bt1535.2.1 bt1535.2.2 t1538 t1539)) else (slip_Do.j0 k a0 false t1523 t1524 t1525 bt1529.1 bt1529.2.1 bt1529.2.2 bt1535.1 bt1535.2.1 bt1535.2.2 t1538 t1539)))))))) = some r := by first | (rw [hy1526]; with_reducible exact H) | (have H2_ := (Option.bind_some _ _).symm.trans H; rw [hy1526]; with_reducible exact H2_) | (have H2_ := (Option.bind_some _ _).symm.trans H; with_reducible exact H2_) | with_reducible exact H | (rw [hy1526]; exact H) | exact H
 have Ny1526 := Aside0.mk hy1526
 clear hy1526
 obtain ⟨⟨t1529, t1530, t1531⟩, A8, H⟩ := zbs H
 try dsimp only at H
 obtain ⟨y1532, hy1532⟩ : ∃ y_ : List (S43), y_ = (([(⟨a3_0, a3_1, a3_2⟩ : S43)] : List (S43))) := ⟨_, rfl⟩
 replace H : ((span_Join.f k y1532).bind fun bt1535 => ((slip_Good.f k a4).bind fun t1538 => ((slip_Good.f k a5).bind fun t1539 => (if t1523 = true then (slip_Do.j0 k a0 true t1523 t1524 t1525 t1529 t1530 t1531 bt1535.1 bt1535.2.1 bt1535.2.2 t1538 t1539) else (if bt1535.1 = true then (slip_Do.j0 k a0 true t1523 t1524 t1525 t1529 t1530 t1531 bt1535.1 bt1535.2.1 bt1535.2.2 t1538 t1539) else (if 5 ≤ a0 then (if a0 ≤ 16 then (slip_Do.j0 k a0 t1529 t1523 t1524 t1525 t1529 t1530 t1531 bt1535.1 bt1535.2.1 bt1535.2.2 t1538 t1539) else (slip_Do.j0 k a0 false t1523 t1524 t1525 t1529 t1530 t1531 bt1535.1 bt1535.2.1 bt1535.2.2 t1538 t1539)) else (slip_Do.j0 k a0 false t1523 t1524 t1525 t1529 t1530 t1531 bt1535.1 bt1535.2.1 bt1535.2.2 t1538 t1539))))))) = some r := by first | (rw [hy1532]; with_reducible exact H) | (have H2_ := (Option.bind_some _ _).symm.trans H; rw [hy1532]; with_reducible exact H2_) | (have H2_ := (Option.bind_some _ _).symm.trans H; with_reducible exact H2_) | with_reducible exact H | (rw [hy1532]; exact H) | exact H
 have Ny1532 := Aside0.mk hy1532
 clear hy1532
 obtain ⟨⟨t1535, t1536, t1537⟩, A9, H⟩ := zbs H
 try dsimp only at H
 obtain ⟨t1538, A10, H⟩ := zbs H
 try dsimp only at H
 obtain ⟨t1539, A11, H⟩ := zbs H
 try dsimp only at H
 have HC12 := Aside0.mk H
 clear H
 go_enter Try.func64, Try.ntmps64
 try go_wp2_with (first | ((with_reducible refine gtd 7 rfl ?_); refine zbx 7 #[.bool a1_0, .int .u64 a1_1, .int .u64 a1_2] 43 (h := ?_); intro gb1517 hg w13 hbox hb; have GW1517 := zkZ hg (zaB (p := Below w.heap.size w _)); replace HB := Aside0.mk (below_step zaB hb); have BK1517 := Aside0.mk (hbox); clear hb hbox hg) | ((with_reducible refine gtd 8 rfl ?_); refine zbx 8 #[.bool a2_0, .int .u64 a2_1, .int .u64 a2_2] 43 (h := ?_); intro gb1518 hg w14 hbox hb; refine zbn1 HB BK1517 hg hb hbox (c := ?_); clear HB BK1517 hb hbox hg; intro GW1518 NB1517_1518 BK1517 HB BK1518) | ((with_reducible refine gtd 9 rfl ?_); refine zbx 9 #[.bool a3_0, .int .u64 a3_1, .int .u64 a3_2] 43 (h := ?_); intro gb1519 hg w15 hbox hb; refine zbn2 HB BK1517 BK1518 hg hb hbox (c := ?_); clear HB BK1517 BK1518 hb hbox hg; intro GW1519 NB1517_1519 NB1518_1519 BK1517 BK1518 HB BK1519))
 replace BK1517 := Aside0.mk (blk_drew BK1517.out)
 replace BK1518 := Aside0.mk (blk_drew BK1518.out)
 replace BK1519 := Aside0.mk (blk_drew BK1519.out)
 replace HB := Aside0.mk (below_drew1 HB.out)
 refine start_ (n := 16) (S := fun w' => slip_Do.HS w' gb1517 gb1518 gb1519 a1_0 a2_0 a3_0 a1_1 a1_2 a2_1 a2_2 a3_1 a3_2) (ds := []) #[false, false, false, false, false, false, false, false, false, false, false, false, false, false, false, false] (by kernel_rfl) rfl rfl (zk3 BK1517 (zk3 BK1518 (ze3 BK1519))) (fun hHeld => ?_); refine with_tabW slip_Do.tab1 slip_Do.bits1 (fun HT_ HW_ => ?_)
 generalize w15.drew = w16 at BK1517 BK1518 BK1519 HB hHeld ⊢
 refine zpA 9 25 (h := ?_)
 refine zpA 11 27 (h := ?_)
 refine ztA 0 16 (h := ?_)
 refine ztA 3 19 (h := ?_)
 refine ztA 6 22 (h := ?_)
 refine join_ (σ := Value × Value × Value × Nat) 1 #[true, true, true, true, true, true, true, true, true, true, true, true, true, true, true, false] (fun s_ => [(17, s_.1), (18, .agg #[.bool t1523, .int .u64 t1524, .int .u64 t1525]), (20, s_.2.1), (21, .agg #[.bool t1529, .int .u64 t1530, .int .u64 t1531]), (23, s_.2.2.1), (24, .agg #[.bool t1535, .int .u64 t1536, .int .u64 t1537]), (26, .int .u64 t1538), (28, .int .u64 t1539), (13, .pointer (some ⟨s_.2.2.2, 0, none⟩)), (29, .agg #[.bool t1523, .int .u64 t1524, .int .u64 t1525, .bool t1529, .int .u64 t1530, .int .u64 t1531, .bool t1535, .int .u64 t1536, .int .u64 t1537, .int .u64 t1538, .int .u64 t1539])]) (fun s_ w' => (slip_Do.HS w' gb1517 gb1518 gb1519 a1_0 a2_0 a3_0 a1_1 a1_2 a2_1 a2_2 a3_1 a3_2) ∧ (Kd.R k43 43 w' w.heap.size (fun k_ => some k_ ≠ (s_.2.1 : Value).ownBlock ∧ some k_ ≠ (s_.2.2.1 : Value).ownBlock ∧ k_ ≠ gb1517 ∧ k_ ≠ gb1518 ∧ k_ ≠ gb1519) s_.1 y1520) ∧ (Kd.R k43 43 w' w.heap.size (fun k_ => some k_ ≠ (s_.1 : Value).ownBlock ∧ some k_ ≠ (s_.2.2.1 : Value).ownBlock ∧ k_ ≠ gb1517 ∧ k_ ≠ gb1518 ∧ k_ ≠ gb1519) s_.2.1 y1526) ∧ (Kd.R k43 43 w' w.heap.size (fun k_ => some k_ ≠ (s_.1 : Value).ownBlock ∧ some k_ ≠ (s_.2.1 : Value).ownBlock ∧ k_ ≠ gb1517 ∧ k_ ≠ gb1518 ∧ k_ ≠ gb1519) s_.2.2.1 y1532) ∧ (w'.heap[gb1517]? = some (.cells #[.bool a1_0, .int .u64 a1_1, .int .u64 a1_2] 43 (0, 0))) ∧ (w'.heap[gb1518]? = some (.cells #[.bool a2_0, .int .u64 a2_1, .int .u64 a2_2] 43 (0, 0))) ∧ (w'.heap[gb1519]? = some (.cells #[.bool a3_0, .int .u64 a3_1, .int .u64 a3_2] 43 (0, 0))) ∧ (w'.heap[s_.2.2.2]? = some (.cells #[.bool false, .int .u64 0, .int .u64 0, .bool false, .int .u64 0, .int .u64 0, .bool false, .int .u64 0, .int .u64 0, .int .u64 0, .int .u64 0] 128 (0, 0))) ∧ (w.heap.size ≤ s_.2.2.2) ∧ (w.heap.size ≤ s_.2.2.2) ∧ (gb1517 ≠ s_.2.2.2) ∧ (s_.2.2.2 ≠ gb1517) ∧ (gb1518 ≠ s_.2.2.2) ∧ (s_.2.2.2 ≠ gb1518) ∧ (gb1519 ≠ s_.2.2.2) ∧ (s_.2.2.2 ≠ gb1519) ∧ (Below w.heap.size w w')) ?_ ?_
 ·rintro ⟨v1521, v1527, v1533, gb1540⟩ w30 ⟨hHeld, h0_, h1_, h2_, h3_, h4_, h5_, h6_, h7_, h8_, h9_, h10_, h11_, h12_, h13_, h14_, h15_⟩
  try dsimp only at h0_ h1_ h2_ h3_ h4_ h5_ h6_ h7_ h8_ h9_ h10_ h11_ h12_ h13_ h14_ h15_
  replace HO1522 := Aside0.mk h0_; replace HO1528 := Aside0.mk h1_; replace HO1534 := Aside0.mk h2_; replace BK1517 := Aside0.mk h3_; replace BK1518 := Aside0.mk h4_; replace BK1519 := Aside0.mk h5_; replace BK1540 := Aside0.mk h6_; replace GW1540 := Aside0.mk h7_; replace GW1540 := Aside0.mk h8_; replace NB1517_1540 := Aside0.mk h9_; replace NB1540_1517 := Aside0.mk h10_; replace NB1518_1540 := Aside0.mk h11_; replace NB1540_1518 := Aside0.mk h12_; replace NB1519_1540 := Aside0.mk h13_; replace NB1540_1519 := Aside0.mk h14_; replace HB := Aside0.mk h15_; clear h0_ h1_ h2_ h3_ h4_ h5_ h6_ h7_ h8_ h9_ h10_ h11_ h12_ h13_ h14_ h15_
  refine norm_ (a' := ?_) ?_ ?_
  rotate_left
  ·simp only [putAll, Act.put, List.setIfInBounds_toArray, List.set_cons_zero, List.set_cons_succ]
   rfl
  refine one_ (i := 15) (N := none) #[true, true, true, true, true, true, true, true, true, true, true, true, true, true, true, true] rfl rfl (one_of HT_.out (by kernel_rfl)) (by decide) (fun K hK => ?_)
  have hs31 := zc0 BK1540
  have hfs31 := blk_frozen BK1540.out 0
  refine zt3 NB1517_1540 NB1518_1540 NB1519_1540 fun _ _ _ _ _ _ => ?_
  have hs32 := zc1 BK1540
  have hfs32 := blk_frozen BK1540.out 1
  refine zt3 NB1517_1540 NB1518_1540 NB1519_1540 fun _ _ _ _ _ _ => ?_
  have hs33 := zc2 BK1540
  have hfs33 := blk_frozen BK1540.out 2
  refine zt3 NB1517_1540 NB1518_1540 NB1519_1540 fun _ _ _ _ _ _ => ?_
  have hs34 := zc3 BK1540
  have hfs34 := blk_frozen BK1540.out 3
  refine zt3 NB1517_1540 NB1518_1540 NB1519_1540 fun _ _ _ _ _ _ => ?_
  have hs35 := zc4 BK1540
  have hfs35 := blk_frozen BK1540.out 4
  refine zt3 NB1517_1540 NB1518_1540 NB1519_1540 fun _ _ _ _ _ _ => ?_
  have hs36 := zc5 BK1540
  have hfs36 := blk_frozen BK1540.out 5
  refine zt3 NB1517_1540 NB1518_1540 NB1519_1540 fun _ _ _ _ _ _ => ?_
  have hs37 := zc6 BK1540
  have hfs37 := blk_frozen BK1540.out 6
  refine zt3 NB1517_1540 NB1518_1540 NB1519_1540 fun _ _ _ _ _ _ => ?_
  have hs38 := zc7 BK1540
  have hfs38 := blk_frozen BK1540.out 7
  refine zt3 NB1517_1540 NB1518_1540 NB1519_1540 fun _ _ _ _ _ _ => ?_
  have hs39 := zc8 BK1540
  have hfs39 := blk_frozen BK1540.out 8
  refine zt3 NB1517_1540 NB1518_1540 NB1519_1540 fun _ _ _ _ _ _ => ?_
  have hs40 := zc9 BK1540
  have hfs40 := blk_frozen BK1540.out 9
  refine zt3 NB1517_1540 NB1518_1540 NB1519_1540 fun _ _ _ _ _ _ => ?_
  have hs41 := zc10 BK1540
  have hfs41 := blk_frozen BK1540.out 10
  refine zt3 NB1517_1540 NB1518_1540 NB1519_1540 fun _ _ _ _ _ _ => ?_
  refine skip_ (w1 := ?_) (by rfl) rfl ?_ ?_
  rotate_left
  ·go_simp
   rfl
  refine hK.out _ _ ⟨(zff NB1517_1540 (zff NB1517_1540 (zff NB1517_1540 (zff NB1517_1540 (zff NB1517_1540 (zff NB1517_1540 (zff NB1517_1540 (zff NB1517_1540 (zff NB1517_1540 (zff NB1517_1540 (zff NB1517_1540 hHeld.1))))))))))), (zff NB1517_1540 (zff NB1517_1540 (zff NB1517_1540 (zff NB1517_1540 (zff NB1517_1540 (zff NB1517_1540 (zff NB1517_1540 (zff NB1517_1540 (zff NB1517_1540 (zff NB1517_1540 (zff NB1517_1540 hHeld.2.1))))))))))), (zff NB1517_1540 (zff NB1517_1540 (zff NB1517_1540 (zff NB1517_1540 (zff NB1517_1540 (zff NB1517_1540 (zff NB1517_1540 (zff NB1517_1540 (zff NB1517_1540 (zff NB1517_1540 (zff NB1517_1540 hHeld.2.2.1))))))))))), (zff NB1518_1540 (zff NB1518_1540 (zff NB1518_1540 (zff NB1518_1540 (zff NB1518_1540 (zff NB1518_1540 (zff NB1518_1540 (zff NB1518_1540 (zff NB1518_1540 (zff NB1518_1540 (zff NB1518_1540 hHeld.2.2.2.1))))))))))), (zff NB1518_1540 (zff NB1518_1540 (zff NB1518_1540 (zff NB1518_1540 (zff NB1518_1540 (zff NB1518_1540 (zff NB1518_1540 (zff NB1518_1540 (zff NB1518_1540 (zff NB1518_1540 (zff NB1518_1540 hHeld.2.2.2.2.1))))))))))), (zff NB1518_1540 (zff NB1518_1540 (zff NB1518_1540 (zff NB1518_1540 (zff NB1518_1540 (zff NB1518_1540 (zff NB1518_1540 (zff NB1518_1540 (zff NB1518_1540 (zff NB1518_1540 (zff NB1518_1540 hHeld.2.2.2.2.2.1))))))))))), (zff NB1519_1540 (zff NB1519_1540 (zff NB1519_1540 (zff NB1519_1540 (zff NB1519_1540 (zff NB1519_1540 (zff NB1519_1540 (zff NB1519_1540 (zff NB1519_1540 (zff NB1519_1540 (zff NB1519_1540 hHeld.2.2.2.2.2.2.1))))))))))), (zff NB1519_1540 (zff NB1519_1540 (zff NB1519_1540 (zff NB1519_1540 (zff NB1519_1540 (zff NB1519_1540 (zff NB1519_1540 (zff NB1519_1540 (zff NB1519_1540 (zff NB1519_1540 (zff NB1519_1540 hHeld.2.2.2.2.2.2.2.1))))))))))), (zff NB1519_1540 (zff NB1519_1540 (zff NB1519_1540 (zff NB1519_1540 (zff NB1519_1540 (zff NB1519_1540 (zff NB1519_1540 (zff NB1519_1540 (zff NB1519_1540 (zff NB1519_1540 (zff NB1519_1540 hHeld.2.2.2.2.2.2.2.2)))))))))))⟩ (fun hHeld => ?_)
  clear hK K
  refine done_ (done_of HT_.out (by kernel_rfl)) ?_
  go_upto_region 2 with (fail)
  go_cut [50] (fun v50 wc => ∃ (kq : Nat) (x50_11 : Bool), v50 = .bool x50_11 ∧ Aside0 (slip_Do.j0 kq a0 x50_11 t1523 t1524 t1525 t1529 t1530 t1531 t1535 t1536 t1537 t1538 t1539 = some r) ∧ Aside0 (kq ≤ k) ∧ Aside0 (wc.heap[gb1517]? = some (.cells #[.bool a1_0, .int .u64 a1_1, .int .u64 a1_2] 43 (0, 0))) ∧ Aside0 (wc.heap[gb1518]? = some (.cells #[.bool a2_0, .int .u64 a2_1, .int .u64 a2_2] 43 (0, 0))) ∧ Aside0 (wc.heap[gb1519]? = some (.cells #[.bool a3_0, .int .u64 a3_1, .int .u64 a3_2] 43 (0, 0))) ∧ Aside0 (wc.heap[gb1540]? = some (.cells #[.bool t1523, .int .u64 t1524, .int .u64 t1525, .bool t1529, .int .u64 t1530, .int .u64 t1531, .bool t1535, .int .u64 t1536, .int .u64 t1537, .int .u64 t1538, .int .u64 t1539] 128 (0, 0))) ∧ Aside0 (Below w.heap.size w wc))
  case first =>
   have H := HC12.out
   clear HC12
   by_cases c42 : t1523 = true
   ·subst c42
    replace H := zit H
    have H' := Aside0.mk H
    clear H
    refine zt3 NB1517_1540 NB1518_1540 NB1519_1540 fun _ _ _ _ _ _ => ?_
    refine zu11 BK1540 fun z46_0 z46_1 z46_2 z46_3 z46_4 z46_5 z46_6 z46_7 z46_8 z46_9 z46_10 f46_0 f46_1 f46_2 f46_3 f46_4 f46_5 f46_6 f46_7 f46_8 f46_9 f46_10 => ?_
    go_wp2
    go_meet
    case rel => exact ⟨_, (true), zrl, H', ⟨zle⟩, ⟨(zkf (zkf (zkf (zkf (zkf (zkf (zkf (zkf (zkf (zkf (zkf (zkq BK1517) NB1517_1540.out _) NB1517_1540.out _) NB1517_1540.out _) NB1517_1540.out _) NB1517_1540.out _) NB1517_1540.out _) NB1517_1540.out _) NB1517_1540.out _) NB1517_1540.out _) NB1517_1540.out _) NB1517_1540.out _)⟩, ⟨(zkf (zkf (zkf (zkf (zkf (zkf (zkf (zkf (zkf (zkf (zkf (zkq BK1518) NB1518_1540.out _) NB1518_1540.out _) NB1518_1540.out _) NB1518_1540.out _) NB1518_1540.out _) NB1518_1540.out _) NB1518_1540.out _) NB1518_1540.out _) NB1518_1540.out _) NB1518_1540.out _) NB1518_1540.out _)⟩, ⟨(zkf (zkf (zkf (zkf (zkf (zkf (zkf (zkf (zkf (zkf (zkf (zkq BK1519) NB1519_1540.out _) NB1519_1540.out _) NB1519_1540.out _) NB1519_1540.out _) NB1519_1540.out _) NB1519_1540.out _) NB1519_1540.out _) NB1519_1540.out _) NB1519_1540.out _) NB1519_1540.out _) NB1519_1540.out _)⟩, ⟨(blk_put (cs := #[.bool true, .int .u64 t1524, .int .u64 t1525, .bool t1529, .int .u64 t1530, .int .u64 t1531, .bool t1535, .int .u64 t1536, .int .u64 t1537, .int .u64 t1538, .int .u64 0]) (blk_put (cs := #[.bool true, .int .u64 t1524, .int .u64 t1525, .bool t1529, .int .u64 t1530, .int .u64 t1531, .bool t1535, .int .u64 t1536, .int .u64 t1537, .int .u64 0, .int .u64 0]) (blk_put (cs := #[.bool true, .int .u64 t1524, .int .u64 t1525, .bool t1529, .int .u64 t1530, .int .u64 t1531, .bool t1535, .int .u64 t1536, .int .u64 0, .int .u64 0, .int .u64 0]) (blk_put (cs := #[.bool true, .int .u64 t1524, .int .u64 t1525, .bool t1529, .int .u64 t1530, .int .u64 t1531, .bool t1535, .int .u64 0, .int .u64 0, .int .u64 0, .int .u64 0]) (blk_put (cs := #[.bool true, .int .u64 t1524, .int .u64 t1525, .bool t1529, .int .u64 t1530, .int .u64 t1531, .bool false, .int .u64 0, .int .u64 0, .int .u64 0, .int .u64 0]) (blk_put (cs := #[.bool true, .int .u64 t1524, .int .u64 t1525, .bool t1529, .int .u64 t1530, .int .u64 0, .bool false, .int .u64 0, .int .u64 0, .int .u64 0, .int .u64 0]) (blk_put (cs := #[.bool true, .int .u64 t1524, .int .u64 t1525, .bool t1529, .int .u64 0, .int .u64 0, .bool false, .int .u64 0, .int .u64 0, .int .u64 0, .int .u64 0]) (blk_put (cs := #[.bool true, .int .u64 t1524, .int .u64 t1525, .bool false, .int .u64 0, .int .u64 0, .bool false, .int .u64 0, .int .u64 0, .int .u64 0, .int .u64 0]) (blk_put (cs := #[.bool true, .int .u64 t1524, .int .u64 0, .bool false, .int .u64 0, .int .u64 0, .bool false, .int .u64 0, .int .u64 0, .int .u64 0, .int .u64 0]) (blk_put (cs := #[.bool true, .int .u64 0, .int .u64 0, .bool false, .int .u64 0, .int .u64 0, .bool false, .int .u64 0, .int .u64 0, .int .u64 0, .int .u64 0]) (blk_put (zkq BK1540) 0 _ rfl) 1 _ rfl) 2 _ rfl) 3 _ rfl) 4 _ rfl) 5 _ rfl) 6 _ rfl) 7 _ rfl) 8 _ rfl) 9 _ rfl) 10 _ rfl)⟩, ⟨zaB⟩⟩
   replace c42 := Bool.eq_false_iff.mpr c42
   subst c42
   replace H := zif H
   by_cases c47 : t1535 = true
   ·subst c47
    replace H := zit H
    have H' := Aside0.mk H
    clear H
    refine zt3 NB1517_1540 NB1518_1540 NB1519_1540 fun _ _ _ _ _ _ => ?_
    refine zu11 BK1540 fun z51_0 z51_1 z51_2 z51_3 z51_4 z51_5 z51_6 z51_7 z51_8 z51_9 z51_10 f51_0 f51_1 f51_2 f51_3 f51_4 f51_5 f51_6 f51_7 f51_8 f51_9 f51_10 => ?_
    go_wp2
    go_meet
    case rel => exact ⟨_, (true), zrl, H', ⟨zle⟩, ⟨(zkf (zkf (zkf (zkf (zkf (zkf (zkf (zkf (zkf (zkf (zkf (zkq BK1517) NB1517_1540.out _) NB1517_1540.out _) NB1517_1540.out _) NB1517_1540.out _) NB1517_1540.out _) NB1517_1540.out _) NB1517_1540.out _) NB1517_1540.out _) NB1517_1540.out _) NB1517_1540.out _) NB1517_1540.out _)⟩, ⟨(zkf (zkf (zkf (zkf (zkf (zkf (zkf (zkf (zkf (zkf (zkf (zkq BK1518) NB1518_1540.out _) NB1518_1540.out _) NB1518_1540.out _) NB1518_1540.out _) NB1518_1540.out _) NB1518_1540.out _) NB1518_1540.out _) NB1518_1540.out _) NB1518_1540.out _) NB1518_1540.out _) NB1518_1540.out _)⟩, ⟨(zkf (zkf (zkf (zkf (zkf (zkf (zkf (zkf (zkf (zkf (zkf (zkq BK1519) NB1519_1540.out _) NB1519_1540.out _) NB1519_1540.out _) NB1519_1540.out _) NB1519_1540.out _) NB1519_1540.out _) NB1519_1540.out _) NB1519_1540.out _) NB1519_1540.out _) NB1519_1540.out _) NB1519_1540.out _)⟩, ⟨(blk_put (cs := #[.bool false, .int .u64 t1524, .int .u64 t1525, .bool t1529, .int .u64 t1530, .int .u64 t1531, .bool true, .int .u64 t1536, .int .u64 t1537, .int .u64 t1538, .int .u64 0]) (blk_put (cs := #[.bool false, .int .u64 t1524, .int .u64 t1525, .bool t1529, .int .u64 t1530, .int .u64 t1531, .bool true, .int .u64 t1536, .int .u64 t1537, .int .u64 0, .int .u64 0]) (blk_put (cs := #[.bool false, .int .u64 t1524, .int .u64 t1525, .bool t1529, .int .u64 t1530, .int .u64 t1531, .bool true, .int .u64 t1536, .int .u64 0, .int .u64 0, .int .u64 0]) (blk_put (cs := #[.bool false, .int .u64 t1524, .int .u64 t1525, .bool t1529, .int .u64 t1530, .int .u64 t1531, .bool true, .int .u64 0, .int .u64 0, .int .u64 0, .int .u64 0]) (blk_put (cs := #[.bool false, .int .u64 t1524, .int .u64 t1525, .bool t1529, .int .u64 t1530, .int .u64 t1531, .bool false, .int .u64 0, .int .u64 0, .int .u64 0, .int .u64 0]) (blk_put (cs := #[.bool false, .int .u64 t1524, .int .u64 t1525, .bool t1529, .int .u64 t1530, .int .u64 0, .bool false, .int .u64 0, .int .u64 0, .int .u64 0, .int .u64 0]) (blk_put (cs := #[.bool false, .int .u64 t1524, .int .u64 t1525, .bool t1529, .int .u64 0, .int .u64 0, .bool false, .int .u64 0, .int .u64 0, .int .u64 0, .int .u64 0]) (blk_put (cs := #[.bool false, .int .u64 t1524, .int .u64 t1525, .bool false, .int .u64 0, .int .u64 0, .bool false, .int .u64 0, .int .u64 0, .int .u64 0, .int .u64 0]) (blk_put (cs := #[.bool false, .int .u64 t1524, .int .u64 0, .bool false, .int .u64 0, .int .u64 0, .bool false, .int .u64 0, .int .u64 0, .int .u64 0, .int .u64 0]) (blk_put (cs := #[.bool false, .int .u64 0, .int .u64 0, .bool false, .int .u64 0, .int .u64 0, .bool false, .int .u64 0, .int .u64 0, .int .u64 0, .int .u64 0]) (blk_put (zkq BK1540) 0 _ rfl) 1 _ rfl) 2 _ rfl) 3 _ rfl) 4 _ rfl) 5 _ rfl) 6 _ rfl) 7 _ rfl) 8 _ rfl) 9 _ rfl) 10 _ rfl)⟩, ⟨zaB⟩⟩
   replace c47 := Bool.eq_false_iff.mpr c47
   subst c47
   replace H := zif H
   by_cases c52 : 5 ≤ a0
   ·rw [if_pos c52] at H
    have c52b0 : decide (5 ≤ a0) = true := decide_eq_true c52
    clear c52
    (first | rw [c52b0] | (simp only [i64_w, i32_w]; rw [c52b0]) | skip)
    by_cases c53 : a0 ≤ 16
    ·rw [if_pos c53] at H
     have c53b0 : decide (a0 ≤ 16) = true := decide_eq_true c53
     clear c53
     have H' := Aside0.mk H
     clear H
     refine zt3 NB1517_1540 NB1518_1540 NB1519_1540 fun _ _ _ _ _ _ => ?_
     refine zu11 BK1540 fun z57_0 z57_1 z57_2 z57_3 z57_4 z57_5 z57_6 z57_7 z57_8 z57_9 z57_10 f57_0 f57_1 f57_2 f57_3 f57_4 f57_5 f57_6 f57_7 f57_8 f57_9 f57_10 => ?_
     go_wp2
     go_meet
     case rel => exact ⟨_, (t1529), zrl, H', ⟨zle⟩, ⟨(zkf (zkf (zkf (zkf (zkf (zkf (zkf (zkf (zkf (zkf (zkf (zkq BK1517) NB1517_1540.out _) NB1517_1540.out _) NB1517_1540.out _) NB1517_1540.out _) NB1517_1540.out _) NB1517_1540.out _) NB1517_1540.out _) NB1517_1540.out _) NB1517_1540.out _) NB1517_1540.out _) NB1517_1540.out _)⟩, ⟨(zkf (zkf (zkf (zkf (zkf (zkf (zkf (zkf (zkf (zkf (zkf (zkq BK1518) NB1518_1540.out _) NB1518_1540.out _) NB1518_1540.out _) NB1518_1540.out _) NB1518_1540.out _) NB1518_1540.out _) NB1518_1540.out _) NB1518_1540.out _) NB1518_1540.out _) NB1518_1540.out _) NB1518_1540.out _)⟩, ⟨(zkf (zkf (zkf (zkf (zkf (zkf (zkf (zkf (zkf (zkf (zkf (zkq BK1519) NB1519_1540.out _) NB1519_1540.out _) NB1519_1540.out _) NB1519_1540.out _) NB1519_1540.out _) NB1519_1540.out _) NB1519_1540.out _) NB1519_1540.out _) NB1519_1540.out _) NB1519_1540.out _) NB1519_1540.out _)⟩, ⟨(blk_put (cs := #[.bool false, .int .u64 t1524, .int .u64 t1525, .bool t1529, .int .u64 t1530, .int .u64 t1531, .bool false, .int .u64 t1536, .int .u64 t1537, .int .u64 t1538, .int .u64 0]) (blk_put (cs := #[.bool false, .int .u64 t1524, .int .u64 t1525, .bool t1529, .int .u64 t1530, .int .u64 t1531, .bool false, .int .u64 t1536, .int .u64 t1537, .int .u64 0, .int .u64 0]) (blk_put (cs := #[.bool false, .int .u64 t1524, .int .u64 t1525, .bool t1529, .int .u64 t1530, .int .u64 t1531, .bool false, .int .u64 t1536, .int .u64 0, .int .u64 0, .int .u64 0]) (blk_put (cs := #[.bool false, .int .u64 t1524, .int .u64 t1525, .bool t1529, .int .u64 t1530, .int .u64 t1531, .bool false, .int .u64 0, .int .u64 0, .int .u64 0, .int .u64 0]) (blk_put (cs := #[.bool false, .int .u64 t1524, .int .u64 t1525, .bool t1529, .int .u64 t1530, .int .u64 t1531, .bool false, .int .u64 0, .int .u64 0, .int .u64 0, .int .u64 0]) (blk_put (cs := #[.bool false, .int .u64 t1524, .int .u64 t1525, .bool t1529, .int .u64 t1530, .int .u64 0, .bool false, .int .u64 0, .int .u64 0, .int .u64 0, .int .u64 0]) (blk_put (cs := #[.bool false, .int .u64 t1524, .int .u64 t1525, .bool t1529, .int .u64 0, .int .u64 0, .bool false, .int .u64 0, .int .u64 0, .int .u64 0, .int .u64 0]) (blk_put (cs := #[.bool false, .int .u64 t1524, .int .u64 t1525, .bool false, .int .u64 0, .int .u64 0, .bool false, .int .u64 0, .int .u64 0, .int .u64 0, .int .u64 0]) (blk_put (cs := #[.bool false, .int .u64 t1524, .int .u64 0, .bool false, .int .u64 0, .int .u64 0, .bool false, .int .u64 0, .int .u64 0, .int .u64 0, .int .u64 0]) (blk_put (cs := #[.bool false, .int .u64 0, .int .u64 0, .bool false, .int .u64 0, .int .u64 0, .bool false, .int .u64 0, .int .u64 0, .int .u64 0, .int .u64 0]) (blk_put (zkq BK1540) 0 _ rfl) 1 _ rfl) 2 _ rfl) 3 _ rfl) 4 _ rfl) 5 _ rfl) 6 _ rfl) 7 _ rfl) 8 _ rfl) 9 _ rfl) 10 _ rfl)⟩, ⟨zaB⟩⟩
    rw [if_neg c53] at H
    have c53b0 : decide (a0 ≤ 16) = false := decide_eq_false c53
    clear c53
    have H' := Aside0.mk H
    clear H
    refine zt3 NB1517_1540 NB1518_1540 NB1519_1540 fun _ _ _ _ _ _ => ?_
    refine zu11 BK1540 fun z61_0 z61_1 z61_2 z61_3 z61_4 z61_5 z61_6 z61_7 z61_8 z61_9 z61_10 f61_0 f61_1 f61_2 f61_3 f61_4 f61_5 f61_6 f61_7 f61_8 f61_9 f61_10 => ?_
    go_wp2
    go_meet
    case rel => exact ⟨_, (false), zrl, H', ⟨zle⟩, ⟨(zkf (zkf (zkf (zkf (zkf (zkf (zkf (zkf (zkf (zkf (zkf (zkq BK1517) NB1517_1540.out _) NB1517_1540.out _) NB1517_1540.out _) NB1517_1540.out _) NB1517_1540.out _) NB1517_1540.out _) NB1517_1540.out _) NB1517_1540.out _) NB1517_1540.out _) NB1517_1540.out _) NB1517_1540.out _)⟩, ⟨(zkf (zkf (zkf (zkf (zkf (zkf (zkf (zkf (zkf (zkf (zkf (zkq BK1518) NB1518_1540.out _) NB1518_1540.out _) NB1518_1540.out _) NB1518_1540.out _) NB1518_1540.out _) NB1518_1540.out _) NB1518_1540.out _) NB1518_1540.out _) NB1518_1540.out _) NB1518_1540.out _) NB1518_1540.out _)⟩, ⟨(zkf (zkf (zkf (zkf (zkf (zkf (zkf (zkf (zkf (zkf (zkf (zkq BK1519) NB1519_1540.out _) NB1519_1540.out _) NB1519_1540.out _) NB1519_1540.out _) NB1519_1540.out _) NB1519_1540.out _) NB1519_1540.out _) NB1519_1540.out _) NB1519_1540.out _) NB1519_1540.out _) NB1519_1540.out _)⟩, ⟨(blk_put (cs := #[.bool false, .int .u64 t1524, .int .u64 t1525, .bool t1529, .int .u64 t1530, .int .u64 t1531, .bool false, .int .u64 t1536, .int .u64 t1537, .int .u64 t1538, .int .u64 0]) (blk_put (cs := #[.bool false, .int .u64 t1524, .int .u64 t1525, .bool t1529, .int .u64 t1530, .int .u64 t1531, .bool false, .int .u64 t1536, .int .u64 t1537, .int .u64 0, .int .u64 0]) (blk_put (cs := #[.bool false, .int .u64 t1524, .int .u64 t1525, .bool t1529, .int .u64 t1530, .int .u64 t1531, .bool false, .int .u64 t1536, .int .u64 0, .int .u64 0, .int .u64 0]) (blk_put (cs := #[.bool false, .int .u64 t1524, .int .u64 t1525, .bool t1529, .int .u64 t1530, .int .u64 t1531, .bool false, .int .u64 0, .int .u64 0, .int .u64 0, .int .u64 0]) (blk_put (cs := #[.bool false, .int .u64 t1524, .int .u64 t1525, .bool t1529, .int .u64 t1530, .int .u64 t1531, .bool false, .int .u64 0, .int .u64 0, .int .u64 0, .int .u64 0]) (blk_put (cs := #[.bool false, .int .u64 t1524, .int .u64 t1525, .bool t1529, .int .u64 t1530, .int .u64 0, .bool false, .int .u64 0, .int .u64 0, .int .u64 0, .int .u64 0]) (blk_put (cs := #[.bool false, .int .u64 t1524, .int .u64 t1525, .bool t1529, .int .u64 0, .int .u64 0, .bool false, .int .u64 0, .int .u64 0, .int .u64 0, .int .u64 0]) (blk_put (cs := #[.bool false, .int .u64 t1524, .int .u64 t1525, .bool false, .int .u64 0, .int .u64 0, .bool false, .int .u64 0, .int .u64 0, .int .u64 0, .int .u64 0]) (blk_put (cs := #[.bool false, .int .u64 t1524, .int .u64 0, .bool false, .int .u64 0, .int .u64 0, .bool false, .int .u64 0, .int .u64 0, .int .u64 0, .int .u64 0]) (blk_put (cs := #[.bool false, .int .u64 0, .int .u64 0, .bool false, .int .u64 0, .int .u64 0, .bool false, .int .u64 0, .int .u64 0, .int .u64 0, .int .u64 0]) (blk_put (zkq BK1540) 0 _ rfl) 1 _ rfl) 2 _ rfl) 3 _ rfl) 4 _ rfl) 5 _ rfl) 6 _ rfl) 7 _ rfl) 8 _ rfl) 9 _ rfl) 10 _ rfl)⟩, ⟨zaB⟩⟩
   rw [if_neg c52] at H
   have c52b0 : decide (5 ≤ a0) = false := decide_eq_false c52
   clear c52
   (first | rw [c52b0] | (simp only [i64_w, i32_w]; rw [c52b0]) | skip)
   have H' := Aside0.mk H
   clear H
   refine zt3 NB1517_1540 NB1518_1540 NB1519_1540 fun _ _ _ _ _ _ => ?_
   refine zu11 BK1540 fun z65_0 z65_1 z65_2 z65_3 z65_4 z65_5 z65_6 z65_7 z65_8 z65_9 z65_10 f65_0 f65_1 f65_2 f65_3 f65_4 f65_5 f65_6 f65_7 f65_8 f65_9 f65_10 => ?_
   go_wp2
   go_meet
   case rel => exact ⟨_, (false), zrl, H', ⟨zle⟩, ⟨(zkf (zkf (zkf (zkf (zkf (zkf (zkf (zkf (zkf (zkf (zkf (zkq BK1517) NB1517_1540.out _) NB1517_1540.out _) NB1517_1540.out _) NB1517_1540.out _) NB1517_1540.out _) NB1517_1540.out _) NB1517_1540.out _) NB1517_1540.out _) NB1517_1540.out _) NB1517_1540.out _) NB1517_1540.out _)⟩, ⟨(zkf (zkf (zkf (zkf (zkf (zkf (zkf (zkf (zkf (zkf (zkf (zkq BK1518) NB1518_1540.out _) NB1518_1540.out _) NB1518_1540.out _) NB1518_1540.out _) NB1518_1540.out _) NB1518_1540.out _) NB1518_1540.out _) NB1518_1540.out _) NB1518_1540.out _) NB1518_1540.out _) NB1518_1540.out _)⟩, ⟨(zkf (zkf (zkf (zkf (zkf (zkf (zkf (zkf (zkf (zkf (zkf (zkq BK1519) NB1519_1540.out _) NB1519_1540.out _) NB1519_1540.out _) NB1519_1540.out _) NB1519_1540.out _) NB1519_1540.out _) NB1519_1540.out _) NB1519_1540.out _) NB1519_1540.out _) NB1519_1540.out _) NB1519_1540.out _)⟩, ⟨(blk_put (cs := #[.bool false, .int .u64 t1524, .int .u64 t1525, .bool t1529, .int .u64 t1530, .int .u64 t1531, .bool false, .int .u64 t1536, .int .u64 t1537, .int .u64 t1538, .int .u64 0]) (blk_put (cs := #[.bool false, .int .u64 t1524, .int .u64 t1525, .bool t1529, .int .u64 t1530, .int .u64 t1531, .bool false, .int .u64 t1536, .int .u64 t1537, .int .u64 0, .int .u64 0]) (blk_put (cs := #[.bool false, .int .u64 t1524, .int .u64 t1525, .bool t1529, .int .u64 t1530, .int .u64 t1531, .bool false, .int .u64 t1536, .int .u64 0, .int .u64 0, .int .u64 0]) (blk_put (cs := #[.bool false, .int .u64 t1524, .int .u64 t1525, .bool t1529, .int .u64 t1530, .int .u64 t1531, .bool false, .int .u64 0, .int .u64 0, .int .u64 0, .int .u64 0]) (blk_put (cs := #[.bool false, .int .u64 t1524, .int .u64 t1525, .bool t1529, .int .u64 t1530, .int .u64 t1531, .bool false, .int .u64 0, .int .u64 0, .int .u64 0, .int .u64 0]) (blk_put (cs := #[.bool false, .int .u64 t1524, .int .u64 t1525, .bool t1529, .int .u64 t1530, .int .u64 0, .bool false, .int .u64 0, .int .u64 0, .int .u64 0, .int .u64 0]) (blk_put (cs := #[.bool false, .int .u64 t1524, .int .u64 t1525, .bool t1529, .int .u64 0, .int .u64 0, .bool false, .int .u64 0, .int .u64 0, .int .u64 0, .int .u64 0]) (blk_put (cs := #[.bool false, .int .u64 t1524, .int .u64 t1525, .bool false, .int .u64 0, .int .u64 0, .bool false, .int .u64 0, .int .u64 0, .int .u64 0, .int .u64 0]) (blk_put (cs := #[.bool false, .int .u64 t1524, .int .u64 0, .bool false, .int .u64 0, .int .u64 0, .bool false, .int .u64 0, .int .u64 0, .int .u64 0, .int .u64 0]) (blk_put (cs := #[.bool false, .int .u64 0, .int .u64 0, .bool false, .int .u64 0, .int .u64 0, .bool false, .int .u64 0, .int .u64 0, .int .u64 0, .int .u64 0]) (blk_put (zkq BK1540) 0 _ rfl) 1 _ rfl) 2 _ rfl) 3 _ rfl) 4 _ rfl) 5 _ rfl) 6 _ rfl) 7 _ rfl) 8 _ rfl) 9 _ rfl) 10 _ rfl)⟩, ⟨zaB⟩⟩
  case rest =>
   clear HC12
   try clear c52b0
   try clear c53b0
   try clear z46_0 z46_1 z46_2 z46_3 z46_4 z46_5 z46_6 z46_7 z46_8 z46_9 z46_10 f46_0 f46_1 f46_2 f46_3 f46_4 f46_5 f46_6 f46_7 f46_8 f46_9 f46_10
   try clear z51_0 z51_1 z51_2 z51_3 z51_4 z51_5 z51_6 z51_7 z51_8 z51_9 z51_10 f51_0 f51_1 f51_2 f51_3 f51_4 f51_5 f51_6 f51_7 f51_8 f51_9 f51_10
   try clear z57_0 z57_1 z57_2 z57_3 z57_4 z57_5 z57_6 z57_7 z57_8 z57_9 z57_10 f57_0 f57_1 f57_2 f57_3 f57_4 f57_5 f57_6 f57_7 f57_8 f57_9 f57_10
   try clear z61_0 z61_1 z61_2 z61_3 z61_4 z61_5 z61_6 z61_7 z61_8 z61_9 z61_10 f61_0 f61_1 f61_2 f61_3 f61_4 f61_5 f61_6 f61_7 f61_8 f61_9 f61_10
   try clear z65_0 z65_1 z65_2 z65_3 z65_4 z65_5 z65_6 z65_7 z65_8 z65_9 z65_10 f65_0 f65_1 f65_2 f65_3 f65_4 f65_5 f65_6 f65_7 f65_8 f65_9 f65_10
   obtain ⟨kq, x50_11, rfl, HA, HJ11, BK1517, BK1518, BK1519, BK1540, HB⟩ := hcut
   cases kq with
   | zero => exact absurd HA.out (by simp [slip_Do.j0])
   | succ kj11 =>
    have H := HA.out
    clear HA
    simp only [slip_Do.j0] at H
    by_cases c66 : x50_11 = true
    ·subst c66
     replace H := zit H
     obtain rfl := Option.some.inj H
     go_wp2
     go_ret
     exact ⟨zaE, zaB⟩
    replace c66 := Bool.eq_false_iff.mpr c66
    subst c66
    replace H := zif H
    obtain ⟨t1541, A67, H⟩ := zbs H
    try dsimp only at H
    obtain ⟨t1542, A68, H⟩ := zbs H
    try dsimp only at H
    have HC69 := Aside0.mk H
    clear H
    refine zt3 NB1517_1540 NB1518_1540 NB1519_1540 fun _ _ _ _ _ _ => ?_
    refine zu11 BK1540 fun z73_0 z73_1 z73_2 z73_3 z73_4 z73_5 z73_6 z73_7 z73_8 z73_9 z73_10 f73_0 f73_1 f73_2 f73_3 f73_4 f73_5 f73_6 f73_7 f73_8 f73_9 f73_10 => ?_
    go_upto_region 5 with (first | ((with_reducible refine gtc 50 rfl ?_); refine zgL 53 Try.func50 (span_Most.calls kj11 t1535 t1536 t1537 t1541 _ A67.out) (h := ?_); rintro w74 hb; refine zcn4 HB BK1517 BK1518 BK1519 BK1540 hb (c := ?_); clear HB BK1517 BK1518 BK1519 BK1540 hb; intro BK1517 BK1518 BK1519 BK1540 HB) | ((with_reducible refine gtc 127 rfl ?_); refine zgL 54 Try.func127 (slip_Round.calls kj11 t1541 t1542 _ A68.out) (h := ?_); rintro w75 hb; refine zcn4 HB BK1517 BK1518 BK1519 BK1540 hb (c := ?_); clear HB BK1517 BK1518 BK1519 BK1540 hb; intro BK1517 BK1518 BK1519 BK1540 HB))
    (try simp only [Act.put, List.setIfInBounds_toArray, List.set_cons_zero, List.set_cons_succ])
    go_cut [61] (fun v61 wc => ∃ (kq : Nat) (x61_68 : Bool), v61 = .bool x61_68 ∧ Aside0 (slip_Do.j1 kq a0 t1542 x61_68 t1523 t1524 t1525 t1529 t1530 t1531 t1535 t1536 t1537 t1538 t1539 = some r) ∧ Aside0 (kq ≤ kj11) ∧ Aside0 (wc.heap[gb1517]? = some (.cells #[.bool a1_0, .int .u64 a1_1, .int .u64 a1_2] 43 (0, 0))) ∧ Aside0 (wc.heap[gb1518]? = some (.cells #[.bool a2_0, .int .u64 a2_1, .int .u64 a2_2] 43 (0, 0))) ∧ Aside0 (wc.heap[gb1519]? = some (.cells #[.bool a3_0, .int .u64 a3_1, .int .u64 a3_2] 43 (0, 0))) ∧ Aside0 (wc.heap[gb1540]? = some (.cells #[.bool t1523, .int .u64 t1524, .int .u64 t1525, .bool t1529, .int .u64 t1530, .int .u64 t1531, .bool t1535, .int .u64 t1536, .int .u64 t1537, .int .u64 t1538, .int .u64 t1539] 128 (0, 0))) ∧ Aside0 (Below w.heap.size w wc))
    case first =>
     have H := HC69.out
     clear HC69
     obtain ⟨t1543, A76, H⟩ := zbs H
     try dsimp only at H
     by_cases c77 : t1543 = true
     ·subst c77
      replace H := zit H
      have H' := Aside0.mk H
      clear H
      refine zt3 NB1517_1540 NB1518_1540 NB1519_1540 fun _ _ _ _ _ _ => ?_
      refine zu11 BK1540 fun z81_0 z81_1 z81_2 z81_3 z81_4 z81_5 z81_6 z81_7 z81_8 z81_9 z81_10 f81_0 f81_1 f81_2 f81_3 f81_4 f81_5 f81_6 f81_7 f81_8 f81_9 f81_10 => ?_
      go_wp2_with (first | ((with_reducible refine gtc 132 rfl ?_); refine zgL 57 Try.func132 (slip_sides_fades.calls kj11 t1523 t1524 t1525 t1529 t1530 t1531 t1535 t1536 t1537 t1538 t1539 a0 true _ A76.out) (h := ?_); rintro w82 hb; refine zcn4 HB BK1517 BK1518 BK1519 BK1540 hb (c := ?_); clear HB BK1517 BK1518 BK1519 BK1540 hb; intro BK1517 BK1518 BK1519 BK1540 HB))
      go_meet
      case rel => exact ⟨_, ((t1542 == 0)), zrl, H', ⟨by have := HJ11.out; first | omega | exact Nat.le_refl _⟩, ⟨zkq BK1517⟩, ⟨zkq BK1518⟩, ⟨zkq BK1519⟩, ⟨zkq BK1540⟩, ⟨zaB⟩⟩
     replace c77 := Bool.eq_false_iff.mpr c77
     subst c77
     replace H := zif H
     have H' := Aside0.mk H
     clear H
     refine zt3 NB1517_1540 NB1518_1540 NB1519_1540 fun _ _ _ _ _ _ => ?_
     refine zu11 BK1540 fun z86_0 z86_1 z86_2 z86_3 z86_4 z86_5 z86_6 z86_7 z86_8 z86_9 z86_10 f86_0 f86_1 f86_2 f86_3 f86_4 f86_5 f86_6 f86_7 f86_8 f86_9 f86_10 => ?_
     go_wp2_with (first | ((with_reducible refine gtc 132 rfl ?_); refine zgL 57 Try.func132 (slip_sides_fades.calls kj11 t1523 t1524 t1525 t1529 t1530 t1531 t1535 t1536 t1537 t1538 t1539 a0 false _ A76.out) (h := ?_); rintro w87 hb; refine zcn4 HB BK1517 BK1518 BK1519 BK1540 hb (c := ?_); clear HB BK1517 BK1518 BK1519 BK1540 hb; intro BK1517 BK1518 BK1519 BK1540 HB))
     go_meet
     case rel => exact ⟨_, (false), zrl, H', ⟨by have := HJ11.out; first | omega | exact Nat.le_refl _⟩, ⟨zkq BK1517⟩, ⟨zkq BK1518⟩, ⟨zkq BK1519⟩, ⟨zkq BK1540⟩, ⟨zaB⟩⟩
    case rest =>
     clear HC69
     try clear c52b0
     try clear c53b0
     try clear z46_0 z46_1 z46_2 z46_3 z46_4 z46_5 z46_6 z46_7 z46_8 z46_9 z46_10 f46_0 f46_1 f46_2 f46_3 f46_4 f46_5 f46_6 f46_7 f46_8 f46_9 f46_10
     try clear z51_0 z51_1 z51_2 z51_3 z51_4 z51_5 z51_6 z51_7 z51_8 z51_9 z51_10 f51_0 f51_1 f51_2 f51_3 f51_4 f51_5 f51_6 f51_7 f51_8 f51_9 f51_10
     try clear z57_0 z57_1 z57_2 z57_3 z57_4 z57_5 z57_6 z57_7 z57_8 z57_9 z57_10 f57_0 f57_1 f57_2 f57_3 f57_4 f57_5 f57_6 f57_7 f57_8 f57_9 f57_10
     try clear z61_0 z61_1 z61_2 z61_3 z61_4 z61_5 z61_6 z61_7 z61_8 z61_9 z61_10 f61_0 f61_1 f61_2 f61_3 f61_4 f61_5 f61_6 f61_7 f61_8 f61_9 f61_10
     try clear z65_0 z65_1 z65_2 z65_3 z65_4 z65_5 z65_6 z65_7 z65_8 z65_9 z65_10 f65_0 f65_1 f65_2 f65_3 f65_4 f65_5 f65_6 f65_7 f65_8 f65_9 f65_10
     try clear z73_0 z73_1 z73_2 z73_3 z73_4 z73_5 z73_6 z73_7 z73_8 z73_9 z73_10 f73_0 f73_1 f73_2 f73_3 f73_4 f73_5 f73_6 f73_7 f73_8 f73_9 f73_10
     try clear z81_0 z81_1 z81_2 z81_3 z81_4 z81_5 z81_6 z81_7 z81_8 z81_9 z81_10 f81_0 f81_1 f81_2 f81_3 f81_4 f81_5 f81_6 f81_7 f81_8 f81_9 f81_10
     try clear z86_0 z86_1 z86_2 z86_3 z86_4 z86_5 z86_6 z86_7 z86_8 z86_9 z86_10 f86_0 f86_1 f86_2 f86_3 f86_4 f86_5 f86_6 f86_7 f86_8 f86_9 f86_10
     obtain ⟨kq, x61_68, rfl, HA, HJ68, BK1517, BK1518, BK1519, BK1540, HB⟩ := hcut
     cases kq with
     | zero => exact absurd HA.out (by simp [slip_Do.j1])
     | succ kj68 =>
      have H := HA.out
      clear HA
      simp only [slip_Do.j1] at H
      have HC88 := Aside0.mk H
      clear H
      go_upto_if 61 with (fail)
      go_cut [14] (fun v14 wc => ∃ (kq : Nat) (x14_87 : Int), v14 = .int .u64 x14_87 ∧ Aside0 (slip_Do.j2 kq a0 x14_87 t1523 t1524 t1525 t1529 t1530 t1531 t1535 t1536 t1537 t1538 t1539 = some r) ∧ Aside0 (kq ≤ kj68) ∧ Aside0 (wc.heap[gb1517]? = some (.cells #[.bool a1_0, .int .u64 a1_1, .int .u64 a1_2] 43 (0, 0))) ∧ Aside0 (wc.heap[gb1518]? = some (.cells #[.bool a2_0, .int .u64 a2_1, .int .u64 a2_2] 43 (0, 0))) ∧ Aside0 (wc.heap[gb1519]? = some (.cells #[.bool a3_0, .int .u64 a3_1, .int .u64 a3_2] 43 (0, 0))) ∧ Aside0 (wc.heap[gb1540]? = some (.cells #[.bool t1523, .int .u64 t1524, .int .u64 t1525, .bool t1529, .int .u64 t1530, .int .u64 t1531, .bool t1535, .int .u64 t1536, .int .u64 t1537, .int .u64 t1538, .int .u64 t1539] 128 (0, 0))) ∧ Aside0 (Below w.heap.size w wc))
      case first =>
       have H := HC88.out
       clear HC88
       by_cases c89 : x61_68 = true
       ·subst c89
        replace H := zit H
        have H' := Aside0.mk H
        clear H
        go_wp2
        go_meet
        case rel => exact ⟨_, (1), zrl, H', ⟨by have := HJ11.out; have := HJ68.out; first | omega | exact Nat.le_refl _⟩, ⟨zkq BK1517⟩, ⟨zkq BK1518⟩, ⟨zkq BK1519⟩, ⟨zkq BK1540⟩, ⟨zaB⟩⟩
       replace c89 := Bool.eq_false_iff.mpr c89
       subst c89
       replace H := zif H
       have H' := Aside0.mk H
       clear H
       go_wp2
       go_meet
       case rel => exact ⟨_, (t1542), zrl, H', ⟨by have := HJ11.out; have := HJ68.out; first | omega | exact Nat.le_refl _⟩, ⟨zkq BK1517⟩, ⟨zkq BK1518⟩, ⟨zkq BK1519⟩, ⟨zkq BK1540⟩, ⟨zaB⟩⟩
      case rest =>
       clear HC88
       try clear c52b0
       try clear c53b0
       try clear z46_0 z46_1 z46_2 z46_3 z46_4 z46_5 z46_6 z46_7 z46_8 z46_9 z46_10 f46_0 f46_1 f46_2 f46_3 f46_4 f46_5 f46_6 f46_7 f46_8 f46_9 f46_10
       try clear z51_0 z51_1 z51_2 z51_3 z51_4 z51_5 z51_6 z51_7 z51_8 z51_9 z51_10 f51_0 f51_1 f51_2 f51_3 f51_4 f51_5 f51_6 f51_7 f51_8 f51_9 f51_10
       try clear z57_0 z57_1 z57_2 z57_3 z57_4 z57_5 z57_6 z57_7 z57_8 z57_9 z57_10 f57_0 f57_1 f57_2 f57_3 f57_4 f57_5 f57_6 f57_7 f57_8 f57_9 f57_10
       try clear z61_0 z61_1 z61_2 z61_3 z61_4 z61_5 z61_6 z61_7 z61_8 z61_9 z61_10 f61_0 f61_1 f61_2 f61_3 f61_4 f61_5 f61_6 f61_7 f61_8 f61_9 f61_10
       try clear z65_0 z65_1 z65_2 z65_3 z65_4 z65_5 z65_6 z65_7 z65_8 z65_9 z65_10 f65_0 f65_1 f65_2 f65_3 f65_4 f65_5 f65_6 f65_7 f65_8 f65_9 f65_10
       try clear z73_0 z73_1 z73_2 z73_3 z73_4 z73_5 z73_6 z73_7 z73_8 z73_9 z73_10 f73_0 f73_1 f73_2 f73_3 f73_4 f73_5 f73_6 f73_7 f73_8 f73_9 f73_10
       try clear z81_0 z81_1 z81_2 z81_3 z81_4 z81_5 z81_6 z81_7 z81_8 z81_9 z81_10 f81_0 f81_1 f81_2 f81_3 f81_4 f81_5 f81_6 f81_7 f81_8 f81_9 f81_10
       try clear z86_0 z86_1 z86_2 z86_3 z86_4 z86_5 z86_6 z86_7 z86_8 z86_9 z86_10 f86_0 f86_1 f86_2 f86_3 f86_4 f86_5 f86_6 f86_7 f86_8 f86_9 f86_10
       obtain ⟨kq, x14_87, rfl, HA, HJ87, BK1517, BK1518, BK1519, BK1540, HB⟩ := hcut
       cases kq with
       | zero => exact absurd HA.out (by simp [slip_Do.j2])
       | succ kj87 =>
        have H := HA.out
        clear HA
        simp only [slip_Do.j2] at H
        have HC90 := Aside0.mk H
        clear H
        go_upto_if 63 with (fail)
        go_cut [63] (fun v63 wc => ∃ (kq : Nat) (x63_89 : Bool), v63 = .bool x63_89 ∧ Aside0 (slip_Do.j3 kq x14_87 a0 x63_89 t1523 t1524 t1525 t1529 t1530 t1531 t1535 t1536 t1537 t1538 t1539 = some r) ∧ Aside0 (kq ≤ kj87) ∧ Aside0 (wc.heap[gb1517]? = some (.cells #[.bool a1_0, .int .u64 a1_1, .int .u64 a1_2] 43 (0, 0))) ∧ Aside0 (wc.heap[gb1518]? = some (.cells #[.bool a2_0, .int .u64 a2_1, .int .u64 a2_2] 43 (0, 0))) ∧ Aside0 (wc.heap[gb1519]? = some (.cells #[.bool a3_0, .int .u64 a3_1, .int .u64 a3_2] 43 (0, 0))) ∧ Aside0 (wc.heap[gb1540]? = some (.cells #[.bool t1523, .int .u64 t1524, .int .u64 t1525, .bool t1529, .int .u64 t1530, .int .u64 t1531, .bool t1535, .int .u64 t1536, .int .u64 t1537, .int .u64 t1538, .int .u64 t1539] 128 (0, 0))) ∧ Aside0 (Below w.heap.size w wc))
        case first =>
         have H := HC90.out
         clear HC90
         by_cases c91 : a0 = 5
         ·rw [if_pos c91] at H
          have c91b0 : (a0 == 5) = true := beq_iff_eq.mpr c91
          have c91b1 : (a0 != 5) = false := bne_eq_false_iff_eq.mpr c91
          clear c91
          (first | rw [c91b0] | (simp only [i64_w, i32_w]; rw [c91b0]) | skip)
          have H' := Aside0.mk H
          clear H
          go_wp2
          go_meet
          case rel => exact ⟨_, ((a0 == 5)), zrl, H', ⟨by have := HJ11.out; have := HJ68.out; have := HJ87.out; first | omega | exact Nat.le_refl _⟩, ⟨zkq BK1517⟩, ⟨zkq BK1518⟩, ⟨zkq BK1519⟩, ⟨zkq BK1540⟩, ⟨zaB⟩⟩
         rw [if_neg c91] at H
         have c91b0 : (a0 == 5) = false := beq_eq_false_iff_ne.mpr c91
         have c91b1 : (a0 != 5) = true := bne_iff_ne.mpr c91
         (first | rw [c91b0] | (simp only [i64_w, i32_w]; rw [c91b0]) | skip)
         have H' := Aside0.mk H
         clear H
         go_wp2
         go_meet
         case rel => exact ⟨_, ((a0 == 6)), zrl, H', ⟨by have := HJ11.out; have := HJ68.out; have := HJ87.out; first | omega | exact Nat.le_refl _⟩, ⟨zkq BK1517⟩, ⟨zkq BK1518⟩, ⟨zkq BK1519⟩, ⟨zkq BK1540⟩, ⟨zaB⟩⟩
        case rest =>
         clear HC90
         try clear c52b0
         try clear c53b0
         try clear c91b0
         try clear c91b1
         try clear z46_0 z46_1 z46_2 z46_3 z46_4 z46_5 z46_6 z46_7 z46_8 z46_9 z46_10 f46_0 f46_1 f46_2 f46_3 f46_4 f46_5 f46_6 f46_7 f46_8 f46_9 f46_10
         try clear z51_0 z51_1 z51_2 z51_3 z51_4 z51_5 z51_6 z51_7 z51_8 z51_9 z51_10 f51_0 f51_1 f51_2 f51_3 f51_4 f51_5 f51_6 f51_7 f51_8 f51_9 f51_10
         try clear z57_0 z57_1 z57_2 z57_3 z57_4 z57_5 z57_6 z57_7 z57_8 z57_9 z57_10 f57_0 f57_1 f57_2 f57_3 f57_4 f57_5 f57_6 f57_7 f57_8 f57_9 f57_10
         try clear z61_0 z61_1 z61_2 z61_3 z61_4 z61_5 z61_6 z61_7 z61_8 z61_9 z61_10 f61_0 f61_1 f61_2 f61_3 f61_4 f61_5 f61_6 f61_7 f61_8 f61_9 f61_10
         try clear z65_0 z65_1 z65_2 z65_3 z65_4 z65_5 z65_6 z65_7 z65_8 z65_9 z65_10 f65_0 f65_1 f65_2 f65_3 f65_4 f65_5 f65_6 f65_7 f65_8 f65_9 f65_10
         try clear z73_0 z73_1 z73_2 z73_3 z73_4 z73_5 z73_6 z73_7 z73_8 z73_9 z73_10 f73_0 f73_1 f73_2 f73_3 f73_4 f73_5 f73_6 f73_7 f73_8 f73_9 f73_10
         try clear z81_0 z81_1 z81_2 z81_3 z81_4 z81_5 z81_6 z81_7 z81_8 z81_9 z81_10 f81_0 f81_1 f81_2 f81_3 f81_4 f81_5 f81_6 f81_7 f81_8 f81_9 f81_10
         try clear z86_0 z86_1 z86_2 z86_3 z86_4 z86_5 z86_6 z86_7 z86_8 z86_9 z86_10 f86_0 f86_1 f86_2 f86_3 f86_4 f86_5 f86_6 f86_7 f86_8 f86_9 f86_10
         obtain ⟨kq, x63_89, rfl, HA, HJ89, BK1517, BK1518, BK1519, BK1540, HB⟩ := hcut
         cases kq with
         | zero => exact absurd HA.out (by simp [slip_Do.j3])
         | succ kj89 =>
          have H := HA.out
          clear HA
          simp only [slip_Do.j3] at H
          by_cases c92 : x63_89 = true
          ·subst c92
           replace H := zit H
           obtain ⟨t1544, A93, H⟩ := zbs H
           try dsimp only at H
           obtain ⟨t1545, A94, H⟩ := zbs H
           try dsimp only at H
           obtain rfl := Option.some.inj H
           refine zt3 NB1517_1540 NB1518_1540 NB1519_1540 fun _ _ _ _ _ _ => ?_
           refine zu11 BK1540 fun z98_0 z98_1 z98_2 z98_3 z98_4 z98_5 z98_6 z98_7 z98_8 z98_9 z98_10 f98_0 f98_1 f98_2 f98_3 f98_4 f98_5 f98_6 f98_7 f98_8 f98_9 f98_10 => ?_
           go_wp2_with (first | ((with_reducible refine gtc 133 rfl ?_); refine zgL 70 Try.func133 (slip_add.calls kj89 t1538 t1539 t1544 _ A93.out) (h := ?_); rintro w99 hb; refine zcn4 HB BK1517 BK1518 BK1519 BK1540 hb (c := ?_); clear HB BK1517 BK1518 BK1519 BK1540 hb; intro BK1517 BK1518 BK1519 BK1540 HB) | ((with_reducible refine gtc 133 rfl ?_); refine zgL 72 Try.func133 (slip_add.calls kj89 t1544 x14_87 t1545 _ A94.out) (h := ?_); rintro w100 hb; refine zcn4 HB BK1517 BK1518 BK1519 BK1540 hb (c := ?_); clear HB BK1517 BK1518 BK1519 BK1540 hb; intro BK1517 BK1518 BK1519 BK1540 HB))
           go_ret
           exact ⟨zaE, zaB⟩
          replace c92 := Bool.eq_false_iff.mpr c92
          subst c92
          replace H := zif H
          by_cases c101 : a0 = 7
          ·rw [if_pos c101] at H
           have c101b0 : (a0 == 7) = true := beq_iff_eq.mpr c101
           have c101b1 : (a0 != 7) = false := bne_eq_false_iff_eq.mpr c101
           clear c101
           have HC102 := Aside0.mk H
           clear H
           go_upto_region 12 with (fail)
           go_cut [84] (fun v84 wc => ∃ (kq : Nat) (x84_101 : Bool), v84 = .bool x84_101 ∧ Aside0 (slip_Do.j4 kq x14_87 x84_101 t1523 t1524 t1525 t1529 t1530 t1531 t1535 t1536 t1537 t1538 t1539 = some r) ∧ Aside0 (kq ≤ kj89) ∧ Aside0 (wc.heap[gb1517]? = some (.cells #[.bool a1_0, .int .u64 a1_1, .int .u64 a1_2] 43 (0, 0))) ∧ Aside0 (wc.heap[gb1518]? = some (.cells #[.bool a2_0, .int .u64 a2_1, .int .u64 a2_2] 43 (0, 0))) ∧ Aside0 (wc.heap[gb1519]? = some (.cells #[.bool a3_0, .int .u64 a3_1, .int .u64 a3_2] 43 (0, 0))) ∧ Aside0 (wc.heap[gb1540]? = some (.cells #[.bool t1523, .int .u64 t1524, .int .u64 t1525, .bool t1529, .int .u64 t1530, .int .u64 t1531, .bool t1535, .int .u64 t1536, .int .u64 t1537, .int .u64 t1538, .int .u64 t1539] 128 (0, 0))) ∧ Aside0 (Below w.heap.size w wc))
           case first =>
            have H := HC102.out
            clear HC102
            obtain ⟨t1546, A103, H⟩ := zbs H
            try dsimp only at H
            by_cases c104 : t1538 = t1546
            ·rw [if_pos c104] at H
             have c104b0 : (t1538 == t1546) = true := beq_iff_eq.mpr c104
             have c104b1 : (t1538 != t1546) = false := bne_eq_false_iff_eq.mpr c104
             clear c104
             (first | rw [c104b0] | (simp only [i64_w, i32_w]; rw [c104b0]) | skip)
             have H' := Aside0.mk H
             clear H
             try go_wp2
             replace BK1517 := Aside0.mk (blk_drew BK1517.out)
             replace BK1518 := Aside0.mk (blk_drew BK1518.out)
             replace BK1519 := Aside0.mk (blk_drew BK1519.out)
             replace BK1540 := Aside0.mk (blk_drew BK1540.out)
             replace HB := Aside0.mk (below_drew1 HB.out)
             refine start_ (n := 10) (S := fun w' => w'.cell? ⟨gb1540, 0, none⟩ = some (.bool t1523) ∧ w'.cell? ⟨gb1540, 1, none⟩ = some (.int .u64 t1524) ∧ w'.cell? ⟨gb1540, 2, none⟩ = some (.int .u64 t1525) ∧ w'.cell? ⟨gb1540, 3, none⟩ = some (.bool t1529) ∧ w'.cell? ⟨gb1540, 4, none⟩ = some (.int .u64 t1530) ∧ w'.cell? ⟨gb1540, 5, none⟩ = some (.int .u64 t1531) ∧ w'.cell? ⟨gb1540, 6, none⟩ = some (.bool t1535) ∧ w'.cell? ⟨gb1540, 7, none⟩ = some (.int .u64 t1536) ∧ w'.cell? ⟨gb1540, 8, none⟩ = some (.int .u64 t1537) ∧ w'.cell? ⟨gb1540, 9, none⟩ = some (.int .u64 t1538) ∧ w'.cell? ⟨gb1540, 10, none⟩ = some (.int .u64 t1539)) (ds := []) #[false, false, false, false, false, false, false, false, false, false] (by kernel_rfl) rfl rfl ⟨(blk_cell BK1540.out 0).trans rfl, (blk_cell BK1540.out 1).trans rfl, (blk_cell BK1540.out 2).trans rfl, (blk_cell BK1540.out 3).trans rfl, (blk_cell BK1540.out 4).trans rfl, (blk_cell BK1540.out 5).trans rfl, (blk_cell BK1540.out 6).trans rfl, (blk_cell BK1540.out 7).trans rfl, (blk_cell BK1540.out 8).trans rfl, (blk_cell BK1540.out 9).trans rfl, (blk_cell BK1540.out 10).trans rfl⟩ (fun hHeld => ?_); refine with_tabW slip_Do.tab12 slip_Do.bits12 (fun HT_ HW_ => ?_)
             generalize wc.drew = w105 at BK1517 BK1518 BK1519 BK1540 HB hHeld ⊢
             refine zpA 0 75 (h := ?_)
             refine ztA 1 76 (h := ?_)
             refine zoA 2 77 (h := fun K hK => ?_)
             refine zgA Try.func130 (slip_inf.calls kj89  t1546 _ A103.out) (h := ?_)
             rintro w' ⟨nd, rfl⟩
             refine hK.out _ _ ⟨(blk_cell BK1540.out 0).trans rfl, (blk_cell BK1540.out 1).trans rfl, (blk_cell BK1540.out 2).trans rfl, (blk_cell BK1540.out 3).trans rfl, (blk_cell BK1540.out 4).trans rfl, (blk_cell BK1540.out 5).trans rfl, (blk_cell BK1540.out 6).trans rfl, (blk_cell BK1540.out 7).trans rfl, (blk_cell BK1540.out 8).trans rfl, (blk_cell BK1540.out 9).trans rfl, (blk_cell BK1540.out 10).trans rfl⟩ (fun hHeld => ?_)
             clear hK K
             refine znA 77 (h := ?_)
             refine zpA 3 78 (h := ?_)
             refine zpA 4 79 (h := ?_)
             refine zpU 5 80 (h := ?_)
             refine zpU 6 81 (h := ?_)
             refine zpU 7 82 (h := ?_)
             refine zpU 8 83 (h := ?_)
             refine zpA 9 84 (h := ?_)
             refine done_ (done_of HT_.out (by kernel_rfl)) ?_
             try go_wp2
             go_meet
             case rel => exact ⟨_, (true), zrl, H', ⟨by have := HJ11.out; have := HJ68.out; have := HJ87.out; have := HJ89.out; first | omega | exact Nat.le_refl _⟩, ⟨zkq BK1517⟩, ⟨zkq BK1518⟩, ⟨zkq BK1519⟩, ⟨zkq BK1540⟩, ⟨zaB⟩⟩
            rw [if_neg c104] at H
            have c104b0 : (t1538 == t1546) = false := beq_eq_false_iff_ne.mpr c104
            have c104b1 : (t1538 != t1546) = true := bne_iff_ne.mpr c104
            (first | rw [c104b0] | (simp only [i64_w, i32_w]; rw [c104b0]) | skip)
            obtain ⟨t1547, A106, H⟩ := zbs H
            try dsimp only at H
            have H' := Aside0.mk H
            clear H
            try go_wp2
            replace BK1517 := Aside0.mk (blk_drew BK1517.out)
            replace BK1518 := Aside0.mk (blk_drew BK1518.out)
            replace BK1519 := Aside0.mk (blk_drew BK1519.out)
            replace BK1540 := Aside0.mk (blk_drew BK1540.out)
            replace HB := Aside0.mk (below_drew1 HB.out)
            refine start_ (n := 10) (S := fun w' => w'.cell? ⟨gb1540, 0, none⟩ = some (.bool t1523) ∧ w'.cell? ⟨gb1540, 1, none⟩ = some (.int .u64 t1524) ∧ w'.cell? ⟨gb1540, 2, none⟩ = some (.int .u64 t1525) ∧ w'.cell? ⟨gb1540, 3, none⟩ = some (.bool t1529) ∧ w'.cell? ⟨gb1540, 4, none⟩ = some (.int .u64 t1530) ∧ w'.cell? ⟨gb1540, 5, none⟩ = some (.int .u64 t1531) ∧ w'.cell? ⟨gb1540, 6, none⟩ = some (.bool t1535) ∧ w'.cell? ⟨gb1540, 7, none⟩ = some (.int .u64 t1536) ∧ w'.cell? ⟨gb1540, 8, none⟩ = some (.int .u64 t1537) ∧ w'.cell? ⟨gb1540, 9, none⟩ = some (.int .u64 t1538) ∧ w'.cell? ⟨gb1540, 10, none⟩ = some (.int .u64 t1539)) (ds := []) #[false, false, false, false, false, false, false, false, false, false] (by kernel_rfl) rfl rfl ⟨(blk_cell BK1540.out 0).trans rfl, (blk_cell BK1540.out 1).trans rfl, (blk_cell BK1540.out 2).trans rfl, (blk_cell BK1540.out 3).trans rfl, (blk_cell BK1540.out 4).trans rfl, (blk_cell BK1540.out 5).trans rfl, (blk_cell BK1540.out 6).trans rfl, (blk_cell BK1540.out 7).trans rfl, (blk_cell BK1540.out 8).trans rfl, (blk_cell BK1540.out 9).trans rfl, (blk_cell BK1540.out 10).trans rfl⟩ (fun hHeld => ?_); refine with_tabW slip_Do.tab12 slip_Do.bits12 (fun HT_ HW_ => ?_)
            generalize wc.drew = w107 at BK1517 BK1518 BK1519 BK1540 HB hHeld ⊢
            refine zpA 0 75 (h := ?_)
            refine ztA 1 76 (h := ?_)
            refine zoA 2 77 (h := fun K hK => ?_)
            refine zgA Try.func130 (slip_inf.calls kj89  t1546 _ A103.out) (h := ?_)
            rintro w' ⟨nd, rfl⟩
            refine hK.out _ _ ⟨(blk_cell BK1540.out 0).trans rfl, (blk_cell BK1540.out 1).trans rfl, (blk_cell BK1540.out 2).trans rfl, (blk_cell BK1540.out 3).trans rfl, (blk_cell BK1540.out 4).trans rfl, (blk_cell BK1540.out 5).trans rfl, (blk_cell BK1540.out 6).trans rfl, (blk_cell BK1540.out 7).trans rfl, (blk_cell BK1540.out 8).trans rfl, (blk_cell BK1540.out 9).trans rfl, (blk_cell BK1540.out 10).trans rfl⟩ (fun hHeld => ?_)
            clear hK K
            refine znA 77 (h := ?_)
            refine zpA 3 78 (h := ?_)
            refine zpA 4 79 (h := ?_)
            refine zpA 5 80 (h := ?_)
            refine ztA 6 81 (h := ?_)
            refine zoA 7 82 (h := fun K hK => ?_)
            refine zgA Try.func130 (slip_inf.calls kj89  t1547 _ A106.out) (h := ?_)
            rintro w' ⟨nd, rfl⟩
            refine hK.out _ _ ⟨(blk_cell BK1540.out 0).trans rfl, (blk_cell BK1540.out 1).trans rfl, (blk_cell BK1540.out 2).trans rfl, (blk_cell BK1540.out 3).trans rfl, (blk_cell BK1540.out 4).trans rfl, (blk_cell BK1540.out 5).trans rfl, (blk_cell BK1540.out 6).trans rfl, (blk_cell BK1540.out 7).trans rfl, (blk_cell BK1540.out 8).trans rfl, (blk_cell BK1540.out 9).trans rfl, (blk_cell BK1540.out 10).trans rfl⟩ (fun hHeld => ?_)
            clear hK K
            refine znA 82 (h := ?_)
            refine zpA 8 83 (h := ?_)
            refine zpA 9 84 (h := ?_)
            refine done_ (done_of HT_.out (by kernel_rfl)) ?_
            try go_wp2
            go_meet
            case rel => exact ⟨_, ((t1539 == t1547)), zrl, H', ⟨by have := HJ11.out; have := HJ68.out; have := HJ87.out; have := HJ89.out; first | omega | exact Nat.le_refl _⟩, ⟨zkq BK1517⟩, ⟨zkq BK1518⟩, ⟨zkq BK1519⟩, ⟨zkq BK1540⟩, ⟨zaB⟩⟩
           case rest =>
            clear HC102
            try clear c52b0
            try clear c53b0
            try clear c91b0
            try clear c91b1
            try clear c101b0
            try clear c101b1
            try clear c104b0
            try clear c104b1
            try clear z46_0 z46_1 z46_2 z46_3 z46_4 z46_5 z46_6 z46_7 z46_8 z46_9 z46_10 f46_0 f46_1 f46_2 f46_3 f46_4 f46_5 f46_6 f46_7 f46_8 f46_9 f46_10
            try clear z51_0 z51_1 z51_2 z51_3 z51_4 z51_5 z51_6 z51_7 z51_8 z51_9 z51_10 f51_0 f51_1 f51_2 f51_3 f51_4 f51_5 f51_6 f51_7 f51_8 f51_9 f51_10
            try clear z57_0 z57_1 z57_2 z57_3 z57_4 z57_5 z57_6 z57_7 z57_8 z57_9 z57_10 f57_0 f57_1 f57_2 f57_3 f57_4 f57_5 f57_6 f57_7 f57_8 f57_9 f57_10
            try clear z61_0 z61_1 z61_2 z61_3 z61_4 z61_5 z61_6 z61_7 z61_8 z61_9 z61_10 f61_0 f61_1 f61_2 f61_3 f61_4 f61_5 f61_6 f61_7 f61_8 f61_9 f61_10
            try clear z65_0 z65_1 z65_2 z65_3 z65_4 z65_5 z65_6 z65_7 z65_8 z65_9 z65_10 f65_0 f65_1 f65_2 f65_3 f65_4 f65_5 f65_6 f65_7 f65_8 f65_9 f65_10
            try clear z73_0 z73_1 z73_2 z73_3 z73_4 z73_5 z73_6 z73_7 z73_8 z73_9 z73_10 f73_0 f73_1 f73_2 f73_3 f73_4 f73_5 f73_6 f73_7 f73_8 f73_9 f73_10
            try clear z81_0 z81_1 z81_2 z81_3 z81_4 z81_5 z81_6 z81_7 z81_8 z81_9 z81_10 f81_0 f81_1 f81_2 f81_3 f81_4 f81_5 f81_6 f81_7 f81_8 f81_9 f81_10
            try clear z86_0 z86_1 z86_2 z86_3 z86_4 z86_5 z86_6 z86_7 z86_8 z86_9 z86_10 f86_0 f86_1 f86_2 f86_3 f86_4 f86_5 f86_6 f86_7 f86_8 f86_9 f86_10
            try clear z98_0 z98_1 z98_2 z98_3 z98_4 z98_5 z98_6 z98_7 z98_8 z98_9 z98_10 f98_0 f98_1 f98_2 f98_3 f98_4 f98_5 f98_6 f98_7 f98_8 f98_9 f98_10
            obtain ⟨kq, x84_101, rfl, HA, HJ101, BK1517, BK1518, BK1519, BK1540, HB⟩ := hcut
            cases kq with
            | zero => exact absurd HA.out (by simp [slip_Do.j4])
            | succ kj101 =>
             have H := HA.out
             clear HA
             simp only [slip_Do.j4] at H
             by_cases c108 : x84_101 = true
             ·subst c108
              replace H := zit H
              obtain ⟨t1548, A109, H⟩ := zbs H
              try dsimp only at H
              obtain rfl := Option.some.inj H
              go_wp2_with (first | ((with_reducible refine gtc 130 rfl ?_); refine zgL 85 Try.func130 (slip_inf.calls kj101  t1548 _ A109.out) (h := ?_); rintro w' ⟨nd, rfl⟩))
              go_ret
              exact ⟨zaE, zaB⟩
             replace c108 := Bool.eq_false_iff.mpr c108
             subst c108
             replace H := zif H
             obtain ⟨t1549, A110, H⟩ := zbs H
             try dsimp only at H
             obtain ⟨t1550, A111, H⟩ := zbs H
             try dsimp only at H
             obtain ⟨t1551, A112, H⟩ := zbs H
             try dsimp only at H
             obtain ⟨t1552, A113, H⟩ := zbs H
             try dsimp only at H
             obtain ⟨t1553, A114, H⟩ := zbs H
             try dsimp only at H
             obtain ⟨t1554, A115, H⟩ := zbs H
             try dsimp only at H
             obtain ⟨t1555, A116, H⟩ := zbs H
             try dsimp only at H
             obtain ⟨t1556, A117, H⟩ := zbs H
             try dsimp only at H
             obtain rfl := Option.some.inj H
             try go_wp2
             replace BK1517 := Aside0.mk (blk_drew BK1517.out)
             replace BK1518 := Aside0.mk (blk_drew BK1518.out)
             replace BK1519 := Aside0.mk (blk_drew BK1519.out)
             replace BK1540 := Aside0.mk (blk_drew BK1540.out)
             replace HB := Aside0.mk (below_drew1 HB.out)
             refine start_ (n := 14) (S := fun w' => w'.cell? ⟨gb1540, 0, none⟩ = some (.bool t1523) ∧ w'.cell? ⟨gb1540, 1, none⟩ = some (.int .u64 t1524) ∧ w'.cell? ⟨gb1540, 2, none⟩ = some (.int .u64 t1525) ∧ w'.cell? ⟨gb1540, 3, none⟩ = some (.bool t1529) ∧ w'.cell? ⟨gb1540, 4, none⟩ = some (.int .u64 t1530) ∧ w'.cell? ⟨gb1540, 5, none⟩ = some (.int .u64 t1531) ∧ w'.cell? ⟨gb1540, 6, none⟩ = some (.bool t1535) ∧ w'.cell? ⟨gb1540, 7, none⟩ = some (.int .u64 t1536) ∧ w'.cell? ⟨gb1540, 8, none⟩ = some (.int .u64 t1537) ∧ w'.cell? ⟨gb1540, 9, none⟩ = some (.int .u64 t1538) ∧ w'.cell? ⟨gb1540, 10, none⟩ = some (.int .u64 t1539)) (ds := []) #[false, false, false, false, false, false, false, false, false, false, false, false, false, false] (by kernel_rfl) rfl rfl ⟨(blk_cell BK1540.out 0).trans rfl, (blk_cell BK1540.out 1).trans rfl, (blk_cell BK1540.out 2).trans rfl, (blk_cell BK1540.out 3).trans rfl, (blk_cell BK1540.out 4).trans rfl, (blk_cell BK1540.out 5).trans rfl, (blk_cell BK1540.out 6).trans rfl, (blk_cell BK1540.out 7).trans rfl, (blk_cell BK1540.out 8).trans rfl, (blk_cell BK1540.out 9).trans rfl, (blk_cell BK1540.out 10).trans rfl⟩ (fun hHeld => ?_); refine with_tabW slip_Do.tab14 slip_Do.bits14 (fun HT_ HW_ => ?_)
             generalize wc.drew = w118 at BK1517 BK1518 BK1519 BK1540 HB hHeld ⊢
             refine zpA 0 86 (h := ?_)
             refine zpA 3 89 (h := ?_)
             refine zpA 6 92 (h := ?_)
             refine zpA 9 95 (h := ?_)
             refine ztA 1 87 (h := ?_)
             refine ztA 4 90 (h := ?_)
             refine ztA 7 93 (h := ?_)
             refine ztA 10 96 (h := ?_)
             refine zoA 2 88 (h := fun K hK => ?_)
             refine zgA Try.func50 (span_Most.calls kj101 t1523 t1524 t1525 t1549 _ A110.out) (h := ?_)
             rintro w119 hb
             refine zcn4 HB BK1517 BK1518 BK1519 BK1540 hb (c := ?_)
             clear HB BK1517 BK1518 BK1519 BK1540 hb
             intro BK1517 BK1518 BK1519 BK1540 HB
             refine hK.out _ _ ⟨(blk_cell BK1540.out 0).trans rfl, (blk_cell BK1540.out 1).trans rfl, (blk_cell BK1540.out 2).trans rfl, (blk_cell BK1540.out 3).trans rfl, (blk_cell BK1540.out 4).trans rfl, (blk_cell BK1540.out 5).trans rfl, (blk_cell BK1540.out 6).trans rfl, (blk_cell BK1540.out 7).trans rfl, (blk_cell BK1540.out 8).trans rfl, (blk_cell BK1540.out 9).trans rfl, (blk_cell BK1540.out 10).trans rfl⟩ (fun hHeld => ?_)
             clear hK K
             refine znA 88 (h := ?_)
             refine zoA 5 91 (h := fun K hK => ?_)
             refine zgA Try.func134 (slip_mul.calls kj101 t1549 t1539 t1550 _ A111.out) (h := ?_)
             rintro w120 hb
             refine zcn4 HB BK1517 BK1518 BK1519 BK1540 hb (c := ?_)
             clear HB BK1517 BK1518 BK1519 BK1540 hb
             intro BK1517 BK1518 BK1519 BK1540 HB
             refine hK.out _ _ ⟨(blk_cell BK1540.out 0).trans rfl, (blk_cell BK1540.out 1).trans rfl, (blk_cell BK1540.out 2).trans rfl, (blk_cell BK1540.out 3).trans rfl, (blk_cell BK1540.out 4).trans rfl, (blk_cell BK1540.out 5).trans rfl, (blk_cell BK1540.out 6).trans rfl, (blk_cell BK1540.out 7).trans rfl, (blk_cell BK1540.out 8).trans rfl, (blk_cell BK1540.out 9).trans rfl, (blk_cell BK1540.out 10).trans rfl⟩ (fun hHeld => ?_)
             clear hK K
             refine znA 91 (h := ?_)
             refine zoA 8 94 (h := fun K hK => ?_)
             refine zgA Try.func50 (span_Most.calls kj101 t1529 t1530 t1531 t1551 _ A112.out) (h := ?_)
             rintro w121 hb
             refine zcn4 HB BK1517 BK1518 BK1519 BK1540 hb (c := ?_)
             clear HB BK1517 BK1518 BK1519 BK1540 hb
             intro BK1517 BK1518 BK1519 BK1540 HB
             refine hK.out _ _ ⟨(blk_cell BK1540.out 0).trans rfl, (blk_cell BK1540.out 1).trans rfl, (blk_cell BK1540.out 2).trans rfl, (blk_cell BK1540.out 3).trans rfl, (blk_cell BK1540.out 4).trans rfl, (blk_cell BK1540.out 5).trans rfl, (blk_cell BK1540.out 6).trans rfl, (blk_cell BK1540.out 7).trans rfl, (blk_cell BK1540.out 8).trans rfl, (blk_cell BK1540.out 9).trans rfl, (blk_cell BK1540.out 10).trans rfl⟩ (fun hHeld => ?_)
             clear hK K
             refine znA 94 (h := ?_)
             refine zoA 11 97 (h := fun K hK => ?_)
             refine zgA Try.func134 (slip_mul.calls kj101 t1551 t1538 t1552 _ A113.out) (h := ?_)
             rintro w122 hb
             refine zcn4 HB BK1517 BK1518 BK1519 BK1540 hb (c := ?_)
             clear HB BK1517 BK1518 BK1519 BK1540 hb
             intro BK1517 BK1518 BK1519 BK1540 HB
             refine hK.out _ _ ⟨(blk_cell BK1540.out 0).trans rfl, (blk_cell BK1540.out 1).trans rfl, (blk_cell BK1540.out 2).trans rfl, (blk_cell BK1540.out 3).trans rfl, (blk_cell BK1540.out 4).trans rfl, (blk_cell BK1540.out 5).trans rfl, (blk_cell BK1540.out 6).trans rfl, (blk_cell BK1540.out 7).trans rfl, (blk_cell BK1540.out 8).trans rfl, (blk_cell BK1540.out 9).trans rfl, (blk_cell BK1540.out 10).trans rfl⟩ (fun hHeld => ?_)
             clear hK K
             refine znA 97 (h := ?_)
             refine zoA 12 98 (h := fun K hK => ?_)
             refine zgA Try.func133 (slip_add.calls kj101 t1550 t1552 t1553 _ A114.out) (h := ?_)
             rintro w123 hb
             refine zcn4 HB BK1517 BK1518 BK1519 BK1540 hb (c := ?_)
             clear HB BK1517 BK1518 BK1519 BK1540 hb
             intro BK1517 BK1518 BK1519 BK1540 HB
             refine hK.out _ _ ⟨(blk_cell BK1540.out 0).trans rfl, (blk_cell BK1540.out 1).trans rfl, (blk_cell BK1540.out 2).trans rfl, (blk_cell BK1540.out 3).trans rfl, (blk_cell BK1540.out 4).trans rfl, (blk_cell BK1540.out 5).trans rfl, (blk_cell BK1540.out 6).trans rfl, (blk_cell BK1540.out 7).trans rfl, (blk_cell BK1540.out 8).trans rfl, (blk_cell BK1540.out 9).trans rfl, (blk_cell BK1540.out 10).trans rfl⟩ (fun hHeld => ?_)
             clear hK K
             refine znA 98 (h := ?_)
             refine zpA 13 15 (h := ?_)
             refine done_ (done_of HT_.out (by kernel_rfl)) ?_
             refine zt3 NB1517_1540 NB1518_1540 NB1519_1540 fun _ _ _ _ _ _ => ?_
             refine zu11 BK1540 fun z127_0 z127_1 z127_2 z127_3 z127_4 z127_5 z127_6 z127_7 z127_8 z127_9 z127_10 f127_0 f127_1 f127_2 f127_3 f127_4 f127_5 f127_6 f127_7 f127_8 f127_9 f127_10 => ?_
             try go_wp2_with (first | ((with_reducible refine gtc 134 rfl ?_); refine zgL 104 Try.func134 (slip_mul.calls kj101 t1538 t1539 t1554 _ A115.out) (h := ?_); rintro w128 hb; refine zcn4 HB BK1517 BK1518 BK1519 BK1540 hb (c := ?_); clear HB BK1517 BK1518 BK1519 BK1540 hb; intro BK1517 BK1518 BK1519 BK1540 HB) | ((with_reducible refine gtc 133 rfl ?_); refine zgL 105 Try.func133 (slip_add.calls kj101 t1553 t1554 t1555 _ A116.out) (h := ?_); rintro w129 hb; refine zcn4 HB BK1517 BK1518 BK1519 BK1540 hb (c := ?_); clear HB BK1517 BK1518 BK1519 BK1540 hb; intro BK1517 BK1518 BK1519 BK1540 HB) | ((with_reducible refine gtc 133 rfl ?_); refine zgL 107 Try.func133 (slip_add.calls kj101 t1555 x14_87 t1556 _ A117.out) (h := ?_); rintro w130 hb; refine zcn4 HB BK1517 BK1518 BK1519 BK1540 hb (c := ?_); clear HB BK1517 BK1518 BK1519 BK1540 hb; intro BK1517 BK1518 BK1519 BK1540 HB))
             go_ret
             exact ⟨zaE, zaB⟩
          rw [if_neg c101] at H
          have c101b0 : (a0 == 7) = false := beq_eq_false_iff_ne.mpr c101
          have c101b1 : (a0 != 7) = true := bne_iff_ne.mpr c101
          by_cases c131 : a0 = 8
          ·rw [if_pos c131] at H
           have c131b0 : (a0 == 8) = true := beq_iff_eq.mpr c131
           have c131b1 : (a0 != 8) = false := bne_eq_false_iff_eq.mpr c131
           clear c131
           obtain ⟨t1557, A132, H⟩ := zbs H
           try dsimp only at H
           obtain rfl := Option.some.inj H
           refine zt3 NB1517_1540 NB1518_1540 NB1519_1540 fun _ _ _ _ _ _ => ?_
           refine zu11 BK1540 fun z136_0 z136_1 z136_2 z136_3 z136_4 z136_5 z136_6 z136_7 z136_8 z136_9 z136_10 f136_0 f136_1 f136_2 f136_3 f136_4 f136_5 f136_6 f136_7 f136_8 f136_9 f136_10 => ?_
           go_wp2_with (first | ((with_reducible refine gtc 135 rfl ?_); refine zgL 112 Try.func135 (slip_sides_quotient.calls kj89 t1523 t1524 t1525 t1529 t1530 t1531 t1535 t1536 t1537 t1538 t1539 x14_87 t1557 _ A132.out) (h := ?_); rintro w137 hb; refine zcn4 HB BK1517 BK1518 BK1519 BK1540 hb (c := ?_); clear HB BK1517 BK1518 BK1519 BK1540 hb; intro BK1517 BK1518 BK1519 BK1540 HB))
           go_ret
           exact ⟨zaE, zaB⟩
          rw [if_neg c131] at H
          have c131b0 : (a0 == 8) = false := beq_eq_false_iff_ne.mpr c131
          have c131b1 : (a0 != 8) = true := bne_iff_ne.mpr c131
          have HC138 := Aside0.mk H
          clear H
          go_upto_if 113 with (fail)
          go_cut [113] (fun v113 wc => ∃ (kq : Nat) (x113_137 : Bool), v113 = .bool x113_137 ∧ Aside0 (slip_Do.j5 kq a0 x113_137 t1523 t1524 t1525 t1529 t1530 t1531 t1535 t1536 t1537 t1538 t1539 = some r) ∧ Aside0 (kq ≤ kj89) ∧ Aside0 (wc.heap[gb1517]? = some (.cells #[.bool a1_0, .int .u64 a1_1, .int .u64 a1_2] 43 (0, 0))) ∧ Aside0 (wc.heap[gb1518]? = some (.cells #[.bool a2_0, .int .u64 a2_1, .int .u64 a2_2] 43 (0, 0))) ∧ Aside0 (wc.heap[gb1519]? = some (.cells #[.bool a3_0, .int .u64 a3_1, .int .u64 a3_2] 43 (0, 0))) ∧ Aside0 (wc.heap[gb1540]? = some (.cells #[.bool t1523, .int .u64 t1524, .int .u64 t1525, .bool t1529, .int .u64 t1530, .int .u64 t1531, .bool t1535, .int .u64 t1536, .int .u64 t1537, .int .u64 t1538, .int .u64 t1539] 128 (0, 0))) ∧ Aside0 (Below w.heap.size w wc))
          case first =>
           have H := HC138.out
           clear HC138
           by_cases c139 : a0 = 17
           ·rw [if_pos c139] at H
            have c139b0 : (a0 == 17) = true := beq_iff_eq.mpr c139
            have c139b1 : (a0 != 17) = false := bne_eq_false_iff_eq.mpr c139
            clear c139
            (first | rw [c139b0] | (simp only [i64_w, i32_w]; rw [c139b0]) | skip)
            have H' := Aside0.mk H
            clear H
            go_wp2
            go_meet
            case rel => exact ⟨_, ((a0 == 17)), zrl, H', ⟨by have := HJ11.out; have := HJ68.out; have := HJ87.out; have := HJ89.out; first | omega | exact Nat.le_refl _⟩, ⟨zkq BK1517⟩, ⟨zkq BK1518⟩, ⟨zkq BK1519⟩, ⟨zkq BK1540⟩, ⟨zaB⟩⟩
           rw [if_neg c139] at H
           have c139b0 : (a0 == 17) = false := beq_eq_false_iff_ne.mpr c139
           have c139b1 : (a0 != 17) = true := bne_iff_ne.mpr c139
           (first | rw [c139b0] | (simp only [i64_w, i32_w]; rw [c139b0]) | skip)
           have H' := Aside0.mk H
           clear H
           go_wp2
           go_meet
           case rel => exact ⟨_, ((a0 == 21)), zrl, H', ⟨by have := HJ11.out; have := HJ68.out; have := HJ87.out; have := HJ89.out; first | omega | exact Nat.le_refl _⟩, ⟨zkq BK1517⟩, ⟨zkq BK1518⟩, ⟨zkq BK1519⟩, ⟨zkq BK1540⟩, ⟨zaB⟩⟩
          case rest =>
           clear HC138
           try clear c101b0
           try clear c101b1
           try clear c131b0
           try clear c131b1
           try clear c139b0
           try clear c139b1
           try clear z127_0 z127_1 z127_2 z127_3 z127_4 z127_5 z127_6 z127_7 z127_8 z127_9 z127_10 f127_0 f127_1 f127_2 f127_3 f127_4 f127_5 f127_6 f127_7 f127_8 f127_9 f127_10
           try clear z136_0 z136_1 z136_2 z136_3 z136_4 z136_5 z136_6 z136_7 z136_8 z136_9 z136_10 f136_0 f136_1 f136_2 f136_3 f136_4 f136_5 f136_6 f136_7 f136_8 f136_9 f136_10
           try clear z57_5
           try clear z57_6
           try clear z57_7
           try clear z57_8
           try clear z57_9
           try clear z61_0 z61_1 z61_2 z61_3 z61_4 z61_5 z61_6 z61_7 z61_8 z61_9 z61_10 f61_0 f61_1 f61_2 f61_3 f61_4 f61_5 f61_6 f61_7 f61_8 f61_9 f61_10
           try clear z65_0 z65_1 z65_2 z65_3 z65_4 z65_5 z65_6 z65_7 z65_8 z65_9 z65_10 f65_0 f65_1 f65_2 f65_3 f65_4 f65_5 f65_6 f65_7 f65_8 f65_9 f65_10
           try clear z73_0 z73_1 z73_2 z73_3 z73_4 z73_5 z73_6 z73_7 z73_8 z73_9 z73_10 f73_0 f73_1 f73_2 f73_3 f73_4 f73_5 f73_6 f73_7 f73_8 f73_9 f73_10
           try clear z81_0 z81_1 z81_2 z81_3 z81_4 z81_5 z81_6 z81_7 z81_8 z81_9 z81_10 f81_0 f81_1 f81_2 f81_3 f81_4 f81_5 f81_6 f81_7 f81_8 f81_9 f81_10
           try clear z86_0 z86_1 z86_2 z86_3 z86_4 z86_5 z86_6 z86_7 z86_8 z86_9 z86_10 f86_0 f86_1 f86_2 f86_3 f86_4 f86_5 f86_6 f86_7 f86_8 f86_9 f86_10
           try clear z98_0 z98_1 z98_2 z98_3 z98_4 z98_5 z98_6 z98_7 z98_8 z98_9 z98_10 f98_0 f98_1 f98_2 f98_3 f98_4 f98_5 f98_6 f98_7 f98_8 f98_9 f98_10
           try clear f46_0
           try clear f46_1
           try clear f46_10
           try clear f46_2
           try clear f46_3
           try clear f46_4
           try clear f46_5
           try clear f46_6
           try clear f46_7
           try clear f46_8
           try clear f46_9
           try clear f51_0
           try clear f51_1
           try clear f51_10
           try clear f51_2
           try clear f51_3
           try clear f51_4
           try clear f51_5
           try clear f51_6
           try clear f51_7
           try clear f51_8
           try clear f51_9
           try clear f57_0
           try clear f57_1
           try clear f57_10
           try clear f57_2
           try clear f57_3
           try clear f57_4
           try clear f57_5
           try clear f57_6
           try clear f57_7
           try clear f57_8
           try clear f57_9
           obtain ⟨kq, x113_137, rfl, HA, HJ137, BK1517, BK1518, BK1519, BK1540, HB⟩ := hcut
           cases kq with
           | zero => exact absurd HA.out (by simp [slip_Do.j5])
           | succ kj137 =>
            have H := HA.out
            clear HA
            simp only [slip_Do.j5] at H
            by_cases c140 : x113_137 = true
            ·subst c140
             replace H := zit H
             obtain rfl := Option.some.inj H
             refine zt3 NB1517_1540 NB1518_1540 NB1519_1540 fun _ _ _ _ _ _ => ?_
             refine zu11 BK1540 fun _ _ _ _ _ _ _ _ _ _ _ _ _ _ _ _ _ _ _ _ _ _ => ?_
             go_wp2
             go_ret
             exact ⟨zaE, zaB⟩
            replace c140 := Bool.eq_false_iff.mpr c140
            subst c140
            replace H := zif H
            by_cases c145 : a0 = 20
            ·rw [if_pos c145] at H
             have c145b0 : (a0 == 20) = true := beq_iff_eq.mpr c145
             have c145b1 : (a0 != 20) = false := bne_eq_false_iff_eq.mpr c145
             clear c145
             obtain rfl := Option.some.inj H
             go_wp2
             go_ret
             exact ⟨zaE, zaB⟩
            rw [if_neg c145] at H
            have c145b0 : (a0 == 20) = false := beq_eq_false_iff_ne.mpr c145
            have c145b1 : (a0 != 20) = true := bne_iff_ne.mpr c145
            obtain ⟨t1558, A146, H⟩ := zbs H
            try dsimp only at H
            obtain rfl := Option.some.inj H
            go_wp2_with (first | ((with_reducible refine gtc 130 rfl ?_); refine zgL 120 Try.func130 (slip_inf.calls kj137  t1558 _ A146.out) (h := ?_); rintro w' ⟨nd, rfl⟩))
            go_ret
            exact ⟨zaE, zaB⟩
 intro hJ1_2_4_5_7_8_10_12_14
 refine join_ (σ := Value × Value × Value) 2 #[true, true, true, true, true, true, true, true, true, true, true, true, true, true, false, false] (fun s_ => [(17, s_.1), (18, .agg #[.bool t1523, .int .u64 t1524, .int .u64 t1525]), (20, s_.2.1), (21, .agg #[.bool t1529, .int .u64 t1530, .int .u64 t1531]), (23, s_.2.2), (24, .agg #[.bool t1535, .int .u64 t1536, .int .u64 t1537]), (26, .int .u64 t1538), (28, .int .u64 t1539), (29, .agg #[.bool t1523, .int .u64 t1524, .int .u64 t1525, .bool t1529, .int .u64 t1530, .int .u64 t1531, .bool t1535, .int .u64 t1536, .int .u64 t1537, .int .u64 t1538, .int .u64 t1539])]) (fun s_ w' => (slip_Do.HS w' gb1517 gb1518 gb1519 a1_0 a2_0 a3_0 a1_1 a1_2 a2_1 a2_2 a3_1 a3_2) ∧ (Kd.R k43 43 w' w.heap.size (fun k_ => some k_ ≠ (s_.2.1 : Value).ownBlock ∧ some k_ ≠ (s_.2.2 : Value).ownBlock ∧ k_ ≠ gb1517 ∧ k_ ≠ gb1518 ∧ k_ ≠ gb1519) s_.1 y1520) ∧ (Kd.R k43 43 w' w.heap.size (fun k_ => some k_ ≠ (s_.1 : Value).ownBlock ∧ some k_ ≠ (s_.2.2 : Value).ownBlock ∧ k_ ≠ gb1517 ∧ k_ ≠ gb1518 ∧ k_ ≠ gb1519) s_.2.1 y1526) ∧ (Kd.R k43 43 w' w.heap.size (fun k_ => some k_ ≠ (s_.1 : Value).ownBlock ∧ some k_ ≠ (s_.2.1 : Value).ownBlock ∧ k_ ≠ gb1517 ∧ k_ ≠ gb1518 ∧ k_ ≠ gb1519) s_.2.2 y1532) ∧ (w'.heap[gb1517]? = some (.cells #[.bool a1_0, .int .u64 a1_1, .int .u64 a1_2] 43 (0, 0))) ∧ (w'.heap[gb1518]? = some (.cells #[.bool a2_0, .int .u64 a2_1, .int .u64 a2_2] 43 (0, 0))) ∧ (w'.heap[gb1519]? = some (.cells #[.bool a3_0, .int .u64 a3_1, .int .u64 a3_2] 43 (0, 0))) ∧ (Below w.heap.size w w')) ?_ ?_
 ·skip
  rintro ⟨v1521, v1527, v1533⟩ w29 ⟨hHeld, h0_, h1_, h2_, h3_, h4_, h5_, h6_⟩
  try dsimp only at h0_ h1_ h2_ h3_ h4_ h5_ h6_
  replace HO1522 := Aside0.mk h0_; replace HO1528 := Aside0.mk h1_; replace HO1534 := Aside0.mk h2_; replace BK1517 := Aside0.mk h3_; replace BK1518 := Aside0.mk h4_; replace BK1519 := Aside0.mk h5_; replace HB := Aside0.mk h6_; clear h0_ h1_ h2_ h3_ h4_ h5_ h6_
  refine norm_ (a' := ?_) ?_ ?_
  rotate_left
  ·simp only [putAll, Act.put, List.setIfInBounds_toArray, List.set_cons_zero, List.set_cons_succ]
   rfl
  refine zoA 14 13 (h := fun K hK => ?_)
  refine box_step ?hg (N := 13) ?hd (cs := #[.bool false, .int .u64 0, .int .u64 0, .bool false, .int .u64 0, .int .u64 0, .bool false, .int .u64 0, .int .u64 0, .int .u64 0, .int .u64 0]) (t := 128) ?hr ?_; (case hd => rfl); (case hg => rfl); (case hr => first | (go_simp; done) | (go_simp; rfl))
  intro gb1540 hg w30 hbox hb
  have GW1540 := zkz HB hg
  have NB1517_1540 := zkl BK1517 hg
  have NB1518_1540 := zkl BK1518 hg
  have NB1519_1540 := zkl BK1519 hg
  replace HO1522 := Aside0.mk (Kd.R_below (zRW HO1522.out) hb)
  replace HO1528 := Aside0.mk (Kd.R_below (zRW HO1528.out) hb)
  replace HO1534 := Aside0.mk (Kd.R_below (zRW HO1534.out) hb)
  replace BK1517 := zkb BK1517 hb
  replace BK1518 := zkb BK1518 hb
  replace BK1519 := zkb BK1519 hb
  replace HB := zkB HB hb
  have BK1540 := Aside0.mk (hbox)
  clear hb hbox hg
  refine hK.out _ _ (zk3 BK1517 (zk3 BK1518 (ze3 BK1519))) (fun hHeld => ?_)
  clear hK K
  refine znA 13 (h := ?_)
  exact norm_ zpu (hJ1_2_4_5_7_8_10_12_14 (v1521, v1527, v1533, gb1540) _ ⟨hHeld, (zRW HO1522.out), (zRW HO1528.out), (zRW HO1534.out), (zkq BK1517), (zkq BK1518), (zkq BK1519), (zkq BK1540), GW1540.out, GW1540.out, NB1517_1540.out, (zks NB1517_1540).out, NB1518_1540.out, (zks NB1518_1540).out, NB1519_1540.out, (zks NB1519_1540).out, zaB⟩)
 intro hJ1_2_4_5_7_8_10_12
 refine join_ (σ := Value × Value × Value × Nat) 3 #[true, true, true, true, true, true, true, true, true, true, true, true, false, false, true, false] (fun s_ => [(17, s_.1), (18, .agg #[.bool t1523, .int .u64 t1524, .int .u64 t1525]), (20, s_.2.1), (21, .agg #[.bool t1529, .int .u64 t1530, .int .u64 t1531]), (23, s_.2.2.1), (24, .agg #[.bool t1535, .int .u64 t1536, .int .u64 t1537]), (26, .int .u64 t1538), (13, .pointer (some ⟨s_.2.2.2, 0, none⟩))]) (fun s_ w' => (slip_Do.HS w' gb1517 gb1518 gb1519 a1_0 a2_0 a3_0 a1_1 a1_2 a2_1 a2_2 a3_1 a3_2) ∧ (Kd.R k43 43 w' w.heap.size (fun k_ => some k_ ≠ (s_.2.1 : Value).ownBlock ∧ some k_ ≠ (s_.2.2.1 : Value).ownBlock ∧ k_ ≠ gb1517 ∧ k_ ≠ gb1518 ∧ k_ ≠ gb1519) s_.1 y1520) ∧ (Kd.R k43 43 w' w.heap.size (fun k_ => some k_ ≠ (s_.1 : Value).ownBlock ∧ some k_ ≠ (s_.2.2.1 : Value).ownBlock ∧ k_ ≠ gb1517 ∧ k_ ≠ gb1518 ∧ k_ ≠ gb1519) s_.2.1 y1526) ∧ (Kd.R k43 43 w' w.heap.size (fun k_ => some k_ ≠ (s_.1 : Value).ownBlock ∧ some k_ ≠ (s_.2.1 : Value).ownBlock ∧ k_ ≠ gb1517 ∧ k_ ≠ gb1518 ∧ k_ ≠ gb1519) s_.2.2.1 y1532) ∧ (w'.heap[gb1517]? = some (.cells #[.bool a1_0, .int .u64 a1_1, .int .u64 a1_2] 43 (0, 0))) ∧ (w'.heap[gb1518]? = some (.cells #[.bool a2_0, .int .u64 a2_1, .int .u64 a2_2] 43 (0, 0))) ∧ (w'.heap[gb1519]? = some (.cells #[.bool a3_0, .int .u64 a3_1, .int .u64 a3_2] 43 (0, 0))) ∧ (w'.heap[s_.2.2.2]? = some (.cells #[.bool false, .int .u64 0, .int .u64 0, .bool false, .int .u64 0, .int .u64 0, .bool false, .int .u64 0, .int .u64 0, .int .u64 0, .int .u64 0] 128 (0, 0))) ∧ (w.heap.size ≤ s_.2.2.2) ∧ (w.heap.size ≤ s_.2.2.2) ∧ (gb1517 ≠ s_.2.2.2) ∧ (s_.2.2.2 ≠ gb1517) ∧ (gb1518 ≠ s_.2.2.2) ∧ (s_.2.2.2 ≠ gb1518) ∧ (gb1519 ≠ s_.2.2.2) ∧ (s_.2.2.2 ≠ gb1519) ∧ (Below w.heap.size w w')) ?_ ?_
 ·skip
  rintro ⟨v1521, v1527, v1533, gb1540⟩ w30 ⟨hHeld, h0_, h1_, h2_, h3_, h4_, h5_, h6_, h7_, h8_, h9_, h10_, h11_, h12_, h13_, h14_, h15_⟩
  try dsimp only at h0_ h1_ h2_ h3_ h4_ h5_ h6_ h7_ h8_ h9_ h10_ h11_ h12_ h13_ h14_ h15_
  replace HO1522 := Aside0.mk h0_; replace HO1528 := Aside0.mk h1_; replace HO1534 := Aside0.mk h2_; replace BK1517 := Aside0.mk h3_; replace BK1518 := Aside0.mk h4_; replace BK1519 := Aside0.mk h5_; replace BK1540 := Aside0.mk h6_; replace GW1540 := Aside0.mk h7_; replace GW1540 := Aside0.mk h8_; replace NB1517_1540 := Aside0.mk h9_; replace NB1540_1517 := Aside0.mk h10_; replace NB1518_1540 := Aside0.mk h11_; replace NB1540_1518 := Aside0.mk h12_; replace NB1519_1540 := Aside0.mk h13_; replace NB1540_1519 := Aside0.mk h14_; replace HB := Aside0.mk h15_; clear h0_ h1_ h2_ h3_ h4_ h5_ h6_ h7_ h8_ h9_ h10_ h11_ h12_ h13_ h14_ h15_
  refine norm_ (a' := ?_) ?_ ?_
  rotate_left
  ·simp only [putAll, Act.put, List.setIfInBounds_toArray, List.set_cons_zero, List.set_cons_succ]
   rfl
  refine zoA 12 28 (h := fun K hK => ?_)
  refine zgA Try.func61 (slip_Good.calls k a5 t1539 _ A11.out) (h := ?_)
  rintro w' ⟨nd, rfl⟩
  refine hK.out _ _ (zk3 BK1517 (zk3 BK1518 (ze3 BK1519))) (fun hHeld => ?_)
  clear hK K
  refine znA 28 (h := ?_)
  refine zpA 13 29 (h := ?_)
  exact norm_ zpu (hJ1_2_4_5_7_8_10_12_14 (v1521, v1527, v1533, gb1540) _ ⟨hHeld, (zRW HO1522.out), (zRW HO1528.out), (zRW HO1534.out), (zkq BK1517), (zkq BK1518), (zkq BK1519), (zkq BK1540), GW1540.out, GW1540.out, NB1517_1540.out, (zks NB1517_1540).out, NB1518_1540.out, (zks NB1518_1540).out, NB1519_1540.out, (zks NB1519_1540).out, zaB⟩)
 intro hJ1_2_4_5_7_8_10_14
 refine join_ (σ := Value × Value × Value) 4 #[true, true, true, true, true, true, true, true, true, true, true, true, false, false, false, false] (fun s_ => [(17, s_.1), (18, .agg #[.bool t1523, .int .u64 t1524, .int .u64 t1525]), (20, s_.2.1), (21, .agg #[.bool t1529, .int .u64 t1530, .int .u64 t1531]), (23, s_.2.2), (24, .agg #[.bool t1535, .int .u64 t1536, .int .u64 t1537]), (26, .int .u64 t1538)]) (fun s_ w' => (slip_Do.HS w' gb1517 gb1518 gb1519 a1_0 a2_0 a3_0 a1_1 a1_2 a2_1 a2_2 a3_1 a3_2) ∧ (Kd.R k43 43 w' w.heap.size (fun k_ => some k_ ≠ (s_.2.1 : Value).ownBlock ∧ some k_ ≠ (s_.2.2 : Value).ownBlock ∧ k_ ≠ gb1517 ∧ k_ ≠ gb1518 ∧ k_ ≠ gb1519) s_.1 y1520) ∧ (Kd.R k43 43 w' w.heap.size (fun k_ => some k_ ≠ (s_.1 : Value).ownBlock ∧ some k_ ≠ (s_.2.2 : Value).ownBlock ∧ k_ ≠ gb1517 ∧ k_ ≠ gb1518 ∧ k_ ≠ gb1519) s_.2.1 y1526) ∧ (Kd.R k43 43 w' w.heap.size (fun k_ => some k_ ≠ (s_.1 : Value).ownBlock ∧ some k_ ≠ (s_.2.1 : Value).ownBlock ∧ k_ ≠ gb1517 ∧ k_ ≠ gb1518 ∧ k_ ≠ gb1519) s_.2.2 y1532) ∧ (w'.heap[gb1517]? = some (.cells #[.bool a1_0, .int .u64 a1_1, .int .u64 a1_2] 43 (0, 0))) ∧ (w'.heap[gb1518]? = some (.cells #[.bool a2_0, .int .u64 a2_1, .int .u64 a2_2] 43 (0, 0))) ∧ (w'.heap[gb1519]? = some (.cells #[.bool a3_0, .int .u64 a3_1, .int .u64 a3_2] 43 (0, 0))) ∧ (Below w.heap.size w w')) ?_ ?_
 ·skip
  rintro ⟨v1521, v1527, v1533⟩ w29 ⟨hHeld, h0_, h1_, h2_, h3_, h4_, h5_, h6_⟩
  try dsimp only at h0_ h1_ h2_ h3_ h4_ h5_ h6_
  replace HO1522 := Aside0.mk h0_; replace HO1528 := Aside0.mk h1_; replace HO1534 := Aside0.mk h2_; replace BK1517 := Aside0.mk h3_; replace BK1518 := Aside0.mk h4_; replace BK1519 := Aside0.mk h5_; replace HB := Aside0.mk h6_; clear h0_ h1_ h2_ h3_ h4_ h5_ h6_
  refine norm_ (a' := ?_) ?_ ?_
  rotate_left
  ·simp only [putAll, Act.put, List.setIfInBounds_toArray, List.set_cons_zero, List.set_cons_succ]
   rfl
  refine two_ (i := 12) (j := 14) (Ni := some 28) (Nj := some 13) #[true, true, true, true, true, true, true, true, true, true, true, true, true, false, false, false] #[true, true, true, true, true, true, true, true, true, true, true, true, false, false, true, false] rfl rfl rfl rfl (two_of HT_.out (by kernel_rfl)) (by decide) (by decide) (fun K hK => ?_) (fun K hK => ?_)
  ·skip
   refine zgA Try.func61 (slip_Good.calls k a5 t1539 _ A11.out) (h := ?_)
   rintro w' ⟨nd, rfl⟩
   refine hK.out _ _ (zk3 BK1517 (zk3 BK1518 (ze3 BK1519))) (fun hHeld => ?_)
   clear hK K
   refine znA 28 (h := ?_)
   refine zpA 13 29 (h := ?_)
   exact norm_ zpu (hJ1_2_4_5_7_8_10_12 (v1521, v1527, v1533) _ ⟨hHeld, (zRW HO1522.out), (zRW HO1528.out), (zRW HO1534.out), (zkq BK1517), (zkq BK1518), (zkq BK1519), zaB⟩)
  skip
  refine box_step ?hg (N := 13) ?hd (cs := #[.bool false, .int .u64 0, .int .u64 0, .bool false, .int .u64 0, .int .u64 0, .bool false, .int .u64 0, .int .u64 0, .int .u64 0, .int .u64 0]) (t := 128) ?hr ?_; (case hd => rfl); (case hg => rfl); (case hr => first | (go_simp; done) | (go_simp; rfl))
  intro gb1540 hg w30 hbox hb
  have GW1540 := zkz HB hg
  have NB1517_1540 := zkl BK1517 hg
  have NB1518_1540 := zkl BK1518 hg
  have NB1519_1540 := zkl BK1519 hg
  replace HO1522 := Aside0.mk (Kd.R_below (zRW HO1522.out) hb)
  replace HO1528 := Aside0.mk (Kd.R_below (zRW HO1528.out) hb)
  replace HO1534 := Aside0.mk (Kd.R_below (zRW HO1534.out) hb)
  replace BK1517 := zkb BK1517 hb
  replace BK1518 := zkb BK1518 hb
  replace BK1519 := zkb BK1519 hb
  replace HB := zkB HB hb
  have BK1540 := Aside0.mk (hbox)
  clear hb hbox hg
  refine hK.out _ _ (zk3 BK1517 (zk3 BK1518 (ze3 BK1519))) (fun hHeld => ?_)
  clear hK K
  refine znA 13 (h := ?_)
  exact norm_ zpu (hJ1_2_4_5_7_8_10_14 (v1521, v1527, v1533, gb1540) _ ⟨hHeld, (zRW HO1522.out), (zRW HO1528.out), (zRW HO1534.out), (zkq BK1517), (zkq BK1518), (zkq BK1519), (zkq BK1540), GW1540.out, GW1540.out, NB1517_1540.out, (zks NB1517_1540).out, NB1518_1540.out, (zks NB1518_1540).out, NB1519_1540.out, (zks NB1519_1540).out, zaB⟩)
 intro hJ1_2_4_5_7_8_10
 refine join_ (σ := Value × Value × Value × Nat) 4 #[true, true, true, true, true, true, true, true, true, true, false, true, false, false, true, false] (fun s_ => [(17, s_.1), (18, .agg #[.bool t1523, .int .u64 t1524, .int .u64 t1525]), (20, s_.2.1), (21, .agg #[.bool t1529, .int .u64 t1530, .int .u64 t1531]), (23, s_.2.2.1), (24, .agg #[.bool t1535, .int .u64 t1536, .int .u64 t1537]), (13, .pointer (some ⟨s_.2.2.2, 0, none⟩))]) (fun s_ w' => (slip_Do.HS w' gb1517 gb1518 gb1519 a1_0 a2_0 a3_0 a1_1 a1_2 a2_1 a2_2 a3_1 a3_2) ∧ (Kd.R k43 43 w' w.heap.size (fun k_ => some k_ ≠ (s_.2.1 : Value).ownBlock ∧ some k_ ≠ (s_.2.2.1 : Value).ownBlock ∧ k_ ≠ gb1517 ∧ k_ ≠ gb1518 ∧ k_ ≠ gb1519) s_.1 y1520) ∧ (Kd.R k43 43 w' w.heap.size (fun k_ => some k_ ≠ (s_.1 : Value).ownBlock ∧ some k_ ≠ (s_.2.2.1 : Value).ownBlock ∧ k_ ≠ gb1517 ∧ k_ ≠ gb1518 ∧ k_ ≠ gb1519) s_.2.1 y1526) ∧ (Kd.R k43 43 w' w.heap.size (fun k_ => some k_ ≠ (s_.1 : Value).ownBlock ∧ some k_ ≠ (s_.2.1 : Value).ownBlock ∧ k_ ≠ gb1517 ∧ k_ ≠ gb1518 ∧ k_ ≠ gb1519) s_.2.2.1 y1532) ∧ (w'.heap[gb1517]? = some (.cells #[.bool a1_0, .int .u64 a1_1, .int .u64 a1_2] 43 (0, 0))) ∧ (w'.heap[gb1518]? = some (.cells #[.bool a2_0, .int .u64 a2_1, .int .u64 a2_2] 43 (0, 0))) ∧ (w'.heap[gb1519]? = some (.cells #[.bool a3_0, .int .u64 a3_1, .int .u64 a3_2] 43 (0, 0))) ∧ (w'.heap[s_.2.2.2]? = some (.cells #[.bool false, .int .u64 0, .int .u64 0, .bool false, .int .u64 0, .int .u64 0, .bool false, .int .u64 0, .int .u64 0, .int .u64 0, .int .u64 0] 128 (0, 0))) ∧ (w.heap.size ≤ s_.2.2.2) ∧ (w.heap.size ≤ s_.2.2.2) ∧ (gb1517 ≠ s_.2.2.2) ∧ (s_.2.2.2 ≠ gb1517) ∧ (gb1518 ≠ s_.2.2.2) ∧ (s_.2.2.2 ≠ gb1518) ∧ (gb1519 ≠ s_.2.2.2) ∧ (s_.2.2.2 ≠ gb1519) ∧ (Below w.heap.size w w')) ?_ ?_
 ·skip
  rintro ⟨v1521, v1527, v1533, gb1540⟩ w30 ⟨hHeld, h0_, h1_, h2_, h3_, h4_, h5_, h6_, h7_, h8_, h9_, h10_, h11_, h12_, h13_, h14_, h15_⟩
  try dsimp only at h0_ h1_ h2_ h3_ h4_ h5_ h6_ h7_ h8_ h9_ h10_ h11_ h12_ h13_ h14_ h15_
  replace HO1522 := Aside0.mk h0_; replace HO1528 := Aside0.mk h1_; replace HO1534 := Aside0.mk h2_; replace BK1517 := Aside0.mk h3_; replace BK1518 := Aside0.mk h4_; replace BK1519 := Aside0.mk h5_; replace BK1540 := Aside0.mk h6_; replace GW1540 := Aside0.mk h7_; replace GW1540 := Aside0.mk h8_; replace NB1517_1540 := Aside0.mk h9_; replace NB1540_1517 := Aside0.mk h10_; replace NB1518_1540 := Aside0.mk h11_; replace NB1540_1518 := Aside0.mk h12_; replace NB1519_1540 := Aside0.mk h13_; replace NB1540_1519 := Aside0.mk h14_; replace HB := Aside0.mk h15_; clear h0_ h1_ h2_ h3_ h4_ h5_ h6_ h7_ h8_ h9_ h10_ h11_ h12_ h13_ h14_ h15_
  refine norm_ (a' := ?_) ?_ ?_
  rotate_left
  ·simp only [putAll, Act.put, List.setIfInBounds_toArray, List.set_cons_zero, List.set_cons_succ]
   rfl
  refine zoA 10 26 (h := fun K hK => ?_)
  refine zgA Try.func61 (slip_Good.calls k a4 t1538 _ A10.out) (h := ?_)
  rintro w' ⟨nd, rfl⟩
  refine hK.out _ _ (zk3 BK1517 (zk3 BK1518 (ze3 BK1519))) (fun hHeld => ?_)
  clear hK K
  refine znA 26 (h := ?_)
  exact norm_ zpu (hJ1_2_4_5_7_8_10_14 (v1521, v1527, v1533, gb1540) _ ⟨hHeld, (zRW HO1522.out), (zRW HO1528.out), (zRW HO1534.out), (zkq BK1517), (zkq BK1518), (zkq BK1519), (zkq BK1540), GW1540.out, GW1540.out, NB1517_1540.out, (zks NB1517_1540).out, NB1518_1540.out, (zks NB1518_1540).out, NB1519_1540.out, (zks NB1519_1540).out, zaB⟩)
 intro hJ1_2_4_5_7_8_14
 refine join_ (σ := Value × Value × Value) 5 #[true, true, true, true, true, true, true, true, true, true, false, true, false, false, false, false] (fun s_ => [(17, s_.1), (18, .agg #[.bool t1523, .int .u64 t1524, .int .u64 t1525]), (20, s_.2.1), (21, .agg #[.bool t1529, .int .u64 t1530, .int .u64 t1531]), (23, s_.2.2), (24, .agg #[.bool t1535, .int .u64 t1536, .int .u64 t1537])]) (fun s_ w' => (slip_Do.HS w' gb1517 gb1518 gb1519 a1_0 a2_0 a3_0 a1_1 a1_2 a2_1 a2_2 a3_1 a3_2) ∧ (Kd.R k43 43 w' w.heap.size (fun k_ => some k_ ≠ (s_.2.1 : Value).ownBlock ∧ some k_ ≠ (s_.2.2 : Value).ownBlock ∧ k_ ≠ gb1517 ∧ k_ ≠ gb1518 ∧ k_ ≠ gb1519) s_.1 y1520) ∧ (Kd.R k43 43 w' w.heap.size (fun k_ => some k_ ≠ (s_.1 : Value).ownBlock ∧ some k_ ≠ (s_.2.2 : Value).ownBlock ∧ k_ ≠ gb1517 ∧ k_ ≠ gb1518 ∧ k_ ≠ gb1519) s_.2.1 y1526) ∧ (Kd.R k43 43 w' w.heap.size (fun k_ => some k_ ≠ (s_.1 : Value).ownBlock ∧ some k_ ≠ (s_.2.1 : Value).ownBlock ∧ k_ ≠ gb1517 ∧ k_ ≠ gb1518 ∧ k_ ≠ gb1519) s_.2.2 y1532) ∧ (w'.heap[gb1517]? = some (.cells #[.bool a1_0, .int .u64 a1_1, .int .u64 a1_2] 43 (0, 0))) ∧ (w'.heap[gb1518]? = some (.cells #[.bool a2_0, .int .u64 a2_1, .int .u64 a2_2] 43 (0, 0))) ∧ (w'.heap[gb1519]? = some (.cells #[.bool a3_0, .int .u64 a3_1, .int .u64 a3_2] 43 (0, 0))) ∧ (Below w.heap.size w w')) ?_ ?_
 ·skip
  rintro ⟨v1521, v1527, v1533⟩ w29 ⟨hHeld, h0_, h1_, h2_, h3_, h4_, h5_, h6_⟩
  try dsimp only at h0_ h1_ h2_ h3_ h4_ h5_ h6_
  replace HO1522 := Aside0.mk h0_; replace HO1528 := Aside0.mk h1_; replace HO1534 := Aside0.mk h2_; replace BK1517 := Aside0.mk h3_; replace BK1518 := Aside0.mk h4_; replace BK1519 := Aside0.mk h5_; replace HB := Aside0.mk h6_; clear h0_ h1_ h2_ h3_ h4_ h5_ h6_
  refine norm_ (a' := ?_) ?_ ?_
  rotate_left
  ·simp only [putAll, Act.put, List.setIfInBounds_toArray, List.set_cons_zero, List.set_cons_succ]
   rfl
  refine two_ (i := 10) (j := 14) (Ni := some 26) (Nj := some 13) #[true, true, true, true, true, true, true, true, true, true, true, true, false, false, false, false] #[true, true, true, true, true, true, true, true, true, true, false, true, false, false, true, false] rfl rfl rfl rfl (two_of HT_.out (by kernel_rfl)) (by decide) (by decide) (fun K hK => ?_) (fun K hK => ?_)
  ·skip
   refine zgA Try.func61 (slip_Good.calls k a4 t1538 _ A10.out) (h := ?_)
   rintro w' ⟨nd, rfl⟩
   refine hK.out _ _ (zk3 BK1517 (zk3 BK1518 (ze3 BK1519))) (fun hHeld => ?_)
   clear hK K
   refine znA 26 (h := ?_)
   exact norm_ zpu (hJ1_2_4_5_7_8_10 (v1521, v1527, v1533) _ ⟨hHeld, (zRW HO1522.out), (zRW HO1528.out), (zRW HO1534.out), (zkq BK1517), (zkq BK1518), (zkq BK1519), zaB⟩)
  skip
  refine box_step ?hg (N := 13) ?hd (cs := #[.bool false, .int .u64 0, .int .u64 0, .bool false, .int .u64 0, .int .u64 0, .bool false, .int .u64 0, .int .u64 0, .int .u64 0, .int .u64 0]) (t := 128) ?hr ?_; (case hd => rfl); (case hg => rfl); (case hr => first | (go_simp; done) | (go_simp; rfl))
  intro gb1540 hg w30 hbox hb
  have GW1540 := zkz HB hg
  have NB1517_1540 := zkl BK1517 hg
  have NB1518_1540 := zkl BK1518 hg
  have NB1519_1540 := zkl BK1519 hg
  replace HO1522 := Aside0.mk (Kd.R_below (zRW HO1522.out) hb)
  replace HO1528 := Aside0.mk (Kd.R_below (zRW HO1528.out) hb)
  replace HO1534 := Aside0.mk (Kd.R_below (zRW HO1534.out) hb)
  replace BK1517 := zkb BK1517 hb
  replace BK1518 := zkb BK1518 hb
  replace BK1519 := zkb BK1519 hb
  replace HB := zkB HB hb
  have BK1540 := Aside0.mk (hbox)
  clear hb hbox hg
  refine hK.out _ _ (zk3 BK1517 (zk3 BK1518 (ze3 BK1519))) (fun hHeld => ?_)
  clear hK K
  refine znA 13 (h := ?_)
  exact norm_ zpu (hJ1_2_4_5_7_8_14 (v1521, v1527, v1533, gb1540) _ ⟨hHeld, (zRW HO1522.out), (zRW HO1528.out), (zRW HO1534.out), (zkq BK1517), (zkq BK1518), (zkq BK1519), (zkq BK1540), GW1540.out, GW1540.out, NB1517_1540.out, (zks NB1517_1540).out, NB1518_1540.out, (zks NB1518_1540).out, NB1519_1540.out, (zks NB1519_1540).out, zaB⟩)
 intro hJ1_2_4_5_7_8
 refine join_ (σ := Value × Value × Value × Nat) 5 #[true, true, true, true, true, true, true, true, false, true, false, true, false, false, true, false] (fun s_ => [(17, s_.1), (18, .agg #[.bool t1523, .int .u64 t1524, .int .u64 t1525]), (20, s_.2.1), (21, .agg #[.bool t1529, .int .u64 t1530, .int .u64 t1531]), (23, s_.2.2.1), (13, .pointer (some ⟨s_.2.2.2, 0, none⟩))]) (fun s_ w' => (slip_Do.HS w' gb1517 gb1518 gb1519 a1_0 a2_0 a3_0 a1_1 a1_2 a2_1 a2_2 a3_1 a3_2) ∧ (Kd.R k43 43 w' w.heap.size (fun k_ => some k_ ≠ (s_.2.1 : Value).ownBlock ∧ some k_ ≠ (s_.2.2.1 : Value).ownBlock ∧ k_ ≠ gb1517 ∧ k_ ≠ gb1518 ∧ k_ ≠ gb1519) s_.1 y1520) ∧ (Kd.R k43 43 w' w.heap.size (fun k_ => some k_ ≠ (s_.1 : Value).ownBlock ∧ some k_ ≠ (s_.2.2.1 : Value).ownBlock ∧ k_ ≠ gb1517 ∧ k_ ≠ gb1518 ∧ k_ ≠ gb1519) s_.2.1 y1526) ∧ (Kd.R k43 43 w' w.heap.size (fun k_ => some k_ ≠ (s_.1 : Value).ownBlock ∧ some k_ ≠ (s_.2.1 : Value).ownBlock ∧ k_ ≠ gb1517 ∧ k_ ≠ gb1518 ∧ k_ ≠ gb1519) s_.2.2.1 y1532) ∧ (w'.heap[gb1517]? = some (.cells #[.bool a1_0, .int .u64 a1_1, .int .u64 a1_2] 43 (0, 0))) ∧ (w'.heap[gb1518]? = some (.cells #[.bool a2_0, .int .u64 a2_1, .int .u64 a2_2] 43 (0, 0))) ∧ (w'.heap[gb1519]? = some (.cells #[.bool a3_0, .int .u64 a3_1, .int .u64 a3_2] 43 (0, 0))) ∧ (w'.heap[s_.2.2.2]? = some (.cells #[.bool false, .int .u64 0, .int .u64 0, .bool false, .int .u64 0, .int .u64 0, .bool false, .int .u64 0, .int .u64 0, .int .u64 0, .int .u64 0] 128 (0, 0))) ∧ (w.heap.size ≤ s_.2.2.2) ∧ (w.heap.size ≤ s_.2.2.2) ∧ (gb1517 ≠ s_.2.2.2) ∧ (s_.2.2.2 ≠ gb1517) ∧ (gb1518 ≠ s_.2.2.2) ∧ (s_.2.2.2 ≠ gb1518) ∧ (gb1519 ≠ s_.2.2.2) ∧ (s_.2.2.2 ≠ gb1519) ∧ (Below w.heap.size w w')) ?_ ?_
 ·skip
  rintro ⟨v1521, v1527, v1533, gb1540⟩ w28 ⟨hHeld, h0_, h1_, h2_, h3_, h4_, h5_, h6_, h7_, h8_, h9_, h10_, h11_, h12_, h13_, h14_, h15_⟩
  try dsimp only at h0_ h1_ h2_ h3_ h4_ h5_ h6_ h7_ h8_ h9_ h10_ h11_ h12_ h13_ h14_ h15_
  replace HO1522 := Aside0.mk h0_; replace HO1528 := Aside0.mk h1_; replace HO1534 := Aside0.mk h2_; replace BK1517 := Aside0.mk h3_; replace BK1518 := Aside0.mk h4_; replace BK1519 := Aside0.mk h5_; replace BK1540 := Aside0.mk h6_; replace GW1540 := Aside0.mk h7_; replace GW1540 := Aside0.mk h8_; replace NB1517_1540 := Aside0.mk h9_; replace NB1540_1517 := Aside0.mk h10_; replace NB1518_1540 := Aside0.mk h11_; replace NB1540_1518 := Aside0.mk h12_; replace NB1519_1540 := Aside0.mk h13_; replace NB1540_1519 := Aside0.mk h14_; replace HB := Aside0.mk h15_; clear h0_ h1_ h2_ h3_ h4_ h5_ h6_ h7_ h8_ h9_ h10_ h11_ h12_ h13_ h14_ h15_
  obtain ⟨Ao29, co29, eo29⟩ := Kd.R_slice HO1534.out
  (first | subst eo29 | (injection eo29 with f1_ f2_ f3_; have f4_ := f1_.symm; have f5_ := f3_.symm; clear f1_ f2_ f3_; subst f4_; subst f5_))
  refine norm_ (a' := ?_) ?_ ?_
  rotate_left
  ·simp only [putAll, Act.put, List.setIfInBounds_toArray, List.set_cons_zero, List.set_cons_succ]
   rfl
  refine zoA 8 24 (h := fun K hK => ?_)
  refine goes_ Try.func45 (by kernel_rfl) rfl #[.slice Ao29 y1532.length co29] (by rfl) rfl rfl (by (try simp only [List.map_toArray, List.map_cons, List.map_nil]); first | done | rfl | (simp only [List.length_drop, List.length_take]; rfl)) ?_
  with_reducible refine (span_Join.calls k _ _ y1532 t1535 t1536 t1537 _ ?side1 ?side2 A9.out).mono ?_
  (case side1 => repeat (first | exact (Kd.R_reads' HO1534.out).2.2 | (with_reducible refine Kd.C_alloc ?_ _) | (with_reducible refine Kd.C_drewN ?_ _) | (with_reducible refine Kd.C_drew ?_)))
  (case side2 => exact (Kd.R_reads' HO1534.out).2.1)
  rintro e w30 ⟨rfl, hb⟩
  refine ⟨_, rfl, ?_⟩
  replace HO1522 := Aside0.mk (Kd.R_below (zRW HO1522.out) hb)
  replace HO1528 := Aside0.mk (Kd.R_below (zRW HO1528.out) hb)
  replace HO1534 := Aside0.mk (Kd.R_below (zRW HO1534.out) hb)
  refine zcn4 HB BK1517 BK1518 BK1519 BK1540 hb (c := ?_)
  clear HB BK1517 BK1518 BK1519 BK1540 hb
  intro BK1517 BK1518 BK1519 BK1540 HB
  refine hK.out _ _ (zk3 BK1517 (zk3 BK1518 (ze3 BK1519))) (fun hHeld => ?_)
  clear hK K
  refine znA 24 (h := ?_)
  exact norm_ zpu (hJ1_2_4_5_7_8_14 (v1521, v1527, .slice Ao29 y1532.length co29, gb1540) _ ⟨hHeld, (zRW HO1522.out), (zRW HO1528.out), (zRW HO1534.out), (zkq BK1517), (zkq BK1518), (zkq BK1519), (zkq BK1540), GW1540.out, GW1540.out, NB1517_1540.out, (zks NB1517_1540).out, NB1518_1540.out, (zks NB1518_1540).out, NB1519_1540.out, (zks NB1519_1540).out, zaB⟩)
 intro hJ1_2_4_5_7_14
 refine join_ (σ := Value × Value × Value) 6 #[true, true, true, true, true, true, true, true, false, true, false, true, false, false, false, false] (fun s_ => [(17, s_.1), (18, .agg #[.bool t1523, .int .u64 t1524, .int .u64 t1525]), (20, s_.2.1), (21, .agg #[.bool t1529, .int .u64 t1530, .int .u64 t1531]), (23, s_.2.2)]) (fun s_ w' => (slip_Do.HS w' gb1517 gb1518 gb1519 a1_0 a2_0 a3_0 a1_1 a1_2 a2_1 a2_2 a3_1 a3_2) ∧ (Kd.R k43 43 w' w.heap.size (fun k_ => some k_ ≠ (s_.2.1 : Value).ownBlock ∧ some k_ ≠ (s_.2.2 : Value).ownBlock ∧ k_ ≠ gb1517 ∧ k_ ≠ gb1518 ∧ k_ ≠ gb1519) s_.1 y1520) ∧ (Kd.R k43 43 w' w.heap.size (fun k_ => some k_ ≠ (s_.1 : Value).ownBlock ∧ some k_ ≠ (s_.2.2 : Value).ownBlock ∧ k_ ≠ gb1517 ∧ k_ ≠ gb1518 ∧ k_ ≠ gb1519) s_.2.1 y1526) ∧ (Kd.R k43 43 w' w.heap.size (fun k_ => some k_ ≠ (s_.1 : Value).ownBlock ∧ some k_ ≠ (s_.2.1 : Value).ownBlock ∧ k_ ≠ gb1517 ∧ k_ ≠ gb1518 ∧ k_ ≠ gb1519) s_.2.2 y1532) ∧ (w'.heap[gb1517]? = some (.cells #[.bool a1_0, .int .u64 a1_1, .int .u64 a1_2] 43 (0, 0))) ∧ (w'.heap[gb1518]? = some (.cells #[.bool a2_0, .int .u64 a2_1, .int .u64 a2_2] 43 (0, 0))) ∧ (w'.heap[gb1519]? = some (.cells #[.bool a3_0, .int .u64 a3_1, .int .u64 a3_2] 43 (0, 0))) ∧ (Below w.heap.size w w')) ?_ ?_
 ·skip
  rintro ⟨v1521, v1527, v1533⟩ w27 ⟨hHeld, h0_, h1_, h2_, h3_, h4_, h5_, h6_⟩
  try dsimp only at h0_ h1_ h2_ h3_ h4_ h5_ h6_
  replace HO1522 := Aside0.mk h0_; replace HO1528 := Aside0.mk h1_; replace HO1534 := Aside0.mk h2_; replace BK1517 := Aside0.mk h3_; replace BK1518 := Aside0.mk h4_; replace BK1519 := Aside0.mk h5_; replace HB := Aside0.mk h6_; clear h0_ h1_ h2_ h3_ h4_ h5_ h6_
  obtain ⟨Ao28, co28, eo28⟩ := Kd.R_slice HO1534.out
  (first | subst eo28 | (injection eo28 with f1_ f2_ f3_; have f4_ := f1_.symm; have f5_ := f3_.symm; clear f1_ f2_ f3_; subst f4_; subst f5_))
  refine norm_ (a' := ?_) ?_ ?_
  rotate_left
  ·simp only [putAll, Act.put, List.setIfInBounds_toArray, List.set_cons_zero, List.set_cons_succ]
   rfl
  refine two_ (i := 8) (j := 14) (Ni := some 24) (Nj := some 13) #[true, true, true, true, true, true, true, true, true, true, false, true, false, false, false, false] #[true, true, true, true, true, true, true, true, false, true, false, true, false, false, true, false] rfl rfl rfl rfl (two_of HT_.out (by kernel_rfl)) (by decide) (by decide) (fun K hK => ?_) (fun K hK => ?_)
  ·skip
   refine goes_ Try.func45 (by kernel_rfl) rfl #[.slice Ao28 y1532.length co28] (by rfl) rfl rfl (by (try simp only [List.map_toArray, List.map_cons, List.map_nil]); first | done | rfl | (simp only [List.length_drop, List.length_take]; rfl)) ?_
   with_reducible refine (span_Join.calls k _ _ y1532 t1535 t1536 t1537 _ ?side1 ?side2 A9.out).mono ?_
   (case side1 => repeat (first | exact (Kd.R_reads' HO1534.out).2.2 | (with_reducible refine Kd.C_alloc ?_ _) | (with_reducible refine Kd.C_drewN ?_ _) | (with_reducible refine Kd.C_drew ?_)))
   (case side2 => exact (Kd.R_reads' HO1534.out).2.1)
   rintro e w29 ⟨rfl, hb⟩
   refine ⟨_, rfl, ?_⟩
   replace HO1522 := Aside0.mk (Kd.R_below (zRW HO1522.out) hb)
   replace HO1528 := Aside0.mk (Kd.R_below (zRW HO1528.out) hb)
   replace HO1534 := Aside0.mk (Kd.R_below (zRW HO1534.out) hb)
   refine zcn3 HB BK1517 BK1518 BK1519 hb (c := ?_)
   clear HB BK1517 BK1518 BK1519 hb
   intro BK1517 BK1518 BK1519 HB
   refine hK.out _ _ (zk3 BK1517 (zk3 BK1518 (ze3 BK1519))) (fun hHeld => ?_)
   clear hK K
   refine znA 24 (h := ?_)
   exact norm_ zpu (hJ1_2_4_5_7_8 (v1521, v1527, .slice Ao28 y1532.length co28) _ ⟨hHeld, (zRW HO1522.out), (zRW HO1528.out), (zRW HO1534.out), (zkq BK1517), (zkq BK1518), (zkq BK1519), zaB⟩)
  skip
  refine box_step ?hg (N := 13) ?hd (cs := #[.bool false, .int .u64 0, .int .u64 0, .bool false, .int .u64 0, .int .u64 0, .bool false, .int .u64 0, .int .u64 0, .int .u64 0, .int .u64 0]) (t := 128) ?hr ?_; (case hd => rfl); (case hg => rfl); (case hr => first | (go_simp; done) | (go_simp; rfl))
  intro gb1540 hg w28 hbox hb
  have GW1540 := zkz HB hg
  have NB1517_1540 := zkl BK1517 hg
  have NB1518_1540 := zkl BK1518 hg
  have NB1519_1540 := zkl BK1519 hg
  replace HO1522 := Aside0.mk (Kd.R_below (zRW HO1522.out) hb)
  replace HO1528 := Aside0.mk (Kd.R_below (zRW HO1528.out) hb)
  replace HO1534 := Aside0.mk (Kd.R_below (zRW HO1534.out) hb)
  replace BK1517 := zkb BK1517 hb
  replace BK1518 := zkb BK1518 hb
  replace BK1519 := zkb BK1519 hb
  replace HB := zkB HB hb
  have BK1540 := Aside0.mk (hbox)
  clear hb hbox hg
  refine hK.out _ _ (zk3 BK1517 (zk3 BK1518 (ze3 BK1519))) (fun hHeld => ?_)
  clear hK K
  refine znA 13 (h := ?_)
  exact norm_ zpu (hJ1_2_4_5_7_14 (v1521, v1527, (.slice Ao28 y1532.length co28), gb1540) _ ⟨hHeld, (zRW HO1522.out), (zRW HO1528.out), (zRW HO1534.out), (zkq BK1517), (zkq BK1518), (zkq BK1519), (zkq BK1540), GW1540.out, GW1540.out, NB1517_1540.out, (zks NB1517_1540).out, NB1518_1540.out, (zks NB1518_1540).out, NB1519_1540.out, (zks NB1519_1540).out, zaB⟩)
 intro hJ1_2_4_5_7
 refine join_ (σ := Value × Value × Nat) 6 #[true, true, true, true, true, true, true, false, false, true, false, true, false, false, true, false] (fun s_ => [(17, s_.1), (18, .agg #[.bool t1523, .int .u64 t1524, .int .u64 t1525]), (20, s_.2.1), (21, .agg #[.bool t1529, .int .u64 t1530, .int .u64 t1531]), (13, .pointer (some ⟨s_.2.2, 0, none⟩))]) (fun s_ w' => (slip_Do.HS w' gb1517 gb1518 gb1519 a1_0 a2_0 a3_0 a1_1 a1_2 a2_1 a2_2 a3_1 a3_2) ∧ (Kd.R k43 43 w' w.heap.size (fun k_ => some k_ ≠ (s_.2.1 : Value).ownBlock ∧ k_ ≠ gb1517 ∧ k_ ≠ gb1518 ∧ k_ ≠ gb1519) s_.1 y1520) ∧ (Kd.R k43 43 w' w.heap.size (fun k_ => some k_ ≠ (s_.1 : Value).ownBlock ∧ k_ ≠ gb1517 ∧ k_ ≠ gb1518 ∧ k_ ≠ gb1519) s_.2.1 y1526) ∧ (w'.heap[gb1517]? = some (.cells #[.bool a1_0, .int .u64 a1_1, .int .u64 a1_2] 43 (0, 0))) ∧ (w'.heap[gb1518]? = some (.cells #[.bool a2_0, .int .u64 a2_1, .int .u64 a2_2] 43 (0, 0))) ∧ (w'.heap[gb1519]? = some (.cells #[.bool a3_0, .int .u64 a3_1, .int .u64 a3_2] 43 (0, 0))) ∧ (w'.heap[s_.2.2]? = some (.cells #[.bool false, .int .u64 0, .int .u64 0, .bool false, .int .u64 0, .int .u64 0, .bool false, .int .u64 0, .int .u64 0, .int .u64 0, .int .u64 0] 128 (0, 0))) ∧ (w.heap.size ≤ s_.2.2) ∧ (w.heap.size ≤ s_.2.2) ∧ (gb1517 ≠ s_.2.2) ∧ (s_.2.2 ≠ gb1517) ∧ (gb1518 ≠ s_.2.2) ∧ (s_.2.2 ≠ gb1518) ∧ (gb1519 ≠ s_.2.2) ∧ (s_.2.2 ≠ gb1519) ∧ (Below w.heap.size w w')) ?_ ?_
 ·skip
  rintro ⟨v1521, v1527, gb1540⟩ w26 ⟨hHeld, h0_, h1_, h2_, h3_, h4_, h5_, h6_, h7_, h8_, h9_, h10_, h11_, h12_, h13_, h14_⟩
  try dsimp only at h0_ h1_ h2_ h3_ h4_ h5_ h6_ h7_ h8_ h9_ h10_ h11_ h12_ h13_ h14_
  replace HO1522 := Aside0.mk h0_; replace HO1528 := Aside0.mk h1_; replace BK1517 := Aside0.mk h2_; replace BK1518 := Aside0.mk h3_; replace BK1519 := Aside0.mk h4_; replace BK1540 := Aside0.mk h5_; replace GW1540 := Aside0.mk h6_; replace GW1540 := Aside0.mk h7_; replace NB1517_1540 := Aside0.mk h8_; replace NB1540_1517 := Aside0.mk h9_; replace NB1518_1540 := Aside0.mk h10_; replace NB1540_1518 := Aside0.mk h11_; replace NB1519_1540 := Aside0.mk h12_; replace NB1540_1519 := Aside0.mk h13_; replace HB := Aside0.mk h14_; clear h0_ h1_ h2_ h3_ h4_ h5_ h6_ h7_ h8_ h9_ h10_ h11_ h12_ h13_ h14_
  refine norm_ (a' := ?_) ?_ ?_
  rotate_left
  ·simp only [putAll, Act.put, List.setIfInBounds_toArray, List.set_cons_zero, List.set_cons_succ]
   rfl
  refine zoA 7 23 (h := fun K hK => ?_)
  refine slip_Do.lit 23 a3_0 a3_1 a3_2 ?_
  intro v1533 w27 ho28 hb hg_ hnew_
  clear hg_ hnew_
  (first | rw [← Ny1532.out] at ho28 | (simp only [Int.reduceToNat] at ho28; rw [← Ny1532.out] at ho28))
  have HO1534 := Aside0.mk (Kd.R_lower (Kd.R_newB (Kd.R_newB (Kd.R_newB (Kd.R_new' (Kd.R_new' ho28 (Kd.R_lt (zRW HO1522.out))) (Kd.R_lt (zRW HO1528.out))) (g := gb1517) (o := .cells #[.bool a1_0, .int .u64 a1_1, .int .u64 a1_2] 43 (0, 0)) (zkq BK1517)) (g := gb1518) (o := .cells #[.bool a2_0, .int .u64 a2_1, .int .u64 a2_2] 43 (0, 0)) (zkq BK1518)) (g := gb1519) (o := .cells #[.bool a3_0, .int .u64 a3_1, .int .u64 a3_2] 43 (0, 0)) (zkq BK1519)) (below_size zaB))
  replace HO1522 := Aside0.mk (Kd.R_elder' (zRW HO1522.out) (Kd.R_base ho28) hb)
  replace HO1528 := Aside0.mk (Kd.R_elder' (zRW HO1528.out) (Kd.R_base ho28) hb)
  replace BK1517 := zkb BK1517 hb
  replace BK1518 := zkb BK1518 hb
  replace BK1519 := zkb BK1519 hb
  replace BK1540 := zkb BK1540 hb
  replace HB := zkB HB hb
  clear hb ho28
  refine hK.out _ _ (zk3 BK1517 (zk3 BK1518 (ze3 BK1519))) (fun hHeld => ?_)
  clear hK K
  refine znA 23 (h := ?_)
  exact norm_ zpu (hJ1_2_4_5_7_14 (v1521, v1527, v1533, gb1540) _ ⟨hHeld, (by (with_reducible repeat (first | apply Kd.R_alloc | apply Kd.R_drewN | apply Kd.R_drew)); exact Kd.R_mono HO1522.out (fun _ hk => ⟨hk.1.1, ⟨hk.2, ⟨hk.1.2.1, ⟨hk.1.2.2.1, hk.1.2.2.2⟩⟩⟩⟩)), (by (with_reducible repeat (first | apply Kd.R_alloc | apply Kd.R_drewN | apply Kd.R_drew)); exact Kd.R_mono HO1528.out (fun _ hk => ⟨hk.1.1, ⟨hk.2, ⟨hk.1.2.1, ⟨hk.1.2.2.1, hk.1.2.2.2⟩⟩⟩⟩)), (by (with_reducible repeat (first | apply Kd.R_alloc | apply Kd.R_drewN | apply Kd.R_drew)); exact Kd.R_mono HO1534.out (fun _ hk => ⟨hk.1.1.1.1.2, ⟨hk.1.1.1.2, ⟨hk.1.1.2, ⟨hk.1.2, hk.2⟩⟩⟩⟩)), (zkq BK1517), (zkq BK1518), (zkq BK1519), (zkq BK1540), GW1540.out, GW1540.out, NB1517_1540.out, (zks NB1517_1540).out, NB1518_1540.out, (zks NB1518_1540).out, NB1519_1540.out, (zks NB1519_1540).out, zaB⟩)
 intro hJ1_2_4_5_14
 refine join_ (σ := Value × Value × Value × Nat) 6 #[true, true, true, true, true, false, true, true, false, true, false, true, false, false, true, false] (fun s_ => [(17, s_.1), (18, .agg #[.bool t1523, .int .u64 t1524, .int .u64 t1525]), (20, s_.2.1), (23, s_.2.2.1), (13, .pointer (some ⟨s_.2.2.2, 0, none⟩))]) (fun s_ w' => (slip_Do.HS w' gb1517 gb1518 gb1519 a1_0 a2_0 a3_0 a1_1 a1_2 a2_1 a2_2 a3_1 a3_2) ∧ (Kd.R k43 43 w' w.heap.size (fun k_ => some k_ ≠ (s_.2.1 : Value).ownBlock ∧ some k_ ≠ (s_.2.2.1 : Value).ownBlock ∧ k_ ≠ gb1517 ∧ k_ ≠ gb1518 ∧ k_ ≠ gb1519) s_.1 y1520) ∧ (Kd.R k43 43 w' w.heap.size (fun k_ => some k_ ≠ (s_.1 : Value).ownBlock ∧ some k_ ≠ (s_.2.2.1 : Value).ownBlock ∧ k_ ≠ gb1517 ∧ k_ ≠ gb1518 ∧ k_ ≠ gb1519) s_.2.1 y1526) ∧ (Kd.R k43 43 w' w.heap.size (fun k_ => some k_ ≠ (s_.1 : Value).ownBlock ∧ some k_ ≠ (s_.2.1 : Value).ownBlock ∧ k_ ≠ gb1517 ∧ k_ ≠ gb1518 ∧ k_ ≠ gb1519) s_.2.2.1 y1532) ∧ (w'.heap[gb1517]? = some (.cells #[.bool a1_0, .int .u64 a1_1, .int .u64 a1_2] 43 (0, 0))) ∧ (w'.heap[gb1518]? = some (.cells #[.bool a2_0, .int .u64 a2_1, .int .u64 a2_2] 43 (0, 0))) ∧ (w'.heap[gb1519]? = some (.cells #[.bool a3_0, .int .u64 a3_1, .int .u64 a3_2] 43 (0, 0))) ∧ (w'.heap[s_.2.2.2]? = some (.cells #[.bool false, .int .u64 0, .int .u64 0, .bool false, .int .u64 0, .int .u64 0, .bool false, .int .u64 0, .int .u64 0, .int .u64 0, .int .u64 0] 128 (0, 0))) ∧ (w.heap.size ≤ s_.2.2.2) ∧ (w.heap.size ≤ s_.2.2.2) ∧ (gb1517 ≠ s_.2.2.2) ∧ (s_.2.2.2 ≠ gb1517) ∧ (gb1518 ≠ s_.2.2.2) ∧ (s_.2.2.2 ≠ gb1518) ∧ (gb1519 ≠ s_.2.2.2) ∧ (s_.2.2.2 ≠ gb1519) ∧ (Below w.heap.size w w')) ?_ ?_
 ·skip
  rintro ⟨v1521, v1527, v1533, gb1540⟩ w26 ⟨hHeld, h0_, h1_, h2_, h3_, h4_, h5_, h6_, h7_, h8_, h9_, h10_, h11_, h12_, h13_, h14_, h15_⟩
  try dsimp only at h0_ h1_ h2_ h3_ h4_ h5_ h6_ h7_ h8_ h9_ h10_ h11_ h12_ h13_ h14_ h15_
  replace HO1522 := Aside0.mk h0_; replace HO1528 := Aside0.mk h1_; replace HO1534 := Aside0.mk h2_; replace BK1517 := Aside0.mk h3_; replace BK1518 := Aside0.mk h4_; replace BK1519 := Aside0.mk h5_; replace BK1540 := Aside0.mk h6_; replace GW1540 := Aside0.mk h7_; replace GW1540 := Aside0.mk h8_; replace NB1517_1540 := Aside0.mk h9_; replace NB1540_1517 := Aside0.mk h10_; replace NB1518_1540 := Aside0.mk h11_; replace NB1540_1518 := Aside0.mk h12_; replace NB1519_1540 := Aside0.mk h13_; replace NB1540_1519 := Aside0.mk h14_; replace HB := Aside0.mk h15_; clear h0_ h1_ h2_ h3_ h4_ h5_ h6_ h7_ h8_ h9_ h10_ h11_ h12_ h13_ h14_ h15_
  obtain ⟨Ao27, co27, eo27⟩ := Kd.R_slice HO1528.out
  (first | subst eo27 | (injection eo27 with f1_ f2_ f3_; have f4_ := f1_.symm; have f5_ := f3_.symm; clear f1_ f2_ f3_; subst f4_; subst f5_))
  refine norm_ (a' := ?_) ?_ ?_
  rotate_left
  ·simp only [putAll, Act.put, List.setIfInBounds_toArray, List.set_cons_zero, List.set_cons_succ]
   rfl
  refine zoA 5 21 (h := fun K hK => ?_)
  refine goes_ Try.func45 (by kernel_rfl) rfl #[.slice Ao27 y1526.length co27] (by rfl) rfl rfl (by (try simp only [List.map_toArray, List.map_cons, List.map_nil]); first | done | rfl | (simp only [List.length_drop, List.length_take]; rfl)) ?_
  with_reducible refine (span_Join.calls k _ _ y1526 t1529 t1530 t1531 _ ?side1 ?side2 A8.out).mono ?_
  (case side1 => repeat (first | exact (Kd.R_reads' HO1528.out).2.2 | (with_reducible refine Kd.C_alloc ?_ _) | (with_reducible refine Kd.C_drewN ?_ _) | (with_reducible refine Kd.C_drew ?_)))
  (case side2 => exact (Kd.R_reads' HO1528.out).2.1)
  rintro e w28 ⟨rfl, hb⟩
  refine ⟨_, rfl, ?_⟩
  replace HO1522 := Aside0.mk (Kd.R_below (zRW HO1522.out) hb)
  replace HO1528 := Aside0.mk (Kd.R_below (zRW HO1528.out) hb)
  replace HO1534 := Aside0.mk (Kd.R_below (zRW HO1534.out) hb)
  refine zcn4 HB BK1517 BK1518 BK1519 BK1540 hb (c := ?_)
  clear HB BK1517 BK1518 BK1519 BK1540 hb
  intro BK1517 BK1518 BK1519 BK1540 HB
  refine hK.out _ _ (zk3 BK1517 (zk3 BK1518 (ze3 BK1519))) (fun hHeld => ?_)
  clear hK K
  refine znA 21 (h := ?_)
  exact norm_ zpu (hJ1_2_4_5_7_14 (v1521, .slice Ao27 y1526.length co27, v1533, gb1540) _ ⟨hHeld, (zRW HO1522.out), (zRW HO1528.out), (zRW HO1534.out), (zkq BK1517), (zkq BK1518), (zkq BK1519), (zkq BK1540), GW1540.out, GW1540.out, NB1517_1540.out, (zks NB1517_1540).out, NB1518_1540.out, (zks NB1518_1540).out, NB1519_1540.out, (zks NB1519_1540).out, zaB⟩)
 intro hJ1_2_4_7_14
 refine join_ (σ := Value × Value) 7 #[true, true, true, true, true, true, true, false, false, true, false, true, false, false, false, false] (fun s_ => [(17, s_.1), (18, .agg #[.bool t1523, .int .u64 t1524, .int .u64 t1525]), (20, s_.2), (21, .agg #[.bool t1529, .int .u64 t1530, .int .u64 t1531])]) (fun s_ w' => (slip_Do.HS w' gb1517 gb1518 gb1519 a1_0 a2_0 a3_0 a1_1 a1_2 a2_1 a2_2 a3_1 a3_2) ∧ (Kd.R k43 43 w' w.heap.size (fun k_ => some k_ ≠ (s_.2 : Value).ownBlock ∧ k_ ≠ gb1517 ∧ k_ ≠ gb1518 ∧ k_ ≠ gb1519) s_.1 y1520) ∧ (Kd.R k43 43 w' w.heap.size (fun k_ => some k_ ≠ (s_.1 : Value).ownBlock ∧ k_ ≠ gb1517 ∧ k_ ≠ gb1518 ∧ k_ ≠ gb1519) s_.2 y1526) ∧ (w'.heap[gb1517]? = some (.cells #[.bool a1_0, .int .u64 a1_1, .int .u64 a1_2] 43 (0, 0))) ∧ (w'.heap[gb1518]? = some (.cells #[.bool a2_0, .int .u64 a2_1, .int .u64 a2_2] 43 (0, 0))) ∧ (w'.heap[gb1519]? = some (.cells #[.bool a3_0, .int .u64 a3_1, .int .u64 a3_2] 43 (0, 0))) ∧ (Below w.heap.size w w')) ?_ ?_
 ·skip
  rintro ⟨v1521, v1527⟩ w25 ⟨hHeld, h0_, h1_, h2_, h3_, h4_, h5_⟩
  try dsimp only at h0_ h1_ h2_ h3_ h4_ h5_
  replace HO1522 := Aside0.mk h0_; replace HO1528 := Aside0.mk h1_; replace BK1517 := Aside0.mk h2_; replace BK1518 := Aside0.mk h3_; replace BK1519 := Aside0.mk h4_; replace HB := Aside0.mk h5_; clear h0_ h1_ h2_ h3_ h4_ h5_
  refine norm_ (a' := ?_) ?_ ?_
  rotate_left
  ·simp only [putAll, Act.put, List.setIfInBounds_toArray, List.set_cons_zero, List.set_cons_succ]
   rfl
  refine two_ (i := 7) (j := 14) (Ni := some 23) (Nj := some 13) #[true, true, true, true, true, true, true, true, false, true, false, true, false, false, false, false] #[true, true, true, true, true, true, true, false, false, true, false, true, false, false, true, false] rfl rfl rfl rfl (two_of HT_.out (by kernel_rfl)) (by decide) (by decide) (fun K hK => ?_) (fun K hK => ?_)
  ·skip
   refine slip_Do.lit 23 a3_0 a3_1 a3_2 ?_
   intro v1533 w26 ho27 hb hg_ hnew_
   clear hg_ hnew_
   (first | rw [← Ny1532.out] at ho27 | (simp only [Int.reduceToNat] at ho27; rw [← Ny1532.out] at ho27))
   have HO1534 := Aside0.mk (Kd.R_lower (Kd.R_newB (Kd.R_newB (Kd.R_newB (Kd.R_new' (Kd.R_new' ho27 (Kd.R_lt (zRW HO1522.out))) (Kd.R_lt (zRW HO1528.out))) (g := gb1517) (o := .cells #[.bool a1_0, .int .u64 a1_1, .int .u64 a1_2] 43 (0, 0)) (zkq BK1517)) (g := gb1518) (o := .cells #[.bool a2_0, .int .u64 a2_1, .int .u64 a2_2] 43 (0, 0)) (zkq BK1518)) (g := gb1519) (o := .cells #[.bool a3_0, .int .u64 a3_1, .int .u64 a3_2] 43 (0, 0)) (zkq BK1519)) (below_size zaB))
   replace HO1522 := Aside0.mk (Kd.R_elder' (zRW HO1522.out) (Kd.R_base ho27) hb)
   replace HO1528 := Aside0.mk (Kd.R_elder' (zRW HO1528.out) (Kd.R_base ho27) hb)
   replace BK1517 := zkb BK1517 hb
   replace BK1518 := zkb BK1518 hb
   replace BK1519 := zkb BK1519 hb
   replace HB := zkB HB hb
   clear hb ho27
   refine hK.out _ _ (zk3 BK1517 (zk3 BK1518 (ze3 BK1519))) (fun hHeld => ?_)
   clear hK K
   refine znA 23 (h := ?_)
   exact norm_ zpu (hJ1_2_4_5_7 (v1521, v1527, v1533) _ ⟨hHeld, (by (with_reducible repeat (first | apply Kd.R_alloc | apply Kd.R_drewN | apply Kd.R_drew)); exact Kd.R_mono HO1522.out (fun _ hk => ⟨hk.1.1, ⟨hk.2, ⟨hk.1.2.1, ⟨hk.1.2.2.1, hk.1.2.2.2⟩⟩⟩⟩)), (by (with_reducible repeat (first | apply Kd.R_alloc | apply Kd.R_drewN | apply Kd.R_drew)); exact Kd.R_mono HO1528.out (fun _ hk => ⟨hk.1.1, ⟨hk.2, ⟨hk.1.2.1, ⟨hk.1.2.2.1, hk.1.2.2.2⟩⟩⟩⟩)), (by (with_reducible repeat (first | apply Kd.R_alloc | apply Kd.R_drewN | apply Kd.R_drew)); exact Kd.R_mono HO1534.out (fun _ hk => ⟨hk.1.1.1.1.2, ⟨hk.1.1.1.2, ⟨hk.1.1.2, ⟨hk.1.2, hk.2⟩⟩⟩⟩)), (zkq BK1517), (zkq BK1518), (zkq BK1519), zaB⟩)
  skip
  refine box_step ?hg (N := 13) ?hd (cs := #[.bool false, .int .u64 0, .int .u64 0, .bool false, .int .u64 0, .int .u64 0, .bool false, .int .u64 0, .int .u64 0, .int .u64 0, .int .u64 0]) (t := 128) ?hr ?_; (case hd => rfl); (case hg => rfl); (case hr => first | (go_simp; done) | (go_simp; rfl))
  intro gb1540 hg w26 hbox hb
  have GW1540 := zkz HB hg
  have NB1517_1540 := zkl BK1517 hg
  have NB1518_1540 := zkl BK1518 hg
  have NB1519_1540 := zkl BK1519 hg
  replace HO1522 := Aside0.mk (Kd.R_below (zRW HO1522.out) hb)
  replace HO1528 := Aside0.mk (Kd.R_below (zRW HO1528.out) hb)
  replace BK1517 := zkb BK1517 hb
  replace BK1518 := zkb BK1518 hb
  replace BK1519 := zkb BK1519 hb
  replace HB := zkB HB hb
  have BK1540 := Aside0.mk (hbox)
  clear hb hbox hg
  refine hK.out _ _ (zk3 BK1517 (zk3 BK1518 (ze3 BK1519))) (fun hHeld => ?_)
  clear hK K
  refine znA 13 (h := ?_)
  exact norm_ zpu (hJ1_2_4_5_14 (v1521, v1527, gb1540) _ ⟨hHeld, (zRW HO1522.out), (zRW HO1528.out), (zkq BK1517), (zkq BK1518), (zkq BK1519), (zkq BK1540), GW1540.out, GW1540.out, NB1517_1540.out, (zks NB1517_1540).out, NB1518_1540.out, (zks NB1518_1540).out, NB1519_1540.out, (zks NB1519_1540).out, zaB⟩)
 intro hJ1_2_4_5
 refine join_ (σ := Value × Value × Value) 7 #[true, true, true, true, true, false, true, true, false, true, false, true, false, false, false, false] (fun s_ => [(17, s_.1), (18, .agg #[.bool t1523, .int .u64 t1524, .int .u64 t1525]), (20, s_.2.1), (23, s_.2.2)]) (fun s_ w' => (slip_Do.HS w' gb1517 gb1518 gb1519 a1_0 a2_0 a3_0 a1_1 a1_2 a2_1 a2_2 a3_1 a3_2) ∧ (Kd.R k43 43 w' w.heap.size (fun k_ => some k_ ≠ (s_.2.1 : Value).ownBlock ∧ some k_ ≠ (s_.2.2 : Value).ownBlock ∧ k_ ≠ gb1517 ∧ k_ ≠ gb1518 ∧ k_ ≠ gb1519) s_.1 y1520) ∧ (Kd.R k43 43 w' w.heap.size (fun k_ => some k_ ≠ (s_.1 : Value).ownBlock ∧ some k_ ≠ (s_.2.2 : Value).ownBlock ∧ k_ ≠ gb1517 ∧ k_ ≠ gb1518 ∧ k_ ≠ gb1519) s_.2.1 y1526) ∧ (Kd.R k43 43 w' w.heap.size (fun k_ => some k_ ≠ (s_.1 : Value).ownBlock ∧ some k_ ≠ (s_.2.1 : Value).ownBlock ∧ k_ ≠ gb1517 ∧ k_ ≠ gb1518 ∧ k_ ≠ gb1519) s_.2.2 y1532) ∧ (w'.heap[gb1517]? = some (.cells #[.bool a1_0, .int .u64 a1_1, .int .u64 a1_2] 43 (0, 0))) ∧ (w'.heap[gb1518]? = some (.cells #[.bool a2_0, .int .u64 a2_1, .int .u64 a2_2] 43 (0, 0))) ∧ (w'.heap[gb1519]? = some (.cells #[.bool a3_0, .int .u64 a3_1, .int .u64 a3_2] 43 (0, 0))) ∧ (Below w.heap.size w w')) ?_ ?_
 ·skip
  rintro ⟨v1521, v1527, v1533⟩ w25 ⟨hHeld, h0_, h1_, h2_, h3_, h4_, h5_, h6_⟩
  try dsimp only at h0_ h1_ h2_ h3_ h4_ h5_ h6_
  replace HO1522 := Aside0.mk h0_; replace HO1528 := Aside0.mk h1_; replace HO1534 := Aside0.mk h2_; replace BK1517 := Aside0.mk h3_; replace BK1518 := Aside0.mk h4_; replace BK1519 := Aside0.mk h5_; replace HB := Aside0.mk h6_; clear h0_ h1_ h2_ h3_ h4_ h5_ h6_
  obtain ⟨Ao26, co26, eo26⟩ := Kd.R_slice HO1528.out
  (first | subst eo26 | (injection eo26 with f1_ f2_ f3_; have f4_ := f1_.symm; have f5_ := f3_.symm; clear f1_ f2_ f3_; subst f4_; subst f5_))
  refine norm_ (a' := ?_) ?_ ?_
  rotate_left
  ·simp only [putAll, Act.put, List.setIfInBounds_toArray, List.set_cons_zero, List.set_cons_succ]
   rfl
  refine two_ (i := 5) (j := 14) (Ni := some 21) (Nj := some 13) #[true, true, true, true, true, true, true, true, false, true, false, true, false, false, false, false] #[true, true, true, true, true, false, true, true, false, true, false, true, false, false, true, false] rfl rfl rfl rfl (two_of HT_.out (by kernel_rfl)) (by decide) (by decide) (fun K hK => ?_) (fun K hK => ?_)
  ·skip
   refine goes_ Try.func45 (by kernel_rfl) rfl #[.slice Ao26 y1526.length co26] (by rfl) rfl rfl (by (try simp only [List.map_toArray, List.map_cons, List.map_nil]); first | done | rfl | (simp only [List.length_drop, List.length_take]; rfl)) ?_
   with_reducible refine (span_Join.calls k _ _ y1526 t1529 t1530 t1531 _ ?side1 ?side2 A8.out).mono ?_
   (case side1 => repeat (first | exact (Kd.R_reads' HO1528.out).2.2 | (with_reducible refine Kd.C_alloc ?_ _) | (with_reducible refine Kd.C_drewN ?_ _) | (with_reducible refine Kd.C_drew ?_)))
   (case side2 => exact (Kd.R_reads' HO1528.out).2.1)
   rintro e w27 ⟨rfl, hb⟩
   refine ⟨_, rfl, ?_⟩
   replace HO1522 := Aside0.mk (Kd.R_below (zRW HO1522.out) hb)
   replace HO1528 := Aside0.mk (Kd.R_below (zRW HO1528.out) hb)
   replace HO1534 := Aside0.mk (Kd.R_below (zRW HO1534.out) hb)
   refine zcn3 HB BK1517 BK1518 BK1519 hb (c := ?_)
   clear HB BK1517 BK1518 BK1519 hb
   intro BK1517 BK1518 BK1519 HB
   refine hK.out _ _ (zk3 BK1517 (zk3 BK1518 (ze3 BK1519))) (fun hHeld => ?_)
   clear hK K
   refine znA 21 (h := ?_)
   exact norm_ zpu (hJ1_2_4_5_7 (v1521, .slice Ao26 y1526.length co26, v1533) _ ⟨hHeld, (zRW HO1522.out), (zRW HO1528.out), (zRW HO1534.out), (zkq BK1517), (zkq BK1518), (zkq BK1519), zaB⟩)
  skip
  refine box_step ?hg (N := 13) ?hd (cs := #[.bool false, .int .u64 0, .int .u64 0, .bool false, .int .u64 0, .int .u64 0, .bool false, .int .u64 0, .int .u64 0, .int .u64 0, .int .u64 0]) (t := 128) ?hr ?_; (case hd => rfl); (case hg => rfl); (case hr => first | (go_simp; done) | (go_simp; rfl))
  intro gb1540 hg w26 hbox hb
  have GW1540 := zkz HB hg
  have NB1517_1540 := zkl BK1517 hg
  have NB1518_1540 := zkl BK1518 hg
  have NB1519_1540 := zkl BK1519 hg
  replace HO1522 := Aside0.mk (Kd.R_below (zRW HO1522.out) hb)
  replace HO1528 := Aside0.mk (Kd.R_below (zRW HO1528.out) hb)
  replace HO1534 := Aside0.mk (Kd.R_below (zRW HO1534.out) hb)
  replace BK1517 := zkb BK1517 hb
  replace BK1518 := zkb BK1518 hb
  replace BK1519 := zkb BK1519 hb
  replace HB := zkB HB hb
  have BK1540 := Aside0.mk (hbox)
  clear hb hbox hg
  refine hK.out _ _ (zk3 BK1517 (zk3 BK1518 (ze3 BK1519))) (fun hHeld => ?_)
  clear hK K
  refine znA 13 (h := ?_)
  exact norm_ zpu (hJ1_2_4_7_14 (v1521, (.slice Ao26 y1526.length co26), v1533, gb1540) _ ⟨hHeld, (zRW HO1522.out), (zRW HO1528.out), (zRW HO1534.out), (zkq BK1517), (zkq BK1518), (zkq BK1519), (zkq BK1540), GW1540.out, GW1540.out, NB1517_1540.out, (zks NB1517_1540).out, NB1518_1540.out, (zks NB1518_1540).out, NB1519_1540.out, (zks NB1519_1540).out, zaB⟩)
 intro hJ1_2_4_7
 refine join_ (σ := Value × Value × Nat) 7 #[true, true, true, true, true, false, true, false, false, true, false, true, false, false, true, false] (fun s_ => [(17, s_.1), (18, .agg #[.bool t1523, .int .u64 t1524, .int .u64 t1525]), (20, s_.2.1), (13, .pointer (some ⟨s_.2.2, 0, none⟩))]) (fun s_ w' => (slip_Do.HS w' gb1517 gb1518 gb1519 a1_0 a2_0 a3_0 a1_1 a1_2 a2_1 a2_2 a3_1 a3_2) ∧ (Kd.R k43 43 w' w.heap.size (fun k_ => some k_ ≠ (s_.2.1 : Value).ownBlock ∧ k_ ≠ gb1517 ∧ k_ ≠ gb1518 ∧ k_ ≠ gb1519) s_.1 y1520) ∧ (Kd.R k43 43 w' w.heap.size (fun k_ => some k_ ≠ (s_.1 : Value).ownBlock ∧ k_ ≠ gb1517 ∧ k_ ≠ gb1518 ∧ k_ ≠ gb1519) s_.2.1 y1526) ∧ (w'.heap[gb1517]? = some (.cells #[.bool a1_0, .int .u64 a1_1, .int .u64 a1_2] 43 (0, 0))) ∧ (w'.heap[gb1518]? = some (.cells #[.bool a2_0, .int .u64 a2_1, .int .u64 a2_2] 43 (0, 0))) ∧ (w'.heap[gb1519]? = some (.cells #[.bool a3_0, .int .u64 a3_1, .int .u64 a3_2] 43 (0, 0))) ∧ (w'.heap[s_.2.2]? = some (.cells #[.bool false, .int .u64 0, .int .u64 0, .bool false, .int .u64 0, .int .u64 0, .bool false, .int .u64 0, .int .u64 0, .int .u64 0, .int .u64 0] 128 (0, 0))) ∧ (w.heap.size ≤ s_.2.2) ∧ (w.heap.size ≤ s_.2.2) ∧ (gb1517 ≠ s_.2.2) ∧ (s_.2.2 ≠ gb1517) ∧ (gb1518 ≠ s_.2.2) ∧ (s_.2.2 ≠ gb1518) ∧ (gb1519 ≠ s_.2.2) ∧ (s_.2.2 ≠ gb1519) ∧ (Below w.heap.size w w')) ?_ ?_
 ·skip
  rintro ⟨v1521, v1527, gb1540⟩ w24 ⟨hHeld, h0_, h1_, h2_, h3_, h4_, h5_, h6_, h7_, h8_, h9_, h10_, h11_, h12_, h13_, h14_⟩
  try dsimp only at h0_ h1_ h2_ h3_ h4_ h5_ h6_ h7_ h8_ h9_ h10_ h11_ h12_ h13_ h14_
  replace HO1522 := Aside0.mk h0_; replace HO1528 := Aside0.mk h1_; replace BK1517 := Aside0.mk h2_; replace BK1518 := Aside0.mk h3_; replace BK1519 := Aside0.mk h4_; replace BK1540 := Aside0.mk h5_; replace GW1540 := Aside0.mk h6_; replace GW1540 := Aside0.mk h7_; replace NB1517_1540 := Aside0.mk h8_; replace NB1540_1517 := Aside0.mk h9_; replace NB1518_1540 := Aside0.mk h10_; replace NB1540_1518 := Aside0.mk h11_; replace NB1519_1540 := Aside0.mk h12_; replace NB1540_1519 := Aside0.mk h13_; replace HB := Aside0.mk h14_; clear h0_ h1_ h2_ h3_ h4_ h5_ h6_ h7_ h8_ h9_ h10_ h11_ h12_ h13_ h14_
  obtain ⟨Ao25, co25, eo25⟩ := Kd.R_slice HO1528.out
  (first | subst eo25 | (injection eo25 with f1_ f2_ f3_; have f4_ := f1_.symm; have f5_ := f3_.symm; clear f1_ f2_ f3_; subst f4_; subst f5_))
  refine norm_ (a' := ?_) ?_ ?_
  rotate_left
  ·simp only [putAll, Act.put, List.setIfInBounds_toArray, List.set_cons_zero, List.set_cons_succ]
   rfl
  refine two_ (i := 5) (j := 7) (Ni := some 21) (Nj := some 23) #[true, true, true, true, true, true, true, false, false, true, false, true, false, false, true, false] #[true, true, true, true, true, false, true, true, false, true, false, true, false, false, true, false] rfl rfl rfl rfl (two_of HT_.out (by kernel_rfl)) (by decide) (by decide) (fun K hK => ?_) (fun K hK => ?_)
  ·skip
   refine goes_ Try.func45 (by kernel_rfl) rfl #[.slice Ao25 y1526.length co25] (by rfl) rfl rfl (by (try simp only [List.map_toArray, List.map_cons, List.map_nil]); first | done | rfl | (simp only [List.length_drop, List.length_take]; rfl)) ?_
   with_reducible refine (span_Join.calls k _ _ y1526 t1529 t1530 t1531 _ ?side1 ?side2 A8.out).mono ?_
   (case side1 => repeat (first | exact (Kd.R_reads' HO1528.out).2.2 | (with_reducible refine Kd.C_alloc ?_ _) | (with_reducible refine Kd.C_drewN ?_ _) | (with_reducible refine Kd.C_drew ?_)))
   (case side2 => exact (Kd.R_reads' HO1528.out).2.1)
   rintro e w26 ⟨rfl, hb⟩
   refine ⟨_, rfl, ?_⟩
   replace HO1522 := Aside0.mk (Kd.R_below (zRW HO1522.out) hb)
   replace HO1528 := Aside0.mk (Kd.R_below (zRW HO1528.out) hb)
   refine zcn4 HB BK1517 BK1518 BK1519 BK1540 hb (c := ?_)
   clear HB BK1517 BK1518 BK1519 BK1540 hb
   intro BK1517 BK1518 BK1519 BK1540 HB
   refine hK.out _ _ (zk3 BK1517 (zk3 BK1518 (ze3 BK1519))) (fun hHeld => ?_)
   clear hK K
   refine znA 21 (h := ?_)
   exact norm_ zpu (hJ1_2_4_5_14 (v1521, .slice Ao25 y1526.length co25, gb1540) _ ⟨hHeld, (zRW HO1522.out), (zRW HO1528.out), (zkq BK1517), (zkq BK1518), (zkq BK1519), (zkq BK1540), GW1540.out, GW1540.out, NB1517_1540.out, (zks NB1517_1540).out, NB1518_1540.out, (zks NB1518_1540).out, NB1519_1540.out, (zks NB1519_1540).out, zaB⟩)
  skip
  refine slip_Do.lit 23 a3_0 a3_1 a3_2 ?_
  intro v1533 w25 ho26 hb hg_ hnew_
  clear hg_ hnew_
  (first | rw [← Ny1532.out] at ho26 | (simp only [Int.reduceToNat] at ho26; rw [← Ny1532.out] at ho26))
  have HO1534 := Aside0.mk (Kd.R_lower (Kd.R_newB (Kd.R_newB (Kd.R_newB (Kd.R_new' (Kd.R_new' ho26 (Kd.R_lt (zRW HO1522.out))) (Kd.R_lt (zRW HO1528.out))) (g := gb1517) (o := .cells #[.bool a1_0, .int .u64 a1_1, .int .u64 a1_2] 43 (0, 0)) (zkq BK1517)) (g := gb1518) (o := .cells #[.bool a2_0, .int .u64 a2_1, .int .u64 a2_2] 43 (0, 0)) (zkq BK1518)) (g := gb1519) (o := .cells #[.bool a3_0, .int .u64 a3_1, .int .u64 a3_2] 43 (0, 0)) (zkq BK1519)) (below_size zaB))
  replace HO1522 := Aside0.mk (Kd.R_elder' (zRW HO1522.out) (Kd.R_base ho26) hb)
  replace HO1528 := Aside0.mk (Kd.R_elder' (zRW HO1528.out) (Kd.R_base ho26) hb)
  replace BK1517 := zkb BK1517 hb
  replace BK1518 := zkb BK1518 hb
  replace BK1519 := zkb BK1519 hb
  replace BK1540 := zkb BK1540 hb
  replace HB := zkB HB hb
  clear hb ho26
  refine hK.out _ _ (zk3 BK1517 (zk3 BK1518 (ze3 BK1519))) (fun hHeld => ?_)
  clear hK K
  refine znA 23 (h := ?_)
  exact norm_ zpu (hJ1_2_4_7_14 (v1521, (.slice Ao25 y1526.length co25), v1533, gb1540) _ ⟨hHeld, (by (with_reducible repeat (first | apply Kd.R_alloc | apply Kd.R_drewN | apply Kd.R_drew)); exact Kd.R_mono HO1522.out (fun _ hk => ⟨hk.1.1, ⟨hk.2, ⟨hk.1.2.1, ⟨hk.1.2.2.1, hk.1.2.2.2⟩⟩⟩⟩)), (by (with_reducible repeat (first | apply Kd.R_alloc | apply Kd.R_drewN | apply Kd.R_drew)); exact Kd.R_mono HO1528.out (fun _ hk => ⟨hk.1.1, ⟨hk.2, ⟨hk.1.2.1, ⟨hk.1.2.2.1, hk.1.2.2.2⟩⟩⟩⟩)), (by (with_reducible repeat (first | apply Kd.R_alloc | apply Kd.R_drewN | apply Kd.R_drew)); exact Kd.R_mono HO1534.out (fun _ hk => ⟨hk.1.1.1.1.2, ⟨hk.1.1.1.2, ⟨hk.1.1.2, ⟨hk.1.2, hk.2⟩⟩⟩⟩)), (zkq BK1517), (zkq BK1518), (zkq BK1519), (zkq BK1540), GW1540.out, GW1540.out, NB1517_1540.out, (zks NB1517_1540).out, NB1518_1540.out, (zks NB1518_1540).out, NB1519_1540.out, (zks NB1519_1540).out, zaB⟩)
 intro hJ1_2_4_14
 refine join_ (σ := Value × Value × Nat) 7 #[true, true, true, true, false, false, true, true, false, true, false, true, false, false, true, false] (fun s_ => [(17, s_.1), (18, .agg #[.bool t1523, .int .u64 t1524, .int .u64 t1525]), (23, s_.2.1), (13, .pointer (some ⟨s_.2.2, 0, none⟩))]) (fun s_ w' => (slip_Do.HS w' gb1517 gb1518 gb1519 a1_0 a2_0 a3_0 a1_1 a1_2 a2_1 a2_2 a3_1 a3_2) ∧ (Kd.R k43 43 w' w.heap.size (fun k_ => some k_ ≠ (s_.2.1 : Value).ownBlock ∧ k_ ≠ gb1517 ∧ k_ ≠ gb1518 ∧ k_ ≠ gb1519) s_.1 y1520) ∧ (Kd.R k43 43 w' w.heap.size (fun k_ => some k_ ≠ (s_.1 : Value).ownBlock ∧ k_ ≠ gb1517 ∧ k_ ≠ gb1518 ∧ k_ ≠ gb1519) s_.2.1 y1532) ∧ (w'.heap[gb1517]? = some (.cells #[.bool a1_0, .int .u64 a1_1, .int .u64 a1_2] 43 (0, 0))) ∧ (w'.heap[gb1518]? = some (.cells #[.bool a2_0, .int .u64 a2_1, .int .u64 a2_2] 43 (0, 0))) ∧ (w'.heap[gb1519]? = some (.cells #[.bool a3_0, .int .u64 a3_1, .int .u64 a3_2] 43 (0, 0))) ∧ (w'.heap[s_.2.2]? = some (.cells #[.bool false, .int .u64 0, .int .u64 0, .bool false, .int .u64 0, .int .u64 0, .bool false, .int .u64 0, .int .u64 0, .int .u64 0, .int .u64 0] 128 (0, 0))) ∧ (w.heap.size ≤ s_.2.2) ∧ (w.heap.size ≤ s_.2.2) ∧ (gb1517 ≠ s_.2.2) ∧ (s_.2.2 ≠ gb1517) ∧ (gb1518 ≠ s_.2.2) ∧ (s_.2.2 ≠ gb1518) ∧ (gb1519 ≠ s_.2.2) ∧ (s_.2.2 ≠ gb1519) ∧ (Below w.heap.size w w')) ?_ ?_
 ·skip
  rintro ⟨v1521, v1533, gb1540⟩ w24 ⟨hHeld, h0_, h1_, h2_, h3_, h4_, h5_, h6_, h7_, h8_, h9_, h10_, h11_, h12_, h13_, h14_⟩
  try dsimp only at h0_ h1_ h2_ h3_ h4_ h5_ h6_ h7_ h8_ h9_ h10_ h11_ h12_ h13_ h14_
  replace HO1522 := Aside0.mk h0_; replace HO1534 := Aside0.mk h1_; replace BK1517 := Aside0.mk h2_; replace BK1518 := Aside0.mk h3_; replace BK1519 := Aside0.mk h4_; replace BK1540 := Aside0.mk h5_; replace GW1540 := Aside0.mk h6_; replace GW1540 := Aside0.mk h7_; replace NB1517_1540 := Aside0.mk h8_; replace NB1540_1517 := Aside0.mk h9_; replace NB1518_1540 := Aside0.mk h10_; replace NB1540_1518 := Aside0.mk h11_; replace NB1519_1540 := Aside0.mk h12_; replace NB1540_1519 := Aside0.mk h13_; replace HB := Aside0.mk h14_; clear h0_ h1_ h2_ h3_ h4_ h5_ h6_ h7_ h8_ h9_ h10_ h11_ h12_ h13_ h14_
  refine norm_ (a' := ?_) ?_ ?_
  rotate_left
  ·simp only [putAll, Act.put, List.setIfInBounds_toArray, List.set_cons_zero, List.set_cons_succ]
   rfl
  refine zoA 4 20 (h := fun K hK => ?_)
  refine slip_Do.lit 20 a2_0 a2_1 a2_2 ?_
  intro v1527 w25 ho26 hb hg_ hnew_
  clear hg_ hnew_
  (first | rw [← Ny1526.out] at ho26 | (simp only [Int.reduceToNat] at ho26; rw [← Ny1526.out] at ho26))
  have HO1528 := Aside0.mk (Kd.R_lower (Kd.R_newB (Kd.R_newB (Kd.R_newB (Kd.R_new' (Kd.R_new' ho26 (Kd.R_lt (zRW HO1522.out))) (Kd.R_lt (zRW HO1534.out))) (g := gb1517) (o := .cells #[.bool a1_0, .int .u64 a1_1, .int .u64 a1_2] 43 (0, 0)) (zkq BK1517)) (g := gb1518) (o := .cells #[.bool a2_0, .int .u64 a2_1, .int .u64 a2_2] 43 (0, 0)) (zkq BK1518)) (g := gb1519) (o := .cells #[.bool a3_0, .int .u64 a3_1, .int .u64 a3_2] 43 (0, 0)) (zkq BK1519)) (below_size zaB))
  replace HO1522 := Aside0.mk (Kd.R_elder' (zRW HO1522.out) (Kd.R_base ho26) hb)
  replace HO1534 := Aside0.mk (Kd.R_elder' (zRW HO1534.out) (Kd.R_base ho26) hb)
  replace BK1517 := zkb BK1517 hb
  replace BK1518 := zkb BK1518 hb
  replace BK1519 := zkb BK1519 hb
  replace BK1540 := zkb BK1540 hb
  replace HB := zkB HB hb
  clear hb ho26
  refine hK.out _ _ (zk3 BK1517 (zk3 BK1518 (ze3 BK1519))) (fun hHeld => ?_)
  clear hK K
  refine znA 20 (h := ?_)
  exact norm_ zpu (hJ1_2_4_7_14 (v1521, v1527, v1533, gb1540) _ ⟨hHeld, (by (with_reducible repeat (first | apply Kd.R_alloc | apply Kd.R_drewN | apply Kd.R_drew)); exact Kd.R_mono HO1522.out (fun _ hk => ⟨hk.2, ⟨hk.1.1, ⟨hk.1.2.1, ⟨hk.1.2.2.1, hk.1.2.2.2⟩⟩⟩⟩)), (by (with_reducible repeat (first | apply Kd.R_alloc | apply Kd.R_drewN | apply Kd.R_drew)); exact Kd.R_mono HO1528.out (fun _ hk => ⟨hk.1.1.1.1.2, ⟨hk.1.1.1.2, ⟨hk.1.1.2, ⟨hk.1.2, hk.2⟩⟩⟩⟩)), (by (with_reducible repeat (first | apply Kd.R_alloc | apply Kd.R_drewN | apply Kd.R_drew)); exact Kd.R_mono HO1534.out (fun _ hk => ⟨hk.1.1, ⟨hk.2, ⟨hk.1.2.1, ⟨hk.1.2.2.1, hk.1.2.2.2⟩⟩⟩⟩)), (zkq BK1517), (zkq BK1518), (zkq BK1519), (zkq BK1540), GW1540.out, GW1540.out, NB1517_1540.out, (zks NB1517_1540).out, NB1518_1540.out, (zks NB1518_1540).out, NB1519_1540.out, (zks NB1519_1540).out, zaB⟩)
 intro hJ1_2_7_14
 refine join_ (σ := Value × Value × Value × Nat) 7 #[true, true, false, true, true, false, true, true, false, true, false, true, false, false, true, false] (fun s_ => [(17, s_.1), (20, s_.2.1), (23, s_.2.2.1), (13, .pointer (some ⟨s_.2.2.2, 0, none⟩))]) (fun s_ w' => (slip_Do.HS w' gb1517 gb1518 gb1519 a1_0 a2_0 a3_0 a1_1 a1_2 a2_1 a2_2 a3_1 a3_2) ∧ (Kd.R k43 43 w' w.heap.size (fun k_ => some k_ ≠ (s_.2.1 : Value).ownBlock ∧ some k_ ≠ (s_.2.2.1 : Value).ownBlock ∧ k_ ≠ gb1517 ∧ k_ ≠ gb1518 ∧ k_ ≠ gb1519) s_.1 y1520) ∧ (Kd.R k43 43 w' w.heap.size (fun k_ => some k_ ≠ (s_.1 : Value).ownBlock ∧ some k_ ≠ (s_.2.2.1 : Value).ownBlock ∧ k_ ≠ gb1517 ∧ k_ ≠ gb1518 ∧ k_ ≠ gb1519) s_.2.1 y1526) ∧ (Kd.R k43 43 w' w.heap.size (fun k_ => some k_ ≠ (s_.1 : Value).ownBlock ∧ some k_ ≠ (s_.2.1 : Value).ownBlock ∧ k_ ≠ gb1517 ∧ k_ ≠ gb1518 ∧ k_ ≠ gb1519) s_.2.2.1 y1532) ∧ (w'.heap[gb1517]? = some (.cells #[.bool a1_0, .int .u64 a1_1, .int .u64 a1_2] 43 (0, 0))) ∧ (w'.heap[gb1518]? = some (.cells #[.bool a2_0, .int .u64 a2_1, .int .u64 a2_2] 43 (0, 0))) ∧ (w'.heap[gb1519]? = some (.cells #[.bool a3_0, .int .u64 a3_1, .int .u64 a3_2] 43 (0, 0))) ∧ (w'.heap[s_.2.2.2]? = some (.cells #[.bool false, .int .u64 0, .int .u64 0, .bool false, .int .u64 0, .int .u64 0, .bool false, .int .u64 0, .int .u64 0, .int .u64 0, .int .u64 0] 128 (0, 0))) ∧ (w.heap.size ≤ s_.2.2.2) ∧ (w.heap.size ≤ s_.2.2.2) ∧ (gb1517 ≠ s_.2.2.2) ∧ (s_.2.2.2 ≠ gb1517) ∧ (gb1518 ≠ s_.2.2.2) ∧ (s_.2.2.2 ≠ gb1518) ∧ (gb1519 ≠ s_.2.2.2) ∧ (s_.2.2.2 ≠ gb1519) ∧ (Below w.heap.size w w')) ?_ ?_
 ·skip
  rintro ⟨v1521, v1527, v1533, gb1540⟩ w24 ⟨hHeld, h0_, h1_, h2_, h3_, h4_, h5_, h6_, h7_, h8_, h9_, h10_, h11_, h12_, h13_, h14_, h15_⟩
  try dsimp only at h0_ h1_ h2_ h3_ h4_ h5_ h6_ h7_ h8_ h9_ h10_ h11_ h12_ h13_ h14_ h15_
  replace HO1522 := Aside0.mk h0_; replace HO1528 := Aside0.mk h1_; replace HO1534 := Aside0.mk h2_; replace BK1517 := Aside0.mk h3_; replace BK1518 := Aside0.mk h4_; replace BK1519 := Aside0.mk h5_; replace BK1540 := Aside0.mk h6_; replace GW1540 := Aside0.mk h7_; replace GW1540 := Aside0.mk h8_; replace NB1517_1540 := Aside0.mk h9_; replace NB1540_1517 := Aside0.mk h10_; replace NB1518_1540 := Aside0.mk h11_; replace NB1540_1518 := Aside0.mk h12_; replace NB1519_1540 := Aside0.mk h13_; replace NB1540_1519 := Aside0.mk h14_; replace HB := Aside0.mk h15_; clear h0_ h1_ h2_ h3_ h4_ h5_ h6_ h7_ h8_ h9_ h10_ h11_ h12_ h13_ h14_ h15_
  obtain ⟨Ao25, co25, eo25⟩ := Kd.R_slice HO1522.out
  (first | subst eo25 | (injection eo25 with f1_ f2_ f3_; have f4_ := f1_.symm; have f5_ := f3_.symm; clear f1_ f2_ f3_; subst f4_; subst f5_))
  refine norm_ (a' := ?_) ?_ ?_
  rotate_left
  ·simp only [putAll, Act.put, List.setIfInBounds_toArray, List.set_cons_zero, List.set_cons_succ]
   rfl
  refine zoA 2 18 (h := fun K hK => ?_)
  refine goes_ Try.func45 (by kernel_rfl) rfl #[.slice Ao25 y1520.length co25] (by rfl) rfl rfl (by (try simp only [List.map_toArray, List.map_cons, List.map_nil]); first | done | rfl | (simp only [List.length_drop, List.length_take]; rfl)) ?_
  with_reducible refine (span_Join.calls k _ _ y1520 t1523 t1524 t1525 _ ?side1 ?side2 A7.out).mono ?_
  (case side1 => repeat (first | exact (Kd.R_reads' HO1522.out).2.2 | (with_reducible refine Kd.C_alloc ?_ _) | (with_reducible refine Kd.C_drewN ?_ _) | (with_reducible refine Kd.C_drew ?_)))
  (case side2 => exact (Kd.R_reads' HO1522.out).2.1)
  rintro e w26 ⟨rfl, hb⟩
  refine ⟨_, rfl, ?_⟩
  replace HO1522 := Aside0.mk (Kd.R_below (zRW HO1522.out) hb)
  replace HO1528 := Aside0.mk (Kd.R_below (zRW HO1528.out) hb)
  replace HO1534 := Aside0.mk (Kd.R_below (zRW HO1534.out) hb)
  refine zcn4 HB BK1517 BK1518 BK1519 BK1540 hb (c := ?_)
  clear HB BK1517 BK1518 BK1519 BK1540 hb
  intro BK1517 BK1518 BK1519 BK1540 HB
  refine hK.out _ _ (zk3 BK1517 (zk3 BK1518 (ze3 BK1519))) (fun hHeld => ?_)
  clear hK K
  refine znA 18 (h := ?_)
  exact norm_ zpu (hJ1_2_4_7_14 (.slice Ao25 y1520.length co25, v1527, v1533, gb1540) _ ⟨hHeld, (zRW HO1522.out), (zRW HO1528.out), (zRW HO1534.out), (zkq BK1517), (zkq BK1518), (zkq BK1519), (zkq BK1540), GW1540.out, GW1540.out, NB1517_1540.out, (zks NB1517_1540).out, NB1518_1540.out, (zks NB1518_1540).out, NB1519_1540.out, (zks NB1519_1540).out, zaB⟩)
 intro hJ1_4_7_14
 refine join_ (σ := Value × Value) 8 #[true, true, true, true, true, false, true, false, false, true, false, true, false, false, false, false] (fun s_ => [(17, s_.1), (18, .agg #[.bool t1523, .int .u64 t1524, .int .u64 t1525]), (20, s_.2)]) (fun s_ w' => (slip_Do.HS w' gb1517 gb1518 gb1519 a1_0 a2_0 a3_0 a1_1 a1_2 a2_1 a2_2 a3_1 a3_2) ∧ (Kd.R k43 43 w' w.heap.size (fun k_ => some k_ ≠ (s_.2 : Value).ownBlock ∧ k_ ≠ gb1517 ∧ k_ ≠ gb1518 ∧ k_ ≠ gb1519) s_.1 y1520) ∧ (Kd.R k43 43 w' w.heap.size (fun k_ => some k_ ≠ (s_.1 : Value).ownBlock ∧ k_ ≠ gb1517 ∧ k_ ≠ gb1518 ∧ k_ ≠ gb1519) s_.2 y1526) ∧ (w'.heap[gb1517]? = some (.cells #[.bool a1_0, .int .u64 a1_1, .int .u64 a1_2] 43 (0, 0))) ∧ (w'.heap[gb1518]? = some (.cells #[.bool a2_0, .int .u64 a2_1, .int .u64 a2_2] 43 (0, 0))) ∧ (w'.heap[gb1519]? = some (.cells #[.bool a3_0, .int .u64 a3_1, .int .u64 a3_2] 43 (0, 0))) ∧ (Below w.heap.size w w')) ?_ ?_
 ·skip
  rintro ⟨v1521, v1527⟩ w23 ⟨hHeld, h0_, h1_, h2_, h3_, h4_, h5_⟩
  try dsimp only at h0_ h1_ h2_ h3_ h4_ h5_
  replace HO1522 := Aside0.mk h0_; replace HO1528 := Aside0.mk h1_; replace BK1517 := Aside0.mk h2_; replace BK1518 := Aside0.mk h3_; replace BK1519 := Aside0.mk h4_; replace HB := Aside0.mk h5_; clear h0_ h1_ h2_ h3_ h4_ h5_
  obtain ⟨Ao24, co24, eo24⟩ := Kd.R_slice HO1528.out
  (first | subst eo24 | (injection eo24 with f1_ f2_ f3_; have f4_ := f1_.symm; have f5_ := f3_.symm; clear f1_ f2_ f3_; subst f4_; subst f5_))
  refine norm_ (a' := ?_) ?_ ?_
  rotate_left
  ·simp only [putAll, Act.put, List.setIfInBounds_toArray, List.set_cons_zero, List.set_cons_succ]
   rfl
  refine three_ (i := 5) (j := 7) (k := 14) (Ni := some 21) (Nj := some 23) (Nk := some 13) #[true, true, true, true, true, true, true, false, false, true, false, true, false, false, false, false] #[true, true, true, true, true, false, true, true, false, true, false, true, false, false, false, false] #[true, true, true, true, true, false, true, false, false, true, false, true, false, false, true, false] rfl rfl rfl rfl rfl rfl (three_of HT_.out (by kernel_rfl)) (by decide) (by decide) (by decide) (fun K hK => ?_) (fun K hK => ?_) (fun K hK => ?_)
  ·skip
   refine goes_ Try.func45 (by kernel_rfl) rfl #[.slice Ao24 y1526.length co24] (by rfl) rfl rfl (by (try simp only [List.map_toArray, List.map_cons, List.map_nil]); first | done | rfl | (simp only [List.length_drop, List.length_take]; rfl)) ?_
   with_reducible refine (span_Join.calls k _ _ y1526 t1529 t1530 t1531 _ ?side1 ?side2 A8.out).mono ?_
   (case side1 => repeat (first | exact (Kd.R_reads' HO1528.out).2.2 | (with_reducible refine Kd.C_alloc ?_ _) | (with_reducible refine Kd.C_drewN ?_ _) | (with_reducible refine Kd.C_drew ?_)))
   (case side2 => exact (Kd.R_reads' HO1528.out).2.1)
   rintro e w25 ⟨rfl, hb⟩
   refine ⟨_, rfl, ?_⟩
   replace HO1522 := Aside0.mk (Kd.R_below (zRW HO1522.out) hb)
   replace HO1528 := Aside0.mk (Kd.R_below (zRW HO1528.out) hb)
   refine zcn3 HB BK1517 BK1518 BK1519 hb (c := ?_)
   clear HB BK1517 BK1518 BK1519 hb
   intro BK1517 BK1518 BK1519 HB
   refine hK.out _ _ (zk3 BK1517 (zk3 BK1518 (ze3 BK1519))) (fun hHeld => ?_)
   clear hK K
   refine znA 21 (h := ?_)
   exact norm_ zpu (hJ1_2_4_5 (v1521, .slice Ao24 y1526.length co24) _ ⟨hHeld, (zRW HO1522.out), (zRW HO1528.out), (zkq BK1517), (zkq BK1518), (zkq BK1519), zaB⟩)
  ·skip
   refine slip_Do.lit 23 a3_0 a3_1 a3_2 ?_
   intro v1533 w24 ho25 hb hg_ hnew_
   clear hg_ hnew_
   (first | rw [← Ny1532.out] at ho25 | (simp only [Int.reduceToNat] at ho25; rw [← Ny1532.out] at ho25))
   have HO1534 := Aside0.mk (Kd.R_lower (Kd.R_newB (Kd.R_newB (Kd.R_newB (Kd.R_new' (Kd.R_new' ho25 (Kd.R_lt (zRW HO1522.out))) (Kd.R_lt (zRW HO1528.out))) (g := gb1517) (o := .cells #[.bool a1_0, .int .u64 a1_1, .int .u64 a1_2] 43 (0, 0)) (zkq BK1517)) (g := gb1518) (o := .cells #[.bool a2_0, .int .u64 a2_1, .int .u64 a2_2] 43 (0, 0)) (zkq BK1518)) (g := gb1519) (o := .cells #[.bool a3_0, .int .u64 a3_1, .int .u64 a3_2] 43 (0, 0)) (zkq BK1519)) (below_size zaB))
   replace HO1522 := Aside0.mk (Kd.R_elder' (zRW HO1522.out) (Kd.R_base ho25) hb)
   replace HO1528 := Aside0.mk (Kd.R_elder' (zRW HO1528.out) (Kd.R_base ho25) hb)
   replace BK1517 := zkb BK1517 hb
   replace BK1518 := zkb BK1518 hb
   replace BK1519 := zkb BK1519 hb
   replace HB := zkB HB hb
   clear hb ho25
   refine hK.out _ _ (zk3 BK1517 (zk3 BK1518 (ze3 BK1519))) (fun hHeld => ?_)
   clear hK K
   refine znA 23 (h := ?_)
   exact norm_ zpu (hJ1_2_4_7 (v1521, (.slice Ao24 y1526.length co24), v1533) _ ⟨hHeld, (by (with_reducible repeat (first | apply Kd.R_alloc | apply Kd.R_drewN | apply Kd.R_drew)); exact Kd.R_mono HO1522.out (fun _ hk => ⟨hk.1.1, ⟨hk.2, ⟨hk.1.2.1, ⟨hk.1.2.2.1, hk.1.2.2.2⟩⟩⟩⟩)), (by (with_reducible repeat (first | apply Kd.R_alloc | apply Kd.R_drewN | apply Kd.R_drew)); exact Kd.R_mono HO1528.out (fun _ hk => ⟨hk.1.1, ⟨hk.2, ⟨hk.1.2.1, ⟨hk.1.2.2.1, hk.1.2.2.2⟩⟩⟩⟩)), (by (with_reducible repeat (first | apply Kd.R_alloc | apply Kd.R_drewN | apply Kd.R_drew)); exact Kd.R_mono HO1534.out (fun _ hk => ⟨hk.1.1.1.1.2, ⟨hk.1.1.1.2, ⟨hk.1.1.2, ⟨hk.1.2, hk.2⟩⟩⟩⟩)), (zkq BK1517), (zkq BK1518), (zkq BK1519), zaB⟩)
  skip
  refine box_step ?hg (N := 13) ?hd (cs := #[.bool false, .int .u64 0, .int .u64 0, .bool false, .int .u64 0, .int .u64 0, .bool false, .int .u64 0, .int .u64 0, .int .u64 0, .int .u64 0]) (t := 128) ?hr ?_; (case hd => rfl); (case hg => rfl); (case hr => first | (go_simp; done) | (go_simp; rfl))
  intro gb1540 hg w24 hbox hb
  have GW1540 := zkz HB hg
  have NB1517_1540 := zkl BK1517 hg
  have NB1518_1540 := zkl BK1518 hg
  have NB1519_1540 := zkl BK1519 hg
  replace HO1522 := Aside0.mk (Kd.R_below (zRW HO1522.out) hb)
  replace HO1528 := Aside0.mk (Kd.R_below (zRW HO1528.out) hb)
  replace BK1517 := zkb BK1517 hb
  replace BK1518 := zkb BK1518 hb
  replace BK1519 := zkb BK1519 hb
  replace HB := zkB HB hb
  have BK1540 := Aside0.mk (hbox)
  clear hb hbox hg
  refine hK.out _ _ (zk3 BK1517 (zk3 BK1518 (ze3 BK1519))) (fun hHeld => ?_)
  clear hK K
  refine znA 13 (h := ?_)
  exact norm_ zpu (hJ1_2_4_14 (v1521, (.slice Ao24 y1526.length co24), gb1540) _ ⟨hHeld, (zRW HO1522.out), (zRW HO1528.out), (zkq BK1517), (zkq BK1518), (zkq BK1519), (zkq BK1540), GW1540.out, GW1540.out, NB1517_1540.out, (zks NB1517_1540).out, NB1518_1540.out, (zks NB1518_1540).out, NB1519_1540.out, (zks NB1519_1540).out, zaB⟩)
 intro hJ1_2_4
 refine join_ (σ := Value × Value) 8 #[true, true, true, true, false, false, true, true, false, true, false, true, false, false, false, false] (fun s_ => [(17, s_.1), (18, .agg #[.bool t1523, .int .u64 t1524, .int .u64 t1525]), (23, s_.2)]) (fun s_ w' => (slip_Do.HS w' gb1517 gb1518 gb1519 a1_0 a2_0 a3_0 a1_1 a1_2 a2_1 a2_2 a3_1 a3_2) ∧ (Kd.R k43 43 w' w.heap.size (fun k_ => some k_ ≠ (s_.2 : Value).ownBlock ∧ k_ ≠ gb1517 ∧ k_ ≠ gb1518 ∧ k_ ≠ gb1519) s_.1 y1520) ∧ (Kd.R k43 43 w' w.heap.size (fun k_ => some k_ ≠ (s_.1 : Value).ownBlock ∧ k_ ≠ gb1517 ∧ k_ ≠ gb1518 ∧ k_ ≠ gb1519) s_.2 y1532) ∧ (w'.heap[gb1517]? = some (.cells #[.bool a1_0, .int .u64 a1_1, .int .u64 a1_2] 43 (0, 0))) ∧ (w'.heap[gb1518]? = some (.cells #[.bool a2_0, .int .u64 a2_1, .int .u64 a2_2] 43 (0, 0))) ∧ (w'.heap[gb1519]? = some (.cells #[.bool a3_0, .int .u64 a3_1, .int .u64 a3_2] 43 (0, 0))) ∧ (Below w.heap.size w w')) ?_ ?_
 ·skip
  rintro ⟨v1521, v1533⟩ w23 ⟨hHeld, h0_, h1_, h2_, h3_, h4_, h5_⟩
  try dsimp only at h0_ h1_ h2_ h3_ h4_ h5_
  replace HO1522 := Aside0.mk h0_; replace HO1534 := Aside0.mk h1_; replace BK1517 := Aside0.mk h2_; replace BK1518 := Aside0.mk h3_; replace BK1519 := Aside0.mk h4_; replace HB := Aside0.mk h5_; clear h0_ h1_ h2_ h3_ h4_ h5_
  refine norm_ (a' := ?_) ?_ ?_
  rotate_left
  ·simp only [putAll, Act.put, List.setIfInBounds_toArray, List.set_cons_zero, List.set_cons_succ]
   rfl
  refine two_ (i := 4) (j := 14) (Ni := some 20) (Nj := some 13) #[true, true, true, true, true, false, true, true, false, true, false, true, false, false, false, false] #[true, true, true, true, false, false, true, true, false, true, false, true, false, false, true, false] rfl rfl rfl rfl (two_of HT_.out (by kernel_rfl)) (by decide) (by decide) (fun K hK => ?_) (fun K hK => ?_)
  ·skip
   refine slip_Do.lit 20 a2_0 a2_1 a2_2 ?_
   intro v1527 w24 ho25 hb hg_ hnew_
   clear hg_ hnew_
   (first | rw [← Ny1526.out] at ho25 | (simp only [Int.reduceToNat] at ho25; rw [← Ny1526.out] at ho25))
   have HO1528 := Aside0.mk (Kd.R_lower (Kd.R_newB (Kd.R_newB (Kd.R_newB (Kd.R_new' (Kd.R_new' ho25 (Kd.R_lt (zRW HO1522.out))) (Kd.R_lt (zRW HO1534.out))) (g := gb1517) (o := .cells #[.bool a1_0, .int .u64 a1_1, .int .u64 a1_2] 43 (0, 0)) (zkq BK1517)) (g := gb1518) (o := .cells #[.bool a2_0, .int .u64 a2_1, .int .u64 a2_2] 43 (0, 0)) (zkq BK1518)) (g := gb1519) (o := .cells #[.bool a3_0, .int .u64 a3_1, .int .u64 a3_2] 43 (0, 0)) (zkq BK1519)) (below_size zaB))
   replace HO1522 := Aside0.mk (Kd.R_elder' (zRW HO1522.out) (Kd.R_base ho25) hb)
   replace HO1534 := Aside0.mk (Kd.R_elder' (zRW HO1534.out) (Kd.R_base ho25) hb)
   replace BK1517 := zkb BK1517 hb
   replace BK1518 := zkb BK1518 hb
   replace BK1519 := zkb BK1519 hb
   replace HB := zkB HB hb
   clear hb ho25
   refine hK.out _ _ (zk3 BK1517 (zk3 BK1518 (ze3 BK1519))) (fun hHeld => ?_)
   clear hK K
   refine znA 20 (h := ?_)
   exact norm_ zpu (hJ1_2_4_7 (v1521, v1527, v1533) _ ⟨hHeld, (by (with_reducible repeat (first | apply Kd.R_alloc | apply Kd.R_drewN | apply Kd.R_drew)); exact Kd.R_mono HO1522.out (fun _ hk => ⟨hk.2, ⟨hk.1.1, ⟨hk.1.2.1, ⟨hk.1.2.2.1, hk.1.2.2.2⟩⟩⟩⟩)), (by (with_reducible repeat (first | apply Kd.R_alloc | apply Kd.R_drewN | apply Kd.R_drew)); exact Kd.R_mono HO1528.out (fun _ hk => ⟨hk.1.1.1.1.2, ⟨hk.1.1.1.2, ⟨hk.1.1.2, ⟨hk.1.2, hk.2⟩⟩⟩⟩)), (by (with_reducible repeat (first | apply Kd.R_alloc | apply Kd.R_drewN | apply Kd.R_drew)); exact Kd.R_mono HO1534.out (fun _ hk => ⟨hk.1.1, ⟨hk.2, ⟨hk.1.2.1, ⟨hk.1.2.2.1, hk.1.2.2.2⟩⟩⟩⟩)), (zkq BK1517), (zkq BK1518), (zkq BK1519), zaB⟩)
  skip
  refine box_step ?hg (N := 13) ?hd (cs := #[.bool false, .int .u64 0, .int .u64 0, .bool false, .int .u64 0, .int .u64 0, .bool false, .int .u64 0, .int .u64 0, .int .u64 0, .int .u64 0]) (t := 128) ?hr ?_; (case hd => rfl); (case hg => rfl); (case hr => first | (go_simp; done) | (go_simp; rfl))
  intro gb1540 hg w24 hbox hb
  have GW1540 := zkz HB hg
  have NB1517_1540 := zkl BK1517 hg
  have NB1518_1540 := zkl BK1518 hg
  have NB1519_1540 := zkl BK1519 hg
  replace HO1522 := Aside0.mk (Kd.R_below (zRW HO1522.out) hb)
  replace HO1534 := Aside0.mk (Kd.R_below (zRW HO1534.out) hb)
  replace BK1517 := zkb BK1517 hb
  replace BK1518 := zkb BK1518 hb
  replace BK1519 := zkb BK1519 hb
  replace HB := zkB HB hb
  have BK1540 := Aside0.mk (hbox)
  clear hb hbox hg
  refine hK.out _ _ (zk3 BK1517 (zk3 BK1518 (ze3 BK1519))) (fun hHeld => ?_)
  clear hK K
  refine znA 13 (h := ?_)
  exact norm_ zpu (hJ1_2_7_14 (v1521, v1533, gb1540) _ ⟨hHeld, (zRW HO1522.out), (zRW HO1534.out), (zkq BK1517), (zkq BK1518), (zkq BK1519), (zkq BK1540), GW1540.out, GW1540.out, NB1517_1540.out, (zks NB1517_1540).out, NB1518_1540.out, (zks NB1518_1540).out, NB1519_1540.out, (zks NB1519_1540).out, zaB⟩)
 intro hJ1_2_7
 refine join_ (σ := Value × Nat) 8 #[true, true, true, true, false, false, true, false, false, true, false, true, false, false, true, false] (fun s_ => [(17, s_.1), (18, .agg #[.bool t1523, .int .u64 t1524, .int .u64 t1525]), (13, .pointer (some ⟨s_.2, 0, none⟩))]) (fun s_ w' => (slip_Do.HS w' gb1517 gb1518 gb1519 a1_0 a2_0 a3_0 a1_1 a1_2 a2_1 a2_2 a3_1 a3_2) ∧ (Kd.R k43 43 w' w.heap.size (fun k_ => k_ ≠ gb1517 ∧ k_ ≠ gb1518 ∧ k_ ≠ gb1519) s_.1 y1520) ∧ (w'.heap[gb1517]? = some (.cells #[.bool a1_0, .int .u64 a1_1, .int .u64 a1_2] 43 (0, 0))) ∧ (w'.heap[gb1518]? = some (.cells #[.bool a2_0, .int .u64 a2_1, .int .u64 a2_2] 43 (0, 0))) ∧ (w'.heap[gb1519]? = some (.cells #[.bool a3_0, .int .u64 a3_1, .int .u64 a3_2] 43 (0, 0))) ∧ (w'.heap[s_.2]? = some (.cells #[.bool false, .int .u64 0, .int .u64 0, .bool false, .int .u64 0, .int .u64 0, .bool false, .int .u64 0, .int .u64 0, .int .u64 0, .int .u64 0] 128 (0, 0))) ∧ (w.heap.size ≤ s_.2) ∧ (w.heap.size ≤ s_.2) ∧ (gb1517 ≠ s_.2) ∧ (s_.2 ≠ gb1517) ∧ (gb1518 ≠ s_.2) ∧ (s_.2 ≠ gb1518) ∧ (gb1519 ≠ s_.2) ∧ (s_.2 ≠ gb1519) ∧ (Below w.heap.size w w')) ?_ ?_
 ·skip
  rintro ⟨v1521, gb1540⟩ w22 ⟨hHeld, h0_, h1_, h2_, h3_, h4_, h5_, h6_, h7_, h8_, h9_, h10_, h11_, h12_, h13_⟩
  try dsimp only at h0_ h1_ h2_ h3_ h4_ h5_ h6_ h7_ h8_ h9_ h10_ h11_ h12_ h13_
  replace HO1522 := Aside0.mk h0_; replace BK1517 := Aside0.mk h1_; replace BK1518 := Aside0.mk h2_; replace BK1519 := Aside0.mk h3_; replace BK1540 := Aside0.mk h4_; replace GW1540 := Aside0.mk h5_; replace GW1540 := Aside0.mk h6_; replace NB1517_1540 := Aside0.mk h7_; replace NB1540_1517 := Aside0.mk h8_; replace NB1518_1540 := Aside0.mk h9_; replace NB1540_1518 := Aside0.mk h10_; replace NB1519_1540 := Aside0.mk h11_; replace NB1540_1519 := Aside0.mk h12_; replace HB := Aside0.mk h13_; clear h0_ h1_ h2_ h3_ h4_ h5_ h6_ h7_ h8_ h9_ h10_ h11_ h12_ h13_
  refine norm_ (a' := ?_) ?_ ?_
  rotate_left
  ·simp only [putAll, Act.put, List.setIfInBounds_toArray, List.set_cons_zero, List.set_cons_succ]
   rfl
  refine two_ (i := 4) (j := 7) (Ni := some 20) (Nj := some 23) #[true, true, true, true, true, false, true, false, false, true, false, true, false, false, true, false] #[true, true, true, true, false, false, true, true, false, true, false, true, false, false, true, false] rfl rfl rfl rfl (two_of HT_.out (by kernel_rfl)) (by decide) (by decide) (fun K hK => ?_) (fun K hK => ?_)
  ·skip
   refine slip_Do.lit 20 a2_0 a2_1 a2_2 ?_
   intro v1527 w23 ho24 hb hg_ hnew_
   clear hg_ hnew_
   (first | rw [← Ny1526.out] at ho24 | (simp only [Int.reduceToNat] at ho24; rw [← Ny1526.out] at ho24))
   have HO1528 := Aside0.mk (Kd.R_lower (Kd.R_newB (Kd.R_newB (Kd.R_newB (Kd.R_new' ho24 (Kd.R_lt (zRW HO1522.out))) (g := gb1517) (o := .cells #[.bool a1_0, .int .u64 a1_1, .int .u64 a1_2] 43 (0, 0)) (zkq BK1517)) (g := gb1518) (o := .cells #[.bool a2_0, .int .u64 a2_1, .int .u64 a2_2] 43 (0, 0)) (zkq BK1518)) (g := gb1519) (o := .cells #[.bool a3_0, .int .u64 a3_1, .int .u64 a3_2] 43 (0, 0)) (zkq BK1519)) (below_size zaB))
   replace HO1522 := Aside0.mk (Kd.R_elder' (zRW HO1522.out) (Kd.R_base ho24) hb)
   replace BK1517 := zkb BK1517 hb
   replace BK1518 := zkb BK1518 hb
   replace BK1519 := zkb BK1519 hb
   replace BK1540 := zkb BK1540 hb
   replace HB := zkB HB hb
   clear hb ho24
   refine hK.out _ _ (zk3 BK1517 (zk3 BK1518 (ze3 BK1519))) (fun hHeld => ?_)
   clear hK K
   refine znA 20 (h := ?_)
   exact norm_ zpu (hJ1_2_4_14 (v1521, v1527, gb1540) _ ⟨hHeld, (by (with_reducible repeat (first | apply Kd.R_alloc | apply Kd.R_drewN | apply Kd.R_drew)); exact Kd.R_mono HO1522.out (fun _ hk => ⟨hk.2, ⟨hk.1.1, ⟨hk.1.2.1, hk.1.2.2⟩⟩⟩)), (by (with_reducible repeat (first | apply Kd.R_alloc | apply Kd.R_drewN | apply Kd.R_drew)); exact Kd.R_mono HO1528.out (fun _ hk => ⟨hk.1.1.1.2, ⟨hk.1.1.2, ⟨hk.1.2, hk.2⟩⟩⟩)), (zkq BK1517), (zkq BK1518), (zkq BK1519), (zkq BK1540), GW1540.out, GW1540.out, NB1517_1540.out, (zks NB1517_1540).out, NB1518_1540.out, (zks NB1518_1540).out, NB1519_1540.out, (zks NB1519_1540).out, zaB⟩)
  skip
  refine slip_Do.lit 23 a3_0 a3_1 a3_2 ?_
  intro v1533 w23 ho24 hb hg_ hnew_
  clear hg_ hnew_
  (first | rw [← Ny1532.out] at ho24 | (simp only [Int.reduceToNat] at ho24; rw [← Ny1532.out] at ho24))
  have HO1534 := Aside0.mk (Kd.R_lower (Kd.R_newB (Kd.R_newB (Kd.R_newB (Kd.R_new' ho24 (Kd.R_lt (zRW HO1522.out))) (g := gb1517) (o := .cells #[.bool a1_0, .int .u64 a1_1, .int .u64 a1_2] 43 (0, 0)) (zkq BK1517)) (g := gb1518) (o := .cells #[.bool a2_0, .int .u64 a2_1, .int .u64 a2_2] 43 (0, 0)) (zkq BK1518)) (g := gb1519) (o := .cells #[.bool a3_0, .int .u64 a3_1, .int .u64 a3_2] 43 (0, 0)) (zkq BK1519)) (below_size zaB))
  replace HO1522 := Aside0.mk (Kd.R_elder' (zRW HO1522.out) (Kd.R_base ho24) hb)
  replace BK1517 := zkb BK1517 hb
  replace BK1518 := zkb BK1518 hb
  replace BK1519 := zkb BK1519 hb
  replace BK1540 := zkb BK1540 hb
  replace HB := zkB HB hb
  clear hb ho24
  refine hK.out _ _ (zk3 BK1517 (zk3 BK1518 (ze3 BK1519))) (fun hHeld => ?_)
  clear hK K
  refine znA 23 (h := ?_)
  exact norm_ zpu (hJ1_2_7_14 (v1521, v1533, gb1540) _ ⟨hHeld, (by (with_reducible repeat (first | apply Kd.R_alloc | apply Kd.R_drewN | apply Kd.R_drew)); exact Kd.R_mono HO1522.out (fun _ hk => ⟨hk.2, ⟨hk.1.1, ⟨hk.1.2.1, hk.1.2.2⟩⟩⟩)), (by (with_reducible repeat (first | apply Kd.R_alloc | apply Kd.R_drewN | apply Kd.R_drew)); exact Kd.R_mono HO1534.out (fun _ hk => ⟨hk.1.1.1.2, ⟨hk.1.1.2, ⟨hk.1.2, hk.2⟩⟩⟩)), (zkq BK1517), (zkq BK1518), (zkq BK1519), (zkq BK1540), GW1540.out, GW1540.out, NB1517_1540.out, (zks NB1517_1540).out, NB1518_1540.out, (zks NB1518_1540).out, NB1519_1540.out, (zks NB1519_1540).out, zaB⟩)
 intro hJ1_2_14
 refine join_ (σ := Value × Value × Value) 8 #[true, true, false, true, true, false, true, true, false, true, false, true, false, false, false, false] (fun s_ => [(17, s_.1), (20, s_.2.1), (23, s_.2.2)]) (fun s_ w' => (slip_Do.HS w' gb1517 gb1518 gb1519 a1_0 a2_0 a3_0 a1_1 a1_2 a2_1 a2_2 a3_1 a3_2) ∧ (Kd.R k43 43 w' w.heap.size (fun k_ => some k_ ≠ (s_.2.1 : Value).ownBlock ∧ some k_ ≠ (s_.2.2 : Value).ownBlock ∧ k_ ≠ gb1517 ∧ k_ ≠ gb1518 ∧ k_ ≠ gb1519) s_.1 y1520) ∧ (Kd.R k43 43 w' w.heap.size (fun k_ => some k_ ≠ (s_.1 : Value).ownBlock ∧ some k_ ≠ (s_.2.2 : Value).ownBlock ∧ k_ ≠ gb1517 ∧ k_ ≠ gb1518 ∧ k_ ≠ gb1519) s_.2.1 y1526) ∧ (Kd.R k43 43 w' w.heap.size (fun k_ => some k_ ≠ (s_.1 : Value).ownBlock ∧ some k_ ≠ (s_.2.1 : Value).ownBlock ∧ k_ ≠ gb1517 ∧ k_ ≠ gb1518 ∧ k_ ≠ gb1519) s_.2.2 y1532) ∧ (w'.heap[gb1517]? = some (.cells #[.bool a1_0, .int .u64 a1_1, .int .u64 a1_2] 43 (0, 0))) ∧ (w'.heap[gb1518]? = some (.cells #[.bool a2_0, .int .u64 a2_1, .int .u64 a2_2] 43 (0, 0))) ∧ (w'.heap[gb1519]? = some (.cells #[.bool a3_0, .int .u64 a3_1, .int .u64 a3_2] 43 (0, 0))) ∧ (Below w.heap.size w w')) ?_ ?_
 ·skip
  rintro ⟨v1521, v1527, v1533⟩ w23 ⟨hHeld, h0_, h1_, h2_, h3_, h4_, h5_, h6_⟩
  try dsimp only at h0_ h1_ h2_ h3_ h4_ h5_ h6_
  replace HO1522 := Aside0.mk h0_; replace HO1528 := Aside0.mk h1_; replace HO1534 := Aside0.mk h2_; replace BK1517 := Aside0.mk h3_; replace BK1518 := Aside0.mk h4_; replace BK1519 := Aside0.mk h5_; replace HB := Aside0.mk h6_; clear h0_ h1_ h2_ h3_ h4_ h5_ h6_
  obtain ⟨Ao24, co24, eo24⟩ := Kd.R_slice HO1522.out
  (first | subst eo24 | (injection eo24 with f1_ f2_ f3_; have f4_ := f1_.symm; have f5_ := f3_.symm; clear f1_ f2_ f3_; subst f4_; subst f5_))
  refine norm_ (a' := ?_) ?_ ?_
  rotate_left
  ·simp only [putAll, Act.put, List.setIfInBounds_toArray, List.set_cons_zero, List.set_cons_succ]
   rfl
  refine two_ (i := 2) (j := 14) (Ni := some 18) (Nj := some 13) #[true, true, true, true, true, false, true, true, false, true, false, true, false, false, false, false] #[true, true, false, true, true, false, true, true, false, true, false, true, false, false, true, false] rfl rfl rfl rfl (two_of HT_.out (by kernel_rfl)) (by decide) (by decide) (fun K hK => ?_) (fun K hK => ?_)
  ·skip
   refine goes_ Try.func45 (by kernel_rfl) rfl #[.slice Ao24 y1520.length co24] (by rfl) rfl rfl (by (try simp only [List.map_toArray, List.map_cons, List.map_nil]); first | done | rfl | (simp only [List.length_drop, List.length_take]; rfl)) ?_
   with_reducible refine (span_Join.calls k _ _ y1520 t1523 t1524 t1525 _ ?side1 ?side2 A7.out).mono ?_
   (case side1 => repeat (first | exact (Kd.R_reads' HO1522.out).2.2 | (with_reducible refine Kd.C_alloc ?_ _) | (with_reducible refine Kd.C_drewN ?_ _) | (with_reducible refine Kd.C_drew ?_)))
   (case side2 => exact (Kd.R_reads' HO1522.out).2.1)
   rintro e w25 ⟨rfl, hb⟩
   refine ⟨_, rfl, ?_⟩
   replace HO1522 := Aside0.mk (Kd.R_below (zRW HO1522.out) hb)
   replace HO1528 := Aside0.mk (Kd.R_below (zRW HO1528.out) hb)
   replace HO1534 := Aside0.mk (Kd.R_below (zRW HO1534.out) hb)
   refine zcn3 HB BK1517 BK1518 BK1519 hb (c := ?_)
   clear HB BK1517 BK1518 BK1519 hb
   intro BK1517 BK1518 BK1519 HB
   refine hK.out _ _ (zk3 BK1517 (zk3 BK1518 (ze3 BK1519))) (fun hHeld => ?_)
   clear hK K
   refine znA 18 (h := ?_)
   exact norm_ zpu (hJ1_2_4_7 (.slice Ao24 y1520.length co24, v1527, v1533) _ ⟨hHeld, (zRW HO1522.out), (zRW HO1528.out), (zRW HO1534.out), (zkq BK1517), (zkq BK1518), (zkq BK1519), zaB⟩)
  skip
  refine box_step ?hg (N := 13) ?hd (cs := #[.bool false, .int .u64 0, .int .u64 0, .bool false, .int .u64 0, .int .u64 0, .bool false, .int .u64 0, .int .u64 0, .int .u64 0, .int .u64 0]) (t := 128) ?hr ?_; (case hd => rfl); (case hg => rfl); (case hr => first | (go_simp; done) | (go_simp; rfl))
  intro gb1540 hg w24 hbox hb
  have GW1540 := zkz HB hg
  have NB1517_1540 := zkl BK1517 hg
  have NB1518_1540 := zkl BK1518 hg
  have NB1519_1540 := zkl BK1519 hg
  replace HO1522 := Aside0.mk (Kd.R_below (zRW HO1522.out) hb)
  replace HO1528 := Aside0.mk (Kd.R_below (zRW HO1528.out) hb)
  replace HO1534 := Aside0.mk (Kd.R_below (zRW HO1534.out) hb)
  replace BK1517 := zkb BK1517 hb
  replace BK1518 := zkb BK1518 hb
  replace BK1519 := zkb BK1519 hb
  replace HB := zkB HB hb
  have BK1540 := Aside0.mk (hbox)
  clear hb hbox hg
  refine hK.out _ _ (zk3 BK1517 (zk3 BK1518 (ze3 BK1519))) (fun hHeld => ?_)
  clear hK K
  refine znA 13 (h := ?_)
  exact norm_ zpu (hJ1_4_7_14 ((.slice Ao24 y1520.length co24), v1527, v1533, gb1540) _ ⟨hHeld, (zRW HO1522.out), (zRW HO1528.out), (zRW HO1534.out), (zkq BK1517), (zkq BK1518), (zkq BK1519), (zkq BK1540), GW1540.out, GW1540.out, NB1517_1540.out, (zks NB1517_1540).out, NB1518_1540.out, (zks NB1518_1540).out, NB1519_1540.out, (zks NB1519_1540).out, zaB⟩)
 intro hJ1_4_7
 refine join_ (σ := Value × Value × Nat) 8 #[true, true, false, true, true, false, true, false, false, true, false, true, false, false, true, false] (fun s_ => [(17, s_.1), (20, s_.2.1), (13, .pointer (some ⟨s_.2.2, 0, none⟩))]) (fun s_ w' => (slip_Do.HS w' gb1517 gb1518 gb1519 a1_0 a2_0 a3_0 a1_1 a1_2 a2_1 a2_2 a3_1 a3_2) ∧ (Kd.R k43 43 w' w.heap.size (fun k_ => some k_ ≠ (s_.2.1 : Value).ownBlock ∧ k_ ≠ gb1517 ∧ k_ ≠ gb1518 ∧ k_ ≠ gb1519) s_.1 y1520) ∧ (Kd.R k43 43 w' w.heap.size (fun k_ => some k_ ≠ (s_.1 : Value).ownBlock ∧ k_ ≠ gb1517 ∧ k_ ≠ gb1518 ∧ k_ ≠ gb1519) s_.2.1 y1526) ∧ (w'.heap[gb1517]? = some (.cells #[.bool a1_0, .int .u64 a1_1, .int .u64 a1_2] 43 (0, 0))) ∧ (w'.heap[gb1518]? = some (.cells #[.bool a2_0, .int .u64 a2_1, .int .u64 a2_2] 43 (0, 0))) ∧ (w'.heap[gb1519]? = some (.cells #[.bool a3_0, .int .u64 a3_1, .int .u64 a3_2] 43 (0, 0))) ∧ (w'.heap[s_.2.2]? = some (.cells #[.bool false, .int .u64 0, .int .u64 0, .bool false, .int .u64 0, .int .u64 0, .bool false, .int .u64 0, .int .u64 0, .int .u64 0, .int .u64 0] 128 (0, 0))) ∧ (w.heap.size ≤ s_.2.2) ∧ (w.heap.size ≤ s_.2.2) ∧ (gb1517 ≠ s_.2.2) ∧ (s_.2.2 ≠ gb1517) ∧ (gb1518 ≠ s_.2.2) ∧ (s_.2.2 ≠ gb1518) ∧ (gb1519 ≠ s_.2.2) ∧ (s_.2.2 ≠ gb1519) ∧ (Below w.heap.size w w')) ?_ ?_
 ·skip
  rintro ⟨v1521, v1527, gb1540⟩ w22 ⟨hHeld, h0_, h1_, h2_, h3_, h4_, h5_, h6_, h7_, h8_, h9_, h10_, h11_, h12_, h13_, h14_⟩
  try dsimp only at h0_ h1_ h2_ h3_ h4_ h5_ h6_ h7_ h8_ h9_ h10_ h11_ h12_ h13_ h14_
  replace HO1522 := Aside0.mk h0_; replace HO1528 := Aside0.mk h1_; replace BK1517 := Aside0.mk h2_; replace BK1518 := Aside0.mk h3_; replace BK1519 := Aside0.mk h4_; replace BK1540 := Aside0.mk h5_; replace GW1540 := Aside0.mk h6_; replace GW1540 := Aside0.mk h7_; replace NB1517_1540 := Aside0.mk h8_; replace NB1540_1517 := Aside0.mk h9_; replace NB1518_1540 := Aside0.mk h10_; replace NB1540_1518 := Aside0.mk h11_; replace NB1519_1540 := Aside0.mk h12_; replace NB1540_1519 := Aside0.mk h13_; replace HB := Aside0.mk h14_; clear h0_ h1_ h2_ h3_ h4_ h5_ h6_ h7_ h8_ h9_ h10_ h11_ h12_ h13_ h14_
  obtain ⟨Ao23, co23, eo23⟩ := Kd.R_slice HO1522.out
  (first | subst eo23 | (injection eo23 with f1_ f2_ f3_; have f4_ := f1_.symm; have f5_ := f3_.symm; clear f1_ f2_ f3_; subst f4_; subst f5_))
  refine norm_ (a' := ?_) ?_ ?_
  rotate_left
  ·simp only [putAll, Act.put, List.setIfInBounds_toArray, List.set_cons_zero, List.set_cons_succ]
   rfl
  refine two_ (i := 2) (j := 7) (Ni := some 18) (Nj := some 23) #[true, true, true, true, true, false, true, false, false, true, false, true, false, false, true, false] #[true, true, false, true, true, false, true, true, false, true, false, true, false, false, true, false] rfl rfl rfl rfl (two_of HT_.out (by kernel_rfl)) (by decide) (by decide) (fun K hK => ?_) (fun K hK => ?_)
  ·skip
   refine goes_ Try.func45 (by kernel_rfl) rfl #[.slice Ao23 y1520.length co23] (by rfl) rfl rfl (by (try simp only [List.map_toArray, List.map_cons, List.map_nil]); first | done | rfl | (simp only [List.length_drop, List.length_take]; rfl)) ?_
   with_reducible refine (span_Join.calls k _ _ y1520 t1523 t1524 t1525 _ ?side1 ?side2 A7.out).mono ?_
   (case side1 => repeat (first | exact (Kd.R_reads' HO1522.out).2.2 | (with_reducible refine Kd.C_alloc ?_ _) | (with_reducible refine Kd.C_drewN ?_ _) | (with_reducible refine Kd.C_drew ?_)))
   (case side2 => exact (Kd.R_reads' HO1522.out).2.1)
   rintro e w24 ⟨rfl, hb⟩
   refine ⟨_, rfl, ?_⟩
   replace HO1522 := Aside0.mk (Kd.R_below (zRW HO1522.out) hb)
   replace HO1528 := Aside0.mk (Kd.R_below (zRW HO1528.out) hb)
   refine zcn4 HB BK1517 BK1518 BK1519 BK1540 hb (c := ?_)
   clear HB BK1517 BK1518 BK1519 BK1540 hb
   intro BK1517 BK1518 BK1519 BK1540 HB
   refine hK.out _ _ (zk3 BK1517 (zk3 BK1518 (ze3 BK1519))) (fun hHeld => ?_)
   clear hK K
   refine znA 18 (h := ?_)
   exact norm_ zpu (hJ1_2_4_14 (.slice Ao23 y1520.length co23, v1527, gb1540) _ ⟨hHeld, (zRW HO1522.out), (zRW HO1528.out), (zkq BK1517), (zkq BK1518), (zkq BK1519), (zkq BK1540), GW1540.out, GW1540.out, NB1517_1540.out, (zks NB1517_1540).out, NB1518_1540.out, (zks NB1518_1540).out, NB1519_1540.out, (zks NB1519_1540).out, zaB⟩)
  skip
  refine slip_Do.lit 23 a3_0 a3_1 a3_2 ?_
  intro v1533 w23 ho24 hb hg_ hnew_
  clear hg_ hnew_
  (first | rw [← Ny1532.out] at ho24 | (simp only [Int.reduceToNat] at ho24; rw [← Ny1532.out] at ho24))
  have HO1534 := Aside0.mk (Kd.R_lower (Kd.R_newB (Kd.R_newB (Kd.R_newB (Kd.R_new' (Kd.R_new' ho24 (Kd.R_lt (zRW HO1522.out))) (Kd.R_lt (zRW HO1528.out))) (g := gb1517) (o := .cells #[.bool a1_0, .int .u64 a1_1, .int .u64 a1_2] 43 (0, 0)) (zkq BK1517)) (g := gb1518) (o := .cells #[.bool a2_0, .int .u64 a2_1, .int .u64 a2_2] 43 (0, 0)) (zkq BK1518)) (g := gb1519) (o := .cells #[.bool a3_0, .int .u64 a3_1, .int .u64 a3_2] 43 (0, 0)) (zkq BK1519)) (below_size zaB))
  replace HO1522 := Aside0.mk (Kd.R_elder' (zRW HO1522.out) (Kd.R_base ho24) hb)
  replace HO1528 := Aside0.mk (Kd.R_elder' (zRW HO1528.out) (Kd.R_base ho24) hb)
  replace BK1517 := zkb BK1517 hb
  replace BK1518 := zkb BK1518 hb
  replace BK1519 := zkb BK1519 hb
  replace BK1540 := zkb BK1540 hb
  replace HB := zkB HB hb
  clear hb ho24
  refine hK.out _ _ (zk3 BK1517 (zk3 BK1518 (ze3 BK1519))) (fun hHeld => ?_)
  clear hK K
  refine znA 23 (h := ?_)
  exact norm_ zpu (hJ1_4_7_14 ((.slice Ao23 y1520.length co23), v1527, v1533, gb1540) _ ⟨hHeld, (by (with_reducible repeat (first | apply Kd.R_alloc | apply Kd.R_drewN | apply Kd.R_drew)); exact Kd.R_mono HO1522.out (fun _ hk => ⟨hk.1.1, ⟨hk.2, ⟨hk.1.2.1, ⟨hk.1.2.2.1, hk.1.2.2.2⟩⟩⟩⟩)), (by (with_reducible repeat (first | apply Kd.R_alloc | apply Kd.R_drewN | apply Kd.R_drew)); exact Kd.R_mono HO1528.out (fun _ hk => ⟨hk.1.1, ⟨hk.2, ⟨hk.1.2.1, ⟨hk.1.2.2.1, hk.1.2.2.2⟩⟩⟩⟩)), (by (with_reducible repeat (first | apply Kd.R_alloc | apply Kd.R_drewN | apply Kd.R_drew)); exact Kd.R_mono HO1534.out (fun _ hk => ⟨hk.1.1.1.1.2, ⟨hk.1.1.1.2, ⟨hk.1.1.2, ⟨hk.1.2, hk.2⟩⟩⟩⟩)), (zkq BK1517), (zkq BK1518), (zkq BK1519), (zkq BK1540), GW1540.out, GW1540.out, NB1517_1540.out, (zks NB1517_1540).out, NB1518_1540.out, (zks NB1518_1540).out, NB1519_1540.out, (zks NB1519_1540).out, zaB⟩)
 intro hJ1_4_14
 refine join_ (σ := Value × Value × Nat) 8 #[true, true, false, true, false, false, true, true, false, true, false, true, false, false, true, false] (fun s_ => [(17, s_.1), (23, s_.2.1), (13, .pointer (some ⟨s_.2.2, 0, none⟩))]) (fun s_ w' => (slip_Do.HS w' gb1517 gb1518 gb1519 a1_0 a2_0 a3_0 a1_1 a1_2 a2_1 a2_2 a3_1 a3_2) ∧ (Kd.R k43 43 w' w.heap.size (fun k_ => some k_ ≠ (s_.2.1 : Value).ownBlock ∧ k_ ≠ gb1517 ∧ k_ ≠ gb1518 ∧ k_ ≠ gb1519) s_.1 y1520) ∧ (Kd.R k43 43 w' w.heap.size (fun k_ => some k_ ≠ (s_.1 : Value).ownBlock ∧ k_ ≠ gb1517 ∧ k_ ≠ gb1518 ∧ k_ ≠ gb1519) s_.2.1 y1532) ∧ (w'.heap[gb1517]? = some (.cells #[.bool a1_0, .int .u64 a1_1, .int .u64 a1_2] 43 (0, 0))) ∧ (w'.heap[gb1518]? = some (.cells #[.bool a2_0, .int .u64 a2_1, .int .u64 a2_2] 43 (0, 0))) ∧ (w'.heap[gb1519]? = some (.cells #[.bool a3_0, .int .u64 a3_1, .int .u64 a3_2] 43 (0, 0))) ∧ (w'.heap[s_.2.2]? = some (.cells #[.bool false, .int .u64 0, .int .u64 0, .bool false, .int .u64 0, .int .u64 0, .bool false, .int .u64 0, .int .u64 0, .int .u64 0, .int .u64 0] 128 (0, 0))) ∧ (w.heap.size ≤ s_.2.2) ∧ (w.heap.size ≤ s_.2.2) ∧ (gb1517 ≠ s_.2.2) ∧ (s_.2.2 ≠ gb1517) ∧ (gb1518 ≠ s_.2.2) ∧ (s_.2.2 ≠ gb1518) ∧ (gb1519 ≠ s_.2.2) ∧ (s_.2.2 ≠ gb1519) ∧ (Below w.heap.size w w')) ?_ ?_
 ·skip
  rintro ⟨v1521, v1533, gb1540⟩ w22 ⟨hHeld, h0_, h1_, h2_, h3_, h4_, h5_, h6_, h7_, h8_, h9_, h10_, h11_, h12_, h13_, h14_⟩
  try dsimp only at h0_ h1_ h2_ h3_ h4_ h5_ h6_ h7_ h8_ h9_ h10_ h11_ h12_ h13_ h14_
  replace HO1522 := Aside0.mk h0_; replace HO1534 := Aside0.mk h1_; replace BK1517 := Aside0.mk h2_; replace BK1518 := Aside0.mk h3_; replace BK1519 := Aside0.mk h4_; replace BK1540 := Aside0.mk h5_; replace GW1540 := Aside0.mk h6_; replace GW1540 := Aside0.mk h7_; replace NB1517_1540 := Aside0.mk h8_; replace NB1540_1517 := Aside0.mk h9_; replace NB1518_1540 := Aside0.mk h10_; replace NB1540_1518 := Aside0.mk h11_; replace NB1519_1540 := Aside0.mk h12_; replace NB1540_1519 := Aside0.mk h13_; replace HB := Aside0.mk h14_; clear h0_ h1_ h2_ h3_ h4_ h5_ h6_ h7_ h8_ h9_ h10_ h11_ h12_ h13_ h14_
  obtain ⟨Ao23, co23, eo23⟩ := Kd.R_slice HO1522.out
  (first | subst eo23 | (injection eo23 with f1_ f2_ f3_; have f4_ := f1_.symm; have f5_ := f3_.symm; clear f1_ f2_ f3_; subst f4_; subst f5_))
  refine norm_ (a' := ?_) ?_ ?_
  rotate_left
  ·simp only [putAll, Act.put, List.setIfInBounds_toArray, List.set_cons_zero, List.set_cons_succ]
   rfl
  refine two_ (i := 2) (j := 4) (Ni := some 18) (Nj := some 20) #[true, true, true, true, false, false, true, true, false, true, false, true, false, false, true, false] #[true, true, false, true, true, false, true, true, false, true, false, true, false, false, true, false] rfl rfl rfl rfl (two_of HT_.out (by kernel_rfl)) (by decide) (by decide) (fun K hK => ?_) (fun K hK => ?_)
  ·skip
   refine goes_ Try.func45 (by kernel_rfl) rfl #[.slice Ao23 y1520.length co23] (by rfl) rfl rfl (by (try simp only [List.map_toArray, List.map_cons, List.map_nil]); first | done | rfl | (simp only [List.length_drop, List.length_take]; rfl)) ?_
   with_reducible refine (span_Join.calls k _ _ y1520 t1523 t1524 t1525 _ ?side1 ?side2 A7.out).mono ?_
   (case side1 => repeat (first | exact (Kd.R_reads' HO1522.out).2.2 | (with_reducible refine Kd.C_alloc ?_ _) | (with_reducible refine Kd.C_drewN ?_ _) | (with_reducible refine Kd.C_drew ?_)))
   (case side2 => exact (Kd.R_reads' HO1522.out).2.1)
   rintro e w24 ⟨rfl, hb⟩
   refine ⟨_, rfl, ?_⟩
   replace HO1522 := Aside0.mk (Kd.R_below (zRW HO1522.out) hb)
   replace HO1534 := Aside0.mk (Kd.R_below (zRW HO1534.out) hb)
   refine zcn4 HB BK1517 BK1518 BK1519 BK1540 hb (c := ?_)
   clear HB BK1517 BK1518 BK1519 BK1540 hb
   intro BK1517 BK1518 BK1519 BK1540 HB
   refine hK.out _ _ (zk3 BK1517 (zk3 BK1518 (ze3 BK1519))) (fun hHeld => ?_)
   clear hK K
   refine znA 18 (h := ?_)
   exact norm_ zpu (hJ1_2_7_14 (.slice Ao23 y1520.length co23, v1533, gb1540) _ ⟨hHeld, (zRW HO1522.out), (zRW HO1534.out), (zkq BK1517), (zkq BK1518), (zkq BK1519), (zkq BK1540), GW1540.out, GW1540.out, NB1517_1540.out, (zks NB1517_1540).out, NB1518_1540.out, (zks NB1518_1540).out, NB1519_1540.out, (zks NB1519_1540).out, zaB⟩)
  skip
  refine slip_Do.lit 20 a2_0 a2_1 a2_2 ?_
  intro v1527 w23 ho24 hb hg_ hnew_
  clear hg_ hnew_
  (first | rw [← Ny1526.out] at ho24 | (simp only [Int.reduceToNat] at ho24; rw [← Ny1526.out] at ho24))
  have HO1528 := Aside0.mk (Kd.R_lower (Kd.R_newB (Kd.R_newB (Kd.R_newB (Kd.R_new' (Kd.R_new' ho24 (Kd.R_lt (zRW HO1522.out))) (Kd.R_lt (zRW HO1534.out))) (g := gb1517) (o := .cells #[.bool a1_0, .int .u64 a1_1, .int .u64 a1_2] 43 (0, 0)) (zkq BK1517)) (g := gb1518) (o := .cells #[.bool a2_0, .int .u64 a2_1, .int .u64 a2_2] 43 (0, 0)) (zkq BK1518)) (g := gb1519) (o := .cells #[.bool a3_0, .int .u64 a3_1, .int .u64 a3_2] 43 (0, 0)) (zkq BK1519)) (below_size zaB))
  replace HO1522 := Aside0.mk (Kd.R_elder' (zRW HO1522.out) (Kd.R_base ho24) hb)
  replace HO1534 := Aside0.mk (Kd.R_elder' (zRW HO1534.out) (Kd.R_base ho24) hb)
  replace BK1517 := zkb BK1517 hb
  replace BK1518 := zkb BK1518 hb
  replace BK1519 := zkb BK1519 hb
  replace BK1540 := zkb BK1540 hb
  replace HB := zkB HB hb
  clear hb ho24
  refine hK.out _ _ (zk3 BK1517 (zk3 BK1518 (ze3 BK1519))) (fun hHeld => ?_)
  clear hK K
  refine znA 20 (h := ?_)
  exact norm_ zpu (hJ1_4_7_14 ((.slice Ao23 y1520.length co23), v1527, v1533, gb1540) _ ⟨hHeld, (by (with_reducible repeat (first | apply Kd.R_alloc | apply Kd.R_drewN | apply Kd.R_drew)); exact Kd.R_mono HO1522.out (fun _ hk => ⟨hk.2, ⟨hk.1.1, ⟨hk.1.2.1, ⟨hk.1.2.2.1, hk.1.2.2.2⟩⟩⟩⟩)), (by (with_reducible repeat (first | apply Kd.R_alloc | apply Kd.R_drewN | apply Kd.R_drew)); exact Kd.R_mono HO1528.out (fun _ hk => ⟨hk.1.1.1.1.2, ⟨hk.1.1.1.2, ⟨hk.1.1.2, ⟨hk.1.2, hk.2⟩⟩⟩⟩)), (by (with_reducible repeat (first | apply Kd.R_alloc | apply Kd.R_drewN | apply Kd.R_drew)); exact Kd.R_mono HO1534.out (fun _ hk => ⟨hk.1.1, ⟨hk.2, ⟨hk.1.2.1, ⟨hk.1.2.2.1, hk.1.2.2.2⟩⟩⟩⟩)), (zkq BK1517), (zkq BK1518), (zkq BK1519), (zkq BK1540), GW1540.out, GW1540.out, NB1517_1540.out, (zks NB1517_1540).out, NB1518_1540.out, (zks NB1518_1540).out, NB1519_1540.out, (zks NB1519_1540).out, zaB⟩)
 intro hJ1_7_14
 refine join_ (σ := Value × Value × Nat) 8 #[true, false, false, true, true, false, true, true, false, true, false, true, false, false, true, false] (fun s_ => [(20, s_.1), (23, s_.2.1), (13, .pointer (some ⟨s_.2.2, 0, none⟩))]) (fun s_ w' => (slip_Do.HS w' gb1517 gb1518 gb1519 a1_0 a2_0 a3_0 a1_1 a1_2 a2_1 a2_2 a3_1 a3_2) ∧ (Kd.R k43 43 w' w.heap.size (fun k_ => some k_ ≠ (s_.2.1 : Value).ownBlock ∧ k_ ≠ gb1517 ∧ k_ ≠ gb1518 ∧ k_ ≠ gb1519) s_.1 y1526) ∧ (Kd.R k43 43 w' w.heap.size (fun k_ => some k_ ≠ (s_.1 : Value).ownBlock ∧ k_ ≠ gb1517 ∧ k_ ≠ gb1518 ∧ k_ ≠ gb1519) s_.2.1 y1532) ∧ (w'.heap[gb1517]? = some (.cells #[.bool a1_0, .int .u64 a1_1, .int .u64 a1_2] 43 (0, 0))) ∧ (w'.heap[gb1518]? = some (.cells #[.bool a2_0, .int .u64 a2_1, .int .u64 a2_2] 43 (0, 0))) ∧ (w'.heap[gb1519]? = some (.cells #[.bool a3_0, .int .u64 a3_1, .int .u64 a3_2] 43 (0, 0))) ∧ (w'.heap[s_.2.2]? = some (.cells #[.bool false, .int .u64 0, .int .u64 0, .bool false, .int .u64 0, .int .u64 0, .bool false, .int .u64 0, .int .u64 0, .int .u64 0, .int .u64 0] 128 (0, 0))) ∧ (w.heap.size ≤ s_.2.2) ∧ (w.heap.size ≤ s_.2.2) ∧ (gb1517 ≠ s_.2.2) ∧ (s_.2.2 ≠ gb1517) ∧ (gb1518 ≠ s_.2.2) ∧ (s_.2.2 ≠ gb1518) ∧ (gb1519 ≠ s_.2.2) ∧ (s_.2.2 ≠ gb1519) ∧ (Below w.heap.size w w')) ?_ ?_
 ·skip
  rintro ⟨v1527, v1533, gb1540⟩ w22 ⟨hHeld, h0_, h1_, h2_, h3_, h4_, h5_, h6_, h7_, h8_, h9_, h10_, h11_, h12_, h13_, h14_⟩
  try dsimp only at h0_ h1_ h2_ h3_ h4_ h5_ h6_ h7_ h8_ h9_ h10_ h11_ h12_ h13_ h14_
  replace HO1528 := Aside0.mk h0_; replace HO1534 := Aside0.mk h1_; replace BK1517 := Aside0.mk h2_; replace BK1518 := Aside0.mk h3_; replace BK1519 := Aside0.mk h4_; replace BK1540 := Aside0.mk h5_; replace GW1540 := Aside0.mk h6_; replace GW1540 := Aside0.mk h7_; replace NB1517_1540 := Aside0.mk h8_; replace NB1540_1517 := Aside0.mk h9_; replace NB1518_1540 := Aside0.mk h10_; replace NB1540_1518 := Aside0.mk h11_; replace NB1519_1540 := Aside0.mk h12_; replace NB1540_1519 := Aside0.mk h13_; replace HB := Aside0.mk h14_; clear h0_ h1_ h2_ h3_ h4_ h5_ h6_ h7_ h8_ h9_ h10_ h11_ h12_ h13_ h14_
  refine norm_ (a' := ?_) ?_ ?_
  rotate_left
  ·simp only [putAll, Act.put, List.setIfInBounds_toArray, List.set_cons_zero, List.set_cons_succ]
   rfl
  refine zoA 1 17 (h := fun K hK => ?_)
  refine slip_Do.lit 17 a1_0 a1_1 a1_2 ?_
  intro v1521 w23 ho24 hb hg_ hnew_
  clear hg_ hnew_
  (first | rw [← Ny1520.out] at ho24 | (simp only [Int.reduceToNat] at ho24; rw [← Ny1520.out] at ho24))
  have HO1522 := Aside0.mk (Kd.R_lower (Kd.R_newB (Kd.R_newB (Kd.R_newB (Kd.R_new' (Kd.R_new' ho24 (Kd.R_lt (zRW HO1528.out))) (Kd.R_lt (zRW HO1534.out))) (g := gb1517) (o := .cells #[.bool a1_0, .int .u64 a1_1, .int .u64 a1_2] 43 (0, 0)) (zkq BK1517)) (g := gb1518) (o := .cells #[.bool a2_0, .int .u64 a2_1, .int .u64 a2_2] 43 (0, 0)) (zkq BK1518)) (g := gb1519) (o := .cells #[.bool a3_0, .int .u64 a3_1, .int .u64 a3_2] 43 (0, 0)) (zkq BK1519)) (below_size zaB))
  replace HO1528 := Aside0.mk (Kd.R_elder' (zRW HO1528.out) (Kd.R_base ho24) hb)
  replace HO1534 := Aside0.mk (Kd.R_elder' (zRW HO1534.out) (Kd.R_base ho24) hb)
  replace BK1517 := zkb BK1517 hb
  replace BK1518 := zkb BK1518 hb
  replace BK1519 := zkb BK1519 hb
  replace BK1540 := zkb BK1540 hb
  replace HB := zkB HB hb
  clear hb ho24
  refine hK.out _ _ (zk3 BK1517 (zk3 BK1518 (ze3 BK1519))) (fun hHeld => ?_)
  clear hK K
  refine znA 17 (h := ?_)
  exact norm_ zpu (hJ1_4_7_14 (v1521, v1527, v1533, gb1540) _ ⟨hHeld, (by (with_reducible repeat (first | apply Kd.R_alloc | apply Kd.R_drewN | apply Kd.R_drew)); exact Kd.R_mono HO1522.out (fun _ hk => ⟨hk.1.1.1.1.2, ⟨hk.1.1.1.2, ⟨hk.1.1.2, ⟨hk.1.2, hk.2⟩⟩⟩⟩)), (by (with_reducible repeat (first | apply Kd.R_alloc | apply Kd.R_drewN | apply Kd.R_drew)); exact Kd.R_mono HO1528.out (fun _ hk => ⟨hk.2, ⟨hk.1.1, ⟨hk.1.2.1, ⟨hk.1.2.2.1, hk.1.2.2.2⟩⟩⟩⟩)), (by (with_reducible repeat (first | apply Kd.R_alloc | apply Kd.R_drewN | apply Kd.R_drew)); exact Kd.R_mono HO1534.out (fun _ hk => ⟨hk.2, ⟨hk.1.1, ⟨hk.1.2.1, ⟨hk.1.2.2.1, hk.1.2.2.2⟩⟩⟩⟩)), (zkq BK1517), (zkq BK1518), (zkq BK1519), (zkq BK1540), GW1540.out, GW1540.out, NB1517_1540.out, (zks NB1517_1540).out, NB1518_1540.out, (zks NB1518_1540).out, NB1519_1540.out, (zks NB1519_1540).out, zaB⟩)
 intro hJ4_7_14
 refine join_ (σ := Value) 9 #[true, true, true, true, false, false, true, false, false, true, false, true, false, false, false, false] (fun s_ => [(17, s_), (18, .agg #[.bool t1523, .int .u64 t1524, .int .u64 t1525])]) (fun s_ w' => (slip_Do.HS w' gb1517 gb1518 gb1519 a1_0 a2_0 a3_0 a1_1 a1_2 a2_1 a2_2 a3_1 a3_2) ∧ (Kd.R k43 43 w' w.heap.size (fun k_ => k_ ≠ gb1517 ∧ k_ ≠ gb1518 ∧ k_ ≠ gb1519) s_ y1520) ∧ (w'.heap[gb1517]? = some (.cells #[.bool a1_0, .int .u64 a1_1, .int .u64 a1_2] 43 (0, 0))) ∧ (w'.heap[gb1518]? = some (.cells #[.bool a2_0, .int .u64 a2_1, .int .u64 a2_2] 43 (0, 0))) ∧ (w'.heap[gb1519]? = some (.cells #[.bool a3_0, .int .u64 a3_1, .int .u64 a3_2] 43 (0, 0))) ∧ (Below w.heap.size w w')) ?_ ?_
 ·skip
  rintro v1521 w21 ⟨hHeld, h0_, h1_, h2_, h3_, h4_⟩
  replace HO1522 := Aside0.mk h0_; replace BK1517 := Aside0.mk h1_; replace BK1518 := Aside0.mk h2_; replace BK1519 := Aside0.mk h3_; replace HB := Aside0.mk h4_; clear h0_ h1_ h2_ h3_ h4_
  refine norm_ (a' := ?_) ?_ ?_
  rotate_left
  ·simp only [putAll, Act.put, List.setIfInBounds_toArray, List.set_cons_zero, List.set_cons_succ]
   rfl
  refine three_ (i := 4) (j := 7) (k := 14) (Ni := some 20) (Nj := some 23) (Nk := some 13) #[true, true, true, true, true, false, true, false, false, true, false, true, false, false, false, false] #[true, true, true, true, false, false, true, true, false, true, false, true, false, false, false, false] #[true, true, true, true, false, false, true, false, false, true, false, true, false, false, true, false] rfl rfl rfl rfl rfl rfl (three_of HT_.out (by kernel_rfl)) (by decide) (by decide) (by decide) (fun K hK => ?_) (fun K hK => ?_) (fun K hK => ?_)
  ·skip
   refine slip_Do.lit 20 a2_0 a2_1 a2_2 ?_
   intro v1527 w22 ho23 hb hg_ hnew_
   clear hg_ hnew_
   (first | rw [← Ny1526.out] at ho23 | (simp only [Int.reduceToNat] at ho23; rw [← Ny1526.out] at ho23))
   have HO1528 := Aside0.mk (Kd.R_lower (Kd.R_newB (Kd.R_newB (Kd.R_newB (Kd.R_new' ho23 (Kd.R_lt (zRW HO1522.out))) (g := gb1517) (o := .cells #[.bool a1_0, .int .u64 a1_1, .int .u64 a1_2] 43 (0, 0)) (zkq BK1517)) (g := gb1518) (o := .cells #[.bool a2_0, .int .u64 a2_1, .int .u64 a2_2] 43 (0, 0)) (zkq BK1518)) (g := gb1519) (o := .cells #[.bool a3_0, .int .u64 a3_1, .int .u64 a3_2] 43 (0, 0)) (zkq BK1519)) (below_size zaB))
   replace HO1522 := Aside0.mk (Kd.R_elder' (zRW HO1522.out) (Kd.R_base ho23) hb)
   replace BK1517 := zkb BK1517 hb
   replace BK1518 := zkb BK1518 hb
   replace BK1519 := zkb BK1519 hb
   replace HB := zkB HB hb
   clear hb ho23
   refine hK.out _ _ (zk3 BK1517 (zk3 BK1518 (ze3 BK1519))) (fun hHeld => ?_)
   clear hK K
   refine znA 20 (h := ?_)
   exact norm_ zpu (hJ1_2_4 (v1521, v1527) _ ⟨hHeld, (by (with_reducible repeat (first | apply Kd.R_alloc | apply Kd.R_drewN | apply Kd.R_drew)); exact Kd.R_mono HO1522.out (fun _ hk => ⟨hk.2, ⟨hk.1.1, ⟨hk.1.2.1, hk.1.2.2⟩⟩⟩)), (by (with_reducible repeat (first | apply Kd.R_alloc | apply Kd.R_drewN | apply Kd.R_drew)); exact Kd.R_mono HO1528.out (fun _ hk => ⟨hk.1.1.1.2, ⟨hk.1.1.2, ⟨hk.1.2, hk.2⟩⟩⟩)), (zkq BK1517), (zkq BK1518), (zkq BK1519), zaB⟩)
  ·skip
   refine slip_Do.lit 23 a3_0 a3_1 a3_2 ?_
   intro v1533 w22 ho23 hb hg_ hnew_
   clear hg_ hnew_
   (first | rw [← Ny1532.out] at ho23 | (simp only [Int.reduceToNat] at ho23; rw [← Ny1532.out] at ho23))
   have HO1534 := Aside0.mk (Kd.R_lower (Kd.R_newB (Kd.R_newB (Kd.R_newB (Kd.R_new' ho23 (Kd.R_lt (zRW HO1522.out))) (g := gb1517) (o := .cells #[.bool a1_0, .int .u64 a1_1, .int .u64 a1_2] 43 (0, 0)) (zkq BK1517)) (g := gb1518) (o := .cells #[.bool a2_0, .int .u64 a2_1, .int .u64 a2_2] 43 (0, 0)) (zkq BK1518)) (g := gb1519) (o := .cells #[.bool a3_0, .int .u64 a3_1, .int .u64 a3_2] 43 (0, 0)) (zkq BK1519)) (below_size zaB))
   replace HO1522 := Aside0.mk (Kd.R_elder' (zRW HO1522.out) (Kd.R_base ho23) hb)
   replace BK1517 := zkb BK1517 hb
   replace BK1518 := zkb BK1518 hb
   replace BK1519 := zkb BK1519 hb
   replace HB := zkB HB hb
   clear hb ho23
   refine hK.out _ _ (zk3 BK1517 (zk3 BK1518 (ze3 BK1519))) (fun hHeld => ?_)
   clear hK K
   refine znA 23 (h := ?_)
   exact norm_ zpu (hJ1_2_7 (v1521, v1533) _ ⟨hHeld, (by (with_reducible repeat (first | apply Kd.R_alloc | apply Kd.R_drewN | apply Kd.R_drew)); exact Kd.R_mono HO1522.out (fun _ hk => ⟨hk.2, ⟨hk.1.1, ⟨hk.1.2.1, hk.1.2.2⟩⟩⟩)), (by (with_reducible repeat (first | apply Kd.R_alloc | apply Kd.R_drewN | apply Kd.R_drew)); exact Kd.R_mono HO1534.out (fun _ hk => ⟨hk.1.1.1.2, ⟨hk.1.1.2, ⟨hk.1.2, hk.2⟩⟩⟩)), (zkq BK1517), (zkq BK1518), (zkq BK1519), zaB⟩)
  skip
  refine box_step ?hg (N := 13) ?hd (cs := #[.bool false, .int .u64 0, .int .u64 0, .bool false, .int .u64 0, .int .u64 0, .bool false, .int .u64 0, .int .u64 0, .int .u64 0, .int .u64 0]) (t := 128) ?hr ?_; (case hd => rfl); (case hg => rfl); (case hr => first | (go_simp; done) | (go_simp; rfl))
  intro gb1540 hg w22 hbox hb
  have GW1540 := zkz HB hg
  have NB1517_1540 := zkl BK1517 hg
  have NB1518_1540 := zkl BK1518 hg
  have NB1519_1540 := zkl BK1519 hg
  replace HO1522 := Aside0.mk (Kd.R_below (zRW HO1522.out) hb)
  replace BK1517 := zkb BK1517 hb
  replace BK1518 := zkb BK1518 hb
  replace BK1519 := zkb BK1519 hb
  replace HB := zkB HB hb
  have BK1540 := Aside0.mk (hbox)
  clear hb hbox hg
  refine hK.out _ _ (zk3 BK1517 (zk3 BK1518 (ze3 BK1519))) (fun hHeld => ?_)
  clear hK K
  refine znA 13 (h := ?_)
  exact norm_ zpu (hJ1_2_14 (v1521, gb1540) _ ⟨hHeld, (zRW HO1522.out), (zkq BK1517), (zkq BK1518), (zkq BK1519), (zkq BK1540), GW1540.out, GW1540.out, NB1517_1540.out, (zks NB1517_1540).out, NB1518_1540.out, (zks NB1518_1540).out, NB1519_1540.out, (zks NB1519_1540).out, zaB⟩)
 intro hJ1_2
 refine join_ (σ := Value × Value) 9 #[true, true, false, true, true, false, true, false, false, true, false, true, false, false, false, false] (fun s_ => [(17, s_.1), (20, s_.2)]) (fun s_ w' => (slip_Do.HS w' gb1517 gb1518 gb1519 a1_0 a2_0 a3_0 a1_1 a1_2 a2_1 a2_2 a3_1 a3_2) ∧ (Kd.R k43 43 w' w.heap.size (fun k_ => some k_ ≠ (s_.2 : Value).ownBlock ∧ k_ ≠ gb1517 ∧ k_ ≠ gb1518 ∧ k_ ≠ gb1519) s_.1 y1520) ∧ (Kd.R k43 43 w' w.heap.size (fun k_ => some k_ ≠ (s_.1 : Value).ownBlock ∧ k_ ≠ gb1517 ∧ k_ ≠ gb1518 ∧ k_ ≠ gb1519) s_.2 y1526) ∧ (w'.heap[gb1517]? = some (.cells #[.bool a1_0, .int .u64 a1_1, .int .u64 a1_2] 43 (0, 0))) ∧ (w'.heap[gb1518]? = some (.cells #[.bool a2_0, .int .u64 a2_1, .int .u64 a2_2] 43 (0, 0))) ∧ (w'.heap[gb1519]? = some (.cells #[.bool a3_0, .int .u64 a3_1, .int .u64 a3_2] 43 (0, 0))) ∧ (Below w.heap.size w w')) ?_ ?_
 ·skip
  rintro ⟨v1521, v1527⟩ w21 ⟨hHeld, h0_, h1_, h2_, h3_, h4_, h5_⟩
  try dsimp only at h0_ h1_ h2_ h3_ h4_ h5_
  replace HO1522 := Aside0.mk h0_; replace HO1528 := Aside0.mk h1_; replace BK1517 := Aside0.mk h2_; replace BK1518 := Aside0.mk h3_; replace BK1519 := Aside0.mk h4_; replace HB := Aside0.mk h5_; clear h0_ h1_ h2_ h3_ h4_ h5_
  obtain ⟨Ao22, co22, eo22⟩ := Kd.R_slice HO1522.out
  (first | subst eo22 | (injection eo22 with f1_ f2_ f3_; have f4_ := f1_.symm; have f5_ := f3_.symm; clear f1_ f2_ f3_; subst f4_; subst f5_))
  refine norm_ (a' := ?_) ?_ ?_
  rotate_left
  ·simp only [putAll, Act.put, List.setIfInBounds_toArray, List.set_cons_zero, List.set_cons_succ]
   rfl
  refine three_ (i := 2) (j := 7) (k := 14) (Ni := some 18) (Nj := some 23) (Nk := some 13) #[true, true, true, true, true, false, true, false, false, true, false, true, false, false, false, false] #[true, true, false, true, true, false, true, true, false, true, false, true, false, false, false, false] #[true, true, false, true, true, false, true, false, false, true, false, true, false, false, true, false] rfl rfl rfl rfl rfl rfl (three_of HT_.out (by kernel_rfl)) (by decide) (by decide) (by decide) (fun K hK => ?_) (fun K hK => ?_) (fun K hK => ?_)
  ·skip
   refine goes_ Try.func45 (by kernel_rfl) rfl #[.slice Ao22 y1520.length co22] (by rfl) rfl rfl (by (try simp only [List.map_toArray, List.map_cons, List.map_nil]); first | done | rfl | (simp only [List.length_drop, List.length_take]; rfl)) ?_
   with_reducible refine (span_Join.calls k _ _ y1520 t1523 t1524 t1525 _ ?side1 ?side2 A7.out).mono ?_
   (case side1 => repeat (first | exact (Kd.R_reads' HO1522.out).2.2 | (with_reducible refine Kd.C_alloc ?_ _) | (with_reducible refine Kd.C_drewN ?_ _) | (with_reducible refine Kd.C_drew ?_)))
   (case side2 => exact (Kd.R_reads' HO1522.out).2.1)
   rintro e w23 ⟨rfl, hb⟩
   refine ⟨_, rfl, ?_⟩
   replace HO1522 := Aside0.mk (Kd.R_below (zRW HO1522.out) hb)
   replace HO1528 := Aside0.mk (Kd.R_below (zRW HO1528.out) hb)
   refine zcn3 HB BK1517 BK1518 BK1519 hb (c := ?_)
   clear HB BK1517 BK1518 BK1519 hb
   intro BK1517 BK1518 BK1519 HB
   refine hK.out _ _ (zk3 BK1517 (zk3 BK1518 (ze3 BK1519))) (fun hHeld => ?_)
   clear hK K
   refine znA 18 (h := ?_)
   exact norm_ zpu (hJ1_2_4 (.slice Ao22 y1520.length co22, v1527) _ ⟨hHeld, (zRW HO1522.out), (zRW HO1528.out), (zkq BK1517), (zkq BK1518), (zkq BK1519), zaB⟩)
  ·skip
   refine slip_Do.lit 23 a3_0 a3_1 a3_2 ?_
   intro v1533 w22 ho23 hb hg_ hnew_
   clear hg_ hnew_
   (first | rw [← Ny1532.out] at ho23 | (simp only [Int.reduceToNat] at ho23; rw [← Ny1532.out] at ho23))
   have HO1534 := Aside0.mk (Kd.R_lower (Kd.R_newB (Kd.R_newB (Kd.R_newB (Kd.R_new' (Kd.R_new' ho23 (Kd.R_lt (zRW HO1522.out))) (Kd.R_lt (zRW HO1528.out))) (g := gb1517) (o := .cells #[.bool a1_0, .int .u64 a1_1, .int .u64 a1_2] 43 (0, 0)) (zkq BK1517)) (g := gb1518) (o := .cells #[.bool a2_0, .int .u64 a2_1, .int .u64 a2_2] 43 (0, 0)) (zkq BK1518)) (g := gb1519) (o := .cells #[.bool a3_0, .int .u64 a3_1, .int .u64 a3_2] 43 (0, 0)) (zkq BK1519)) (below_size zaB))
   replace HO1522 := Aside0.mk (Kd.R_elder' (zRW HO1522.out) (Kd.R_base ho23) hb)
   replace HO1528 := Aside0.mk (Kd.R_elder' (zRW HO1528.out) (Kd.R_base ho23) hb)
   replace BK1517 := zkb BK1517 hb
   replace BK1518 := zkb BK1518 hb
   replace BK1519 := zkb BK1519 hb
   replace HB := zkB HB hb
   clear hb ho23
   refine hK.out _ _ (zk3 BK1517 (zk3 BK1518 (ze3 BK1519))) (fun hHeld => ?_)
   clear hK K
   refine znA 23 (h := ?_)
   exact norm_ zpu (hJ1_4_7 ((.slice Ao22 y1520.length co22), v1527, v1533) _ ⟨hHeld, (by (with_reducible repeat (first | apply Kd.R_alloc | apply Kd.R_drewN | apply Kd.R_drew)); exact Kd.R_mono HO1522.out (fun _ hk => ⟨hk.1.1, ⟨hk.2, ⟨hk.1.2.1, ⟨hk.1.2.2.1, hk.1.2.2.2⟩⟩⟩⟩)), (by (with_reducible repeat (first | apply Kd.R_alloc | apply Kd.R_drewN | apply Kd.R_drew)); exact Kd.R_mono HO1528.out (fun _ hk => ⟨hk.1.1, ⟨hk.2, ⟨hk.1.2.1, ⟨hk.1.2.2.1, hk.1.2.2.2⟩⟩⟩⟩)), (by (with_reducible repeat (first | apply Kd.R_alloc | apply Kd.R_drewN | apply Kd.R_drew)); exact Kd.R_mono HO1534.out (fun _ hk => ⟨hk.1.1.1.1.2, ⟨hk.1.1.1.2, ⟨hk.1.1.2, ⟨hk.1.2, hk.2⟩⟩⟩⟩)), (zkq BK1517), (zkq BK1518), (zkq BK1519), zaB⟩)
  skip
  refine box_step ?hg (N := 13) ?hd (cs := #[.bool false, .int .u64 0, .int .u64 0, .bool false, .int .u64 0, .int .u64 0, .bool false, .int .u64 0, .int .u64 0, .int .u64 0, .int .u64 0]) (t := 128) ?hr ?_; (case hd => rfl); (case hg => rfl); (case hr => first | (go_simp; done) | (go_simp; rfl))
  intro gb1540 hg w22 hbox hb
  have GW1540 := zkz HB hg
  have NB1517_1540 := zkl BK1517 hg
  have NB1518_1540 := zkl BK1518 hg
  have NB1519_1540 := zkl BK1519 hg
  replace HO1522 := Aside0.mk (Kd.R_below (zRW HO1522.out) hb)
  replace HO1528 := Aside0.mk (Kd.R_below (zRW HO1528.out) hb)
  replace BK1517 := zkb BK1517 hb
  replace BK1518 := zkb BK1518 hb
  replace BK1519 := zkb BK1519 hb
  replace HB := zkB HB hb
  have BK1540 := Aside0.mk (hbox)
  clear hb hbox hg
  refine hK.out _ _ (zk3 BK1517 (zk3 BK1518 (ze3 BK1519))) (fun hHeld => ?_)
  clear hK K
  refine znA 13 (h := ?_)
  exact norm_ zpu (hJ1_4_14 ((.slice Ao22 y1520.length co22), v1527, gb1540) _ ⟨hHeld, (zRW HO1522.out), (zRW HO1528.out), (zkq BK1517), (zkq BK1518), (zkq BK1519), (zkq BK1540), GW1540.out, GW1540.out, NB1517_1540.out, (zks NB1517_1540).out, NB1518_1540.out, (zks NB1518_1540).out, NB1519_1540.out, (zks NB1519_1540).out, zaB⟩)
 intro hJ1_4
 refine join_ (σ := Value × Value) 9 #[true, true, false, true, false, false, true, true, false, true, false, true, false, false, false, false] (fun s_ => [(17, s_.1), (23, s_.2)]) (fun s_ w' => (slip_Do.HS w' gb1517 gb1518 gb1519 a1_0 a2_0 a3_0 a1_1 a1_2 a2_1 a2_2 a3_1 a3_2) ∧ (Kd.R k43 43 w' w.heap.size (fun k_ => some k_ ≠ (s_.2 : Value).ownBlock ∧ k_ ≠ gb1517 ∧ k_ ≠ gb1518 ∧ k_ ≠ gb1519) s_.1 y1520) ∧ (Kd.R k43 43 w' w.heap.size (fun k_ => some k_ ≠ (s_.1 : Value).ownBlock ∧ k_ ≠ gb1517 ∧ k_ ≠ gb1518 ∧ k_ ≠ gb1519) s_.2 y1532) ∧ (w'.heap[gb1517]? = some (.cells #[.bool a1_0, .int .u64 a1_1, .int .u64 a1_2] 43 (0, 0))) ∧ (w'.heap[gb1518]? = some (.cells #[.bool a2_0, .int .u64 a2_1, .int .u64 a2_2] 43 (0, 0))) ∧ (w'.heap[gb1519]? = some (.cells #[.bool a3_0, .int .u64 a3_1, .int .u64 a3_2] 43 (0, 0))) ∧ (Below w.heap.size w w')) ?_ ?_
 ·skip
  rintro ⟨v1521, v1533⟩ w21 ⟨hHeld, h0_, h1_, h2_, h3_, h4_, h5_⟩
  try dsimp only at h0_ h1_ h2_ h3_ h4_ h5_
  replace HO1522 := Aside0.mk h0_; replace HO1534 := Aside0.mk h1_; replace BK1517 := Aside0.mk h2_; replace BK1518 := Aside0.mk h3_; replace BK1519 := Aside0.mk h4_; replace HB := Aside0.mk h5_; clear h0_ h1_ h2_ h3_ h4_ h5_
  obtain ⟨Ao22, co22, eo22⟩ := Kd.R_slice HO1522.out
  (first | subst eo22 | (injection eo22 with f1_ f2_ f3_; have f4_ := f1_.symm; have f5_ := f3_.symm; clear f1_ f2_ f3_; subst f4_; subst f5_))
  refine norm_ (a' := ?_) ?_ ?_
  rotate_left
  ·simp only [putAll, Act.put, List.setIfInBounds_toArray, List.set_cons_zero, List.set_cons_succ]
   rfl
  refine three_ (i := 2) (j := 4) (k := 14) (Ni := some 18) (Nj := some 20) (Nk := some 13) #[true, true, true, true, false, false, true, true, false, true, false, true, false, false, false, false] #[true, true, false, true, true, false, true, true, false, true, false, true, false, false, false, false] #[true, true, false, true, false, false, true, true, false, true, false, true, false, false, true, false] rfl rfl rfl rfl rfl rfl (three_of HT_.out (by kernel_rfl)) (by decide) (by decide) (by decide) (fun K hK => ?_) (fun K hK => ?_) (fun K hK => ?_)
  ·skip
   refine goes_ Try.func45 (by kernel_rfl) rfl #[.slice Ao22 y1520.length co22] (by rfl) rfl rfl (by (try simp only [List.map_toArray, List.map_cons, List.map_nil]); first | done | rfl | (simp only [List.length_drop, List.length_take]; rfl)) ?_
   with_reducible refine (span_Join.calls k _ _ y1520 t1523 t1524 t1525 _ ?side1 ?side2 A7.out).mono ?_
   (case side1 => repeat (first | exact (Kd.R_reads' HO1522.out).2.2 | (with_reducible refine Kd.C_alloc ?_ _) | (with_reducible refine Kd.C_drewN ?_ _) | (with_reducible refine Kd.C_drew ?_)))
   (case side2 => exact (Kd.R_reads' HO1522.out).2.1)
   rintro e w23 ⟨rfl, hb⟩
   refine ⟨_, rfl, ?_⟩
   replace HO1522 := Aside0.mk (Kd.R_below (zRW HO1522.out) hb)
   replace HO1534 := Aside0.mk (Kd.R_below (zRW HO1534.out) hb)
   refine zcn3 HB BK1517 BK1518 BK1519 hb (c := ?_)
   clear HB BK1517 BK1518 BK1519 hb
   intro BK1517 BK1518 BK1519 HB
   refine hK.out _ _ (zk3 BK1517 (zk3 BK1518 (ze3 BK1519))) (fun hHeld => ?_)
   clear hK K
   refine znA 18 (h := ?_)
   exact norm_ zpu (hJ1_2_7 (.slice Ao22 y1520.length co22, v1533) _ ⟨hHeld, (zRW HO1522.out), (zRW HO1534.out), (zkq BK1517), (zkq BK1518), (zkq BK1519), zaB⟩)
  ·skip
   refine slip_Do.lit 20 a2_0 a2_1 a2_2 ?_
   intro v1527 w22 ho23 hb hg_ hnew_
   clear hg_ hnew_
   (first | rw [← Ny1526.out] at ho23 | (simp only [Int.reduceToNat] at ho23; rw [← Ny1526.out] at ho23))
   have HO1528 := Aside0.mk (Kd.R_lower (Kd.R_newB (Kd.R_newB (Kd.R_newB (Kd.R_new' (Kd.R_new' ho23 (Kd.R_lt (zRW HO1522.out))) (Kd.R_lt (zRW HO1534.out))) (g := gb1517) (o := .cells #[.bool a1_0, .int .u64 a1_1, .int .u64 a1_2] 43 (0, 0)) (zkq BK1517)) (g := gb1518) (o := .cells #[.bool a2_0, .int .u64 a2_1, .int .u64 a2_2] 43 (0, 0)) (zkq BK1518)) (g := gb1519) (o := .cells #[.bool a3_0, .int .u64 a3_1, .int .u64 a3_2] 43 (0, 0)) (zkq BK1519)) (below_size zaB))
   replace HO1522 := Aside0.mk (Kd.R_elder' (zRW HO1522.out) (Kd.R_base ho23) hb)
   replace HO1534 := Aside0.mk (Kd.R_elder' (zRW HO1534.out) (Kd.R_base ho23) hb)
   replace BK1517 := zkb BK1517 hb
   replace BK1518 := zkb BK1518 hb
   replace BK1519 := zkb BK1519 hb
   replace HB := zkB HB hb
   clear hb ho23
   refine hK.out _ _ (zk3 BK1517 (zk3 BK1518 (ze3 BK1519))) (fun hHeld => ?_)
   clear hK K
   refine znA 20 (h := ?_)
   exact norm_ zpu (hJ1_4_7 ((.slice Ao22 y1520.length co22), v1527, v1533) _ ⟨hHeld, (by (with_reducible repeat (first | apply Kd.R_alloc | apply Kd.R_drewN | apply Kd.R_drew)); exact Kd.R_mono HO1522.out (fun _ hk => ⟨hk.2, ⟨hk.1.1, ⟨hk.1.2.1, ⟨hk.1.2.2.1, hk.1.2.2.2⟩⟩⟩⟩)), (by (with_reducible repeat (first | apply Kd.R_alloc | apply Kd.R_drewN | apply Kd.R_drew)); exact Kd.R_mono HO1528.out (fun _ hk => ⟨hk.1.1.1.1.2, ⟨hk.1.1.1.2, ⟨hk.1.1.2, ⟨hk.1.2, hk.2⟩⟩⟩⟩)), (by (with_reducible repeat (first | apply Kd.R_alloc | apply Kd.R_drewN | apply Kd.R_drew)); exact Kd.R_mono HO1534.out (fun _ hk => ⟨hk.1.1, ⟨hk.2, ⟨hk.1.2.1, ⟨hk.1.2.2.1, hk.1.2.2.2⟩⟩⟩⟩)), (zkq BK1517), (zkq BK1518), (zkq BK1519), zaB⟩)
  skip
  refine box_step ?hg (N := 13) ?hd (cs := #[.bool false, .int .u64 0, .int .u64 0, .bool false, .int .u64 0, .int .u64 0, .bool false, .int .u64 0, .int .u64 0, .int .u64 0, .int .u64 0]) (t := 128) ?hr ?_; (case hd => rfl); (case hg => rfl); (case hr => first | (go_simp; done) | (go_simp; rfl))
  intro gb1540 hg w22 hbox hb
  have GW1540 := zkz HB hg
  have NB1517_1540 := zkl BK1517 hg
  have NB1518_1540 := zkl BK1518 hg
  have NB1519_1540 := zkl BK1519 hg
  replace HO1522 := Aside0.mk (Kd.R_below (zRW HO1522.out) hb)
  replace HO1534 := Aside0.mk (Kd.R_below (zRW HO1534.out) hb)
  replace BK1517 := zkb BK1517 hb
  replace BK1518 := zkb BK1518 hb
  replace BK1519 := zkb BK1519 hb
  replace HB := zkB HB hb
  have BK1540 := Aside0.mk (hbox)
  clear hb hbox hg
  refine hK.out _ _ (zk3 BK1517 (zk3 BK1518 (ze3 BK1519))) (fun hHeld => ?_)
  clear hK K
  refine znA 13 (h := ?_)
  exact norm_ zpu (hJ1_7_14 ((.slice Ao22 y1520.length co22), v1533, gb1540) _ ⟨hHeld, (zRW HO1522.out), (zRW HO1534.out), (zkq BK1517), (zkq BK1518), (zkq BK1519), (zkq BK1540), GW1540.out, GW1540.out, NB1517_1540.out, (zks NB1517_1540).out, NB1518_1540.out, (zks NB1518_1540).out, NB1519_1540.out, (zks NB1519_1540).out, zaB⟩)
 intro hJ1_7
 refine join_ (σ := Value × Nat) 9 #[true, true, false, true, false, false, true, false, false, true, false, true, false, false, true, false] (fun s_ => [(17, s_.1), (13, .pointer (some ⟨s_.2, 0, none⟩))]) (fun s_ w' => (slip_Do.HS w' gb1517 gb1518 gb1519 a1_0 a2_0 a3_0 a1_1 a1_2 a2_1 a2_2 a3_1 a3_2) ∧ (Kd.R k43 43 w' w.heap.size (fun k_ => k_ ≠ gb1517 ∧ k_ ≠ gb1518 ∧ k_ ≠ gb1519) s_.1 y1520) ∧ (w'.heap[gb1517]? = some (.cells #[.bool a1_0, .int .u64 a1_1, .int .u64 a1_2] 43 (0, 0))) ∧ (w'.heap[gb1518]? = some (.cells #[.bool a2_0, .int .u64 a2_1, .int .u64 a2_2] 43 (0, 0))) ∧ (w'.heap[gb1519]? = some (.cells #[.bool a3_0, .int .u64 a3_1, .int .u64 a3_2] 43 (0, 0))) ∧ (w'.heap[s_.2]? = some (.cells #[.bool false, .int .u64 0, .int .u64 0, .bool false, .int .u64 0, .int .u64 0, .bool false, .int .u64 0, .int .u64 0, .int .u64 0, .int .u64 0] 128 (0, 0))) ∧ (w.heap.size ≤ s_.2) ∧ (w.heap.size ≤ s_.2) ∧ (gb1517 ≠ s_.2) ∧ (s_.2 ≠ gb1517) ∧ (gb1518 ≠ s_.2) ∧ (s_.2 ≠ gb1518) ∧ (gb1519 ≠ s_.2) ∧ (s_.2 ≠ gb1519) ∧ (Below w.heap.size w w')) ?_ ?_
 ·skip
  rintro ⟨v1521, gb1540⟩ w20 ⟨hHeld, h0_, h1_, h2_, h3_, h4_, h5_, h6_, h7_, h8_, h9_, h10_, h11_, h12_, h13_⟩
  try dsimp only at h0_ h1_ h2_ h3_ h4_ h5_ h6_ h7_ h8_ h9_ h10_ h11_ h12_ h13_
  replace HO1522 := Aside0.mk h0_; replace BK1517 := Aside0.mk h1_; replace BK1518 := Aside0.mk h2_; replace BK1519 := Aside0.mk h3_; replace BK1540 := Aside0.mk h4_; replace GW1540 := Aside0.mk h5_; replace GW1540 := Aside0.mk h6_; replace NB1517_1540 := Aside0.mk h7_; replace NB1540_1517 := Aside0.mk h8_; replace NB1518_1540 := Aside0.mk h9_; replace NB1540_1518 := Aside0.mk h10_; replace NB1519_1540 := Aside0.mk h11_; replace NB1540_1519 := Aside0.mk h12_; replace HB := Aside0.mk h13_; clear h0_ h1_ h2_ h3_ h4_ h5_ h6_ h7_ h8_ h9_ h10_ h11_ h12_ h13_
  obtain ⟨Ao21, co21, eo21⟩ := Kd.R_slice HO1522.out
  (first | subst eo21 | (injection eo21 with f1_ f2_ f3_; have f4_ := f1_.symm; have f5_ := f3_.symm; clear f1_ f2_ f3_; subst f4_; subst f5_))
  refine norm_ (a' := ?_) ?_ ?_
  rotate_left
  ·simp only [putAll, Act.put, List.setIfInBounds_toArray, List.set_cons_zero, List.set_cons_succ]
   rfl
  refine three_ (i := 2) (j := 4) (k := 7) (Ni := some 18) (Nj := some 20) (Nk := some 23) #[true, true, true, true, false, false, true, false, false, true, false, true, false, false, true, false] #[true, true, false, true, true, false, true, false, false, true, false, true, false, false, true, false] #[true, true, false, true, false, false, true, true, false, true, false, true, false, false, true, false] rfl rfl rfl rfl rfl rfl (three_of HT_.out (by kernel_rfl)) (by decide) (by decide) (by decide) (fun K hK => ?_) (fun K hK => ?_) (fun K hK => ?_)
  ·skip
   refine goes_ Try.func45 (by kernel_rfl) rfl #[.slice Ao21 y1520.length co21] (by rfl) rfl rfl (by (try simp only [List.map_toArray, List.map_cons, List.map_nil]); first | done | rfl | (simp only [List.length_drop, List.length_take]; rfl)) ?_
   with_reducible refine (span_Join.calls k _ _ y1520 t1523 t1524 t1525 _ ?side1 ?side2 A7.out).mono ?_
   (case side1 => repeat (first | exact (Kd.R_reads' HO1522.out).2.2 | (with_reducible refine Kd.C_alloc ?_ _) | (with_reducible refine Kd.C_drewN ?_ _) | (with_reducible refine Kd.C_drew ?_)))
   (case side2 => exact (Kd.R_reads' HO1522.out).2.1)
   rintro e w22 ⟨rfl, hb⟩
   refine ⟨_, rfl, ?_⟩
   replace HO1522 := Aside0.mk (Kd.R_below (zRW HO1522.out) hb)
   refine zcn4 HB BK1517 BK1518 BK1519 BK1540 hb (c := ?_)
   clear HB BK1517 BK1518 BK1519 BK1540 hb
   intro BK1517 BK1518 BK1519 BK1540 HB
   refine hK.out _ _ (zk3 BK1517 (zk3 BK1518 (ze3 BK1519))) (fun hHeld => ?_)
   clear hK K
   refine znA 18 (h := ?_)
   exact norm_ zpu (hJ1_2_14 (.slice Ao21 y1520.length co21, gb1540) _ ⟨hHeld, (zRW HO1522.out), (zkq BK1517), (zkq BK1518), (zkq BK1519), (zkq BK1540), GW1540.out, GW1540.out, NB1517_1540.out, (zks NB1517_1540).out, NB1518_1540.out, (zks NB1518_1540).out, NB1519_1540.out, (zks NB1519_1540).out, zaB⟩)
  ·skip
   refine slip_Do.lit 20 a2_0 a2_1 a2_2 ?_
   intro v1527 w21 ho22 hb hg_ hnew_
   clear hg_ hnew_
   (first | rw [← Ny1526.out] at ho22 | (simp only [Int.reduceToNat] at ho22; rw [← Ny1526.out] at ho22))
   have HO1528 := Aside0.mk (Kd.R_lower (Kd.R_newB (Kd.R_newB (Kd.R_newB (Kd.R_new' ho22 (Kd.R_lt (zRW HO1522.out))) (g := gb1517) (o := .cells #[.bool a1_0, .int .u64 a1_1, .int .u64 a1_2] 43 (0, 0)) (zkq BK1517)) (g := gb1518) (o := .cells #[.bool a2_0, .int .u64 a2_1, .int .u64 a2_2] 43 (0, 0)) (zkq BK1518)) (g := gb1519) (o := .cells #[.bool a3_0, .int .u64 a3_1, .int .u64 a3_2] 43 (0, 0)) (zkq BK1519)) (below_size zaB))
   replace HO1522 := Aside0.mk (Kd.R_elder' (zRW HO1522.out) (Kd.R_base ho22) hb)
   replace BK1517 := zkb BK1517 hb
   replace BK1518 := zkb BK1518 hb
   replace BK1519 := zkb BK1519 hb
   replace BK1540 := zkb BK1540 hb
   replace HB := zkB HB hb
   clear hb ho22
   refine hK.out _ _ (zk3 BK1517 (zk3 BK1518 (ze3 BK1519))) (fun hHeld => ?_)
   clear hK K
   refine znA 20 (h := ?_)
   exact norm_ zpu (hJ1_4_14 ((.slice Ao21 y1520.length co21), v1527, gb1540) _ ⟨hHeld, (by (with_reducible repeat (first | apply Kd.R_alloc | apply Kd.R_drewN | apply Kd.R_drew)); exact Kd.R_mono HO1522.out (fun _ hk => ⟨hk.2, ⟨hk.1.1, ⟨hk.1.2.1, hk.1.2.2⟩⟩⟩)), (by (with_reducible repeat (first | apply Kd.R_alloc | apply Kd.R_drewN | apply Kd.R_drew)); exact Kd.R_mono HO1528.out (fun _ hk => ⟨hk.1.1.1.2, ⟨hk.1.1.2, ⟨hk.1.2, hk.2⟩⟩⟩)), (zkq BK1517), (zkq BK1518), (zkq BK1519), (zkq BK1540), GW1540.out, GW1540.out, NB1517_1540.out, (zks NB1517_1540).out, NB1518_1540.out, (zks NB1518_1540).out, NB1519_1540.out, (zks NB1519_1540).out, zaB⟩)
  skip
  refine slip_Do.lit 23 a3_0 a3_1 a3_2 ?_
  intro v1533 w21 ho22 hb hg_ hnew_
  clear hg_ hnew_
  (first | rw [← Ny1532.out] at ho22 | (simp only [Int.reduceToNat] at ho22; rw [← Ny1532.out] at ho22))
  have HO1534 := Aside0.mk (Kd.R_lower (Kd.R_newB (Kd.R_newB (Kd.R_newB (Kd.R_new' ho22 (Kd.R_lt (zRW HO1522.out))) (g := gb1517) (o := .cells #[.bool a1_0, .int .u64 a1_1, .int .u64 a1_2] 43 (0, 0)) (zkq BK1517)) (g := gb1518) (o := .cells #[.bool a2_0, .int .u64 a2_1, .int .u64 a2_2] 43 (0, 0)) (zkq BK1518)) (g := gb1519) (o := .cells #[.bool a3_0, .int .u64 a3_1, .int .u64 a3_2] 43 (0, 0)) (zkq BK1519)) (below_size zaB))
  replace HO1522 := Aside0.mk (Kd.R_elder' (zRW HO1522.out) (Kd.R_base ho22) hb)
  replace BK1517 := zkb BK1517 hb
  replace BK1518 := zkb BK1518 hb
  replace BK1519 := zkb BK1519 hb
  replace BK1540 := zkb BK1540 hb
  replace HB := zkB HB hb
  clear hb ho22
  refine hK.out _ _ (zk3 BK1517 (zk3 BK1518 (ze3 BK1519))) (fun hHeld => ?_)
  clear hK K
  refine znA 23 (h := ?_)
  exact norm_ zpu (hJ1_7_14 ((.slice Ao21 y1520.length co21), v1533, gb1540) _ ⟨hHeld, (by (with_reducible repeat (first | apply Kd.R_alloc | apply Kd.R_drewN | apply Kd.R_drew)); exact Kd.R_mono HO1522.out (fun _ hk => ⟨hk.2, ⟨hk.1.1, ⟨hk.1.2.1, hk.1.2.2⟩⟩⟩)), (by (with_reducible repeat (first | apply Kd.R_alloc | apply Kd.R_drewN | apply Kd.R_drew)); exact Kd.R_mono HO1534.out (fun _ hk => ⟨hk.1.1.1.2, ⟨hk.1.1.2, ⟨hk.1.2, hk.2⟩⟩⟩)), (zkq BK1517), (zkq BK1518), (zkq BK1519), (zkq BK1540), GW1540.out, GW1540.out, NB1517_1540.out, (zks NB1517_1540).out, NB1518_1540.out, (zks NB1518_1540).out, NB1519_1540.out, (zks NB1519_1540).out, zaB⟩)
 intro hJ1_14
 refine join_ (σ := Value × Value) 9 #[true, false, false, true, true, false, true, true, false, true, false, true, false, false, false, false] (fun s_ => [(20, s_.1), (23, s_.2)]) (fun s_ w' => (slip_Do.HS w' gb1517 gb1518 gb1519 a1_0 a2_0 a3_0 a1_1 a1_2 a2_1 a2_2 a3_1 a3_2) ∧ (Kd.R k43 43 w' w.heap.size (fun k_ => some k_ ≠ (s_.2 : Value).ownBlock ∧ k_ ≠ gb1517 ∧ k_ ≠ gb1518 ∧ k_ ≠ gb1519) s_.1 y1526) ∧ (Kd.R k43 43 w' w.heap.size (fun k_ => some k_ ≠ (s_.1 : Value).ownBlock ∧ k_ ≠ gb1517 ∧ k_ ≠ gb1518 ∧ k_ ≠ gb1519) s_.2 y1532) ∧ (w'.heap[gb1517]? = some (.cells #[.bool a1_0, .int .u64 a1_1, .int .u64 a1_2] 43 (0, 0))) ∧ (w'.heap[gb1518]? = some (.cells #[.bool a2_0, .int .u64 a2_1, .int .u64 a2_2] 43 (0, 0))) ∧ (w'.heap[gb1519]? = some (.cells #[.bool a3_0, .int .u64 a3_1, .int .u64 a3_2] 43 (0, 0))) ∧ (Below w.heap.size w w')) ?_ ?_
 ·skip
  rintro ⟨v1527, v1533⟩ w21 ⟨hHeld, h0_, h1_, h2_, h3_, h4_, h5_⟩
  try dsimp only at h0_ h1_ h2_ h3_ h4_ h5_
  replace HO1528 := Aside0.mk h0_; replace HO1534 := Aside0.mk h1_; replace BK1517 := Aside0.mk h2_; replace BK1518 := Aside0.mk h3_; replace BK1519 := Aside0.mk h4_; replace HB := Aside0.mk h5_; clear h0_ h1_ h2_ h3_ h4_ h5_
  refine norm_ (a' := ?_) ?_ ?_
  rotate_left
  ·simp only [putAll, Act.put, List.setIfInBounds_toArray, List.set_cons_zero, List.set_cons_succ]
   rfl
  refine two_ (i := 1) (j := 14) (Ni := some 17) (Nj := some 13) #[true, true, false, true, true, false, true, true, false, true, false, true, false, false, false, false] #[true, false, false, true, true, false, true, true, false, true, false, true, false, false, true, false] rfl rfl rfl rfl (two_of HT_.out (by kernel_rfl)) (by decide) (by decide) (fun K hK => ?_) (fun K hK => ?_)
  ·skip
   refine slip_Do.lit 17 a1_0 a1_1 a1_2 ?_
   intro v1521 w22 ho23 hb hg_ hnew_
   clear hg_ hnew_
   (first | rw [← Ny1520.out] at ho23 | (simp only [Int.reduceToNat] at ho23; rw [← Ny1520.out] at ho23))
   have HO1522 := Aside0.mk (Kd.R_lower (Kd.R_newB (Kd.R_newB (Kd.R_newB (Kd.R_new' (Kd.R_new' ho23 (Kd.R_lt (zRW HO1528.out))) (Kd.R_lt (zRW HO1534.out))) (g := gb1517) (o := .cells #[.bool a1_0, .int .u64 a1_1, .int .u64 a1_2] 43 (0, 0)) (zkq BK1517)) (g := gb1518) (o := .cells #[.bool a2_0, .int .u64 a2_1, .int .u64 a2_2] 43 (0, 0)) (zkq BK1518)) (g := gb1519) (o := .cells #[.bool a3_0, .int .u64 a3_1, .int .u64 a3_2] 43 (0, 0)) (zkq BK1519)) (below_size zaB))
   replace HO1528 := Aside0.mk (Kd.R_elder' (zRW HO1528.out) (Kd.R_base ho23) hb)
   replace HO1534 := Aside0.mk (Kd.R_elder' (zRW HO1534.out) (Kd.R_base ho23) hb)
   replace BK1517 := zkb BK1517 hb
   replace BK1518 := zkb BK1518 hb
   replace BK1519 := zkb BK1519 hb
   replace HB := zkB HB hb
   clear hb ho23
   refine hK.out _ _ (zk3 BK1517 (zk3 BK1518 (ze3 BK1519))) (fun hHeld => ?_)
   clear hK K
   refine znA 17 (h := ?_)
   exact norm_ zpu (hJ1_4_7 (v1521, v1527, v1533) _ ⟨hHeld, (by (with_reducible repeat (first | apply Kd.R_alloc | apply Kd.R_drewN | apply Kd.R_drew)); exact Kd.R_mono HO1522.out (fun _ hk => ⟨hk.1.1.1.1.2, ⟨hk.1.1.1.2, ⟨hk.1.1.2, ⟨hk.1.2, hk.2⟩⟩⟩⟩)), (by (with_reducible repeat (first | apply Kd.R_alloc | apply Kd.R_drewN | apply Kd.R_drew)); exact Kd.R_mono HO1528.out (fun _ hk => ⟨hk.2, ⟨hk.1.1, ⟨hk.1.2.1, ⟨hk.1.2.2.1, hk.1.2.2.2⟩⟩⟩⟩)), (by (with_reducible repeat (first | apply Kd.R_alloc | apply Kd.R_drewN | apply Kd.R_drew)); exact Kd.R_mono HO1534.out (fun _ hk => ⟨hk.2, ⟨hk.1.1, ⟨hk.1.2.1, ⟨hk.1.2.2.1, hk.1.2.2.2⟩⟩⟩⟩)), (zkq BK1517), (zkq BK1518), (zkq BK1519), zaB⟩)
  skip
  refine box_step ?hg (N := 13) ?hd (cs := #[.bool false, .int .u64 0, .int .u64 0, .bool false, .int .u64 0, .int .u64 0, .bool false, .int .u64 0, .int .u64 0, .int .u64 0, .int .u64 0]) (t := 128) ?hr ?_; (case hd => rfl); (case hg => rfl); (case hr => first | (go_simp; done) | (go_simp; rfl))
  intro gb1540 hg w22 hbox hb
  have GW1540 := zkz HB hg
  have NB1517_1540 := zkl BK1517 hg
  have NB1518_1540 := zkl BK1518 hg
  have NB1519_1540 := zkl BK1519 hg
  replace HO1528 := Aside0.mk (Kd.R_below (zRW HO1528.out) hb)
  replace HO1534 := Aside0.mk (Kd.R_below (zRW HO1534.out) hb)
  replace BK1517 := zkb BK1517 hb
  replace BK1518 := zkb BK1518 hb
  replace BK1519 := zkb BK1519 hb
  replace HB := zkB HB hb
  have BK1540 := Aside0.mk (hbox)
  clear hb hbox hg
  refine hK.out _ _ (zk3 BK1517 (zk3 BK1518 (ze3 BK1519))) (fun hHeld => ?_)
  clear hK K
  refine znA 13 (h := ?_)
  exact norm_ zpu (hJ4_7_14 (v1527, v1533, gb1540) _ ⟨hHeld, (zRW HO1528.out), (zRW HO1534.out), (zkq BK1517), (zkq BK1518), (zkq BK1519), (zkq BK1540), GW1540.out, GW1540.out, NB1517_1540.out, (zks NB1517_1540).out, NB1518_1540.out, (zks NB1518_1540).out, NB1519_1540.out, (zks NB1519_1540).out, zaB⟩)
 intro hJ4_7
 refine join_ (σ := Value × Nat) 9 #[true, false, false, true, true, false, true, false, false, true, false, true, false, false, true, false] (fun s_ => [(20, s_.1), (13, .pointer (some ⟨s_.2, 0, none⟩))]) (fun s_ w' => (slip_Do.HS w' gb1517 gb1518 gb1519 a1_0 a2_0 a3_0 a1_1 a1_2 a2_1 a2_2 a3_1 a3_2) ∧ (Kd.R k43 43 w' w.heap.size (fun k_ => k_ ≠ gb1517 ∧ k_ ≠ gb1518 ∧ k_ ≠ gb1519) s_.1 y1526) ∧ (w'.heap[gb1517]? = some (.cells #[.bool a1_0, .int .u64 a1_1, .int .u64 a1_2] 43 (0, 0))) ∧ (w'.heap[gb1518]? = some (.cells #[.bool a2_0, .int .u64 a2_1, .int .u64 a2_2] 43 (0, 0))) ∧ (w'.heap[gb1519]? = some (.cells #[.bool a3_0, .int .u64 a3_1, .int .u64 a3_2] 43 (0, 0))) ∧ (w'.heap[s_.2]? = some (.cells #[.bool false, .int .u64 0, .int .u64 0, .bool false, .int .u64 0, .int .u64 0, .bool false, .int .u64 0, .int .u64 0, .int .u64 0, .int .u64 0] 128 (0, 0))) ∧ (w.heap.size ≤ s_.2) ∧ (w.heap.size ≤ s_.2) ∧ (gb1517 ≠ s_.2) ∧ (s_.2 ≠ gb1517) ∧ (gb1518 ≠ s_.2) ∧ (s_.2 ≠ gb1518) ∧ (gb1519 ≠ s_.2) ∧ (s_.2 ≠ gb1519) ∧ (Below w.heap.size w w')) ?_ ?_
 ·skip
  rintro ⟨v1527, gb1540⟩ w20 ⟨hHeld, h0_, h1_, h2_, h3_, h4_, h5_, h6_, h7_, h8_, h9_, h10_, h11_, h12_, h13_⟩
  try dsimp only at h0_ h1_ h2_ h3_ h4_ h5_ h6_ h7_ h8_ h9_ h10_ h11_ h12_ h13_
  replace HO1528 := Aside0.mk h0_; replace BK1517 := Aside0.mk h1_; replace BK1518 := Aside0.mk h2_; replace BK1519 := Aside0.mk h3_; replace BK1540 := Aside0.mk h4_; replace GW1540 := Aside0.mk h5_; replace GW1540 := Aside0.mk h6_; replace NB1517_1540 := Aside0.mk h7_; replace NB1540_1517 := Aside0.mk h8_; replace NB1518_1540 := Aside0.mk h9_; replace NB1540_1518 := Aside0.mk h10_; replace NB1519_1540 := Aside0.mk h11_; replace NB1540_1519 := Aside0.mk h12_; replace HB := Aside0.mk h13_; clear h0_ h1_ h2_ h3_ h4_ h5_ h6_ h7_ h8_ h9_ h10_ h11_ h12_ h13_
  refine norm_ (a' := ?_) ?_ ?_
  rotate_left
  ·simp only [putAll, Act.put, List.setIfInBounds_toArray, List.set_cons_zero, List.set_cons_succ]
   rfl
  refine two_ (i := 1) (j := 7) (Ni := some 17) (Nj := some 23) #[true, true, false, true, true, false, true, false, false, true, false, true, false, false, true, false] #[true, false, false, true, true, false, true, true, false, true, false, true, false, false, true, false] rfl rfl rfl rfl (two_of HT_.out (by kernel_rfl)) (by decide) (by decide) (fun K hK => ?_) (fun K hK => ?_)
  ·skip
   refine slip_Do.lit 17 a1_0 a1_1 a1_2 ?_
   intro v1521 w21 ho22 hb hg_ hnew_
   clear hg_ hnew_
   (first | rw [← Ny1520.out] at ho22 | (simp only [Int.reduceToNat] at ho22; rw [← Ny1520.out] at ho22))
   have HO1522 := Aside0.mk (Kd.R_lower (Kd.R_newB (Kd.R_newB (Kd.R_newB (Kd.R_new' ho22 (Kd.R_lt (zRW HO1528.out))) (g := gb1517) (o := .cells #[.bool a1_0, .int .u64 a1_1, .int .u64 a1_2] 43 (0, 0)) (zkq BK1517)) (g := gb1518) (o := .cells #[.bool a2_0, .int .u64 a2_1, .int .u64 a2_2] 43 (0, 0)) (zkq BK1518)) (g := gb1519) (o := .cells #[.bool a3_0, .int .u64 a3_1, .int .u64 a3_2] 43 (0, 0)) (zkq BK1519)) (below_size zaB))
   replace HO1528 := Aside0.mk (Kd.R_elder' (zRW HO1528.out) (Kd.R_base ho22) hb)
   replace BK1517 := zkb BK1517 hb
   replace BK1518 := zkb BK1518 hb
   replace BK1519 := zkb BK1519 hb
   replace BK1540 := zkb BK1540 hb
   replace HB := zkB HB hb
   clear hb ho22
   refine hK.out _ _ (zk3 BK1517 (zk3 BK1518 (ze3 BK1519))) (fun hHeld => ?_)
   clear hK K
   refine znA 17 (h := ?_)
   exact norm_ zpu (hJ1_4_14 (v1521, v1527, gb1540) _ ⟨hHeld, (by (with_reducible repeat (first | apply Kd.R_alloc | apply Kd.R_drewN | apply Kd.R_drew)); exact Kd.R_mono HO1522.out (fun _ hk => ⟨hk.1.1.1.2, ⟨hk.1.1.2, ⟨hk.1.2, hk.2⟩⟩⟩)), (by (with_reducible repeat (first | apply Kd.R_alloc | apply Kd.R_drewN | apply Kd.R_drew)); exact Kd.R_mono HO1528.out (fun _ hk => ⟨hk.2, ⟨hk.1.1, ⟨hk.1.2.1, hk.1.2.2⟩⟩⟩)), (zkq BK1517), (zkq BK1518), (zkq BK1519), (zkq BK1540), GW1540.out, GW1540.out, NB1517_1540.out, (zks NB1517_1540).out, NB1518_1540.out, (zks NB1518_1540).out, NB1519_1540.out, (zks NB1519_1540).out, zaB⟩)
  skip
  refine slip_Do.lit 23 a3_0 a3_1 a3_2 ?_
  intro v1533 w21 ho22 hb hg_ hnew_
  clear hg_ hnew_
  (first | rw [← Ny1532.out] at ho22 | (simp only [Int.reduceToNat] at ho22; rw [← Ny1532.out] at ho22))
  have HO1534 := Aside0.mk (Kd.R_lower (Kd.R_newB (Kd.R_newB (Kd.R_newB (Kd.R_new' ho22 (Kd.R_lt (zRW HO1528.out))) (g := gb1517) (o := .cells #[.bool a1_0, .int .u64 a1_1, .int .u64 a1_2] 43 (0, 0)) (zkq BK1517)) (g := gb1518) (o := .cells #[.bool a2_0, .int .u64 a2_1, .int .u64 a2_2] 43 (0, 0)) (zkq BK1518)) (g := gb1519) (o := .cells #[.bool a3_0, .int .u64 a3_1, .int .u64 a3_2] 43 (0, 0)) (zkq BK1519)) (below_size zaB))
  replace HO1528 := Aside0.mk (Kd.R_elder' (zRW HO1528.out) (Kd.R_base ho22) hb)
  replace BK1517 := zkb BK1517 hb
  replace BK1518 := zkb BK1518 hb
  replace BK1519 := zkb BK1519 hb
  replace BK1540 := zkb BK1540 hb
  replace HB := zkB HB hb
  clear hb ho22
  refine hK.out _ _ (zk3 BK1517 (zk3 BK1518 (ze3 BK1519))) (fun hHeld => ?_)
  clear hK K
  refine znA 23 (h := ?_)
  exact norm_ zpu (hJ4_7_14 (v1527, v1533, gb1540) _ ⟨hHeld, (by (with_reducible repeat (first | apply Kd.R_alloc | apply Kd.R_drewN | apply Kd.R_drew)); exact Kd.R_mono HO1528.out (fun _ hk => ⟨hk.2, ⟨hk.1.1, ⟨hk.1.2.1, hk.1.2.2⟩⟩⟩)), (by (with_reducible repeat (first | apply Kd.R_alloc | apply Kd.R_drewN | apply Kd.R_drew)); exact Kd.R_mono HO1534.out (fun _ hk => ⟨hk.1.1.1.2, ⟨hk.1.1.2, ⟨hk.1.2, hk.2⟩⟩⟩)), (zkq BK1517), (zkq BK1518), (zkq BK1519), (zkq BK1540), GW1540.out, GW1540.out, NB1517_1540.out, (zks NB1517_1540).out, NB1518_1540.out, (zks NB1518_1540).out, NB1519_1540.out, (zks NB1519_1540).out, zaB⟩)
 intro hJ4_14
 refine join_ (σ := Value × Nat) 9 #[true, false, false, true, false, false, true, true, false, true, false, true, false, false, true, false] (fun s_ => [(23, s_.1), (13, .pointer (some ⟨s_.2, 0, none⟩))]) (fun s_ w' => (slip_Do.HS w' gb1517 gb1518 gb1519 a1_0 a2_0 a3_0 a1_1 a1_2 a2_1 a2_2 a3_1 a3_2) ∧ (Kd.R k43 43 w' w.heap.size (fun k_ => k_ ≠ gb1517 ∧ k_ ≠ gb1518 ∧ k_ ≠ gb1519) s_.1 y1532) ∧ (w'.heap[gb1517]? = some (.cells #[.bool a1_0, .int .u64 a1_1, .int .u64 a1_2] 43 (0, 0))) ∧ (w'.heap[gb1518]? = some (.cells #[.bool a2_0, .int .u64 a2_1, .int .u64 a2_2] 43 (0, 0))) ∧ (w'.heap[gb1519]? = some (.cells #[.bool a3_0, .int .u64 a3_1, .int .u64 a3_2] 43 (0, 0))) ∧ (w'.heap[s_.2]? = some (.cells #[.bool false, .int .u64 0, .int .u64 0, .bool false, .int .u64 0, .int .u64 0, .bool false, .int .u64 0, .int .u64 0, .int .u64 0, .int .u64 0] 128 (0, 0))) ∧ (w.heap.size ≤ s_.2) ∧ (w.heap.size ≤ s_.2) ∧ (gb1517 ≠ s_.2) ∧ (s_.2 ≠ gb1517) ∧ (gb1518 ≠ s_.2) ∧ (s_.2 ≠ gb1518) ∧ (gb1519 ≠ s_.2) ∧ (s_.2 ≠ gb1519) ∧ (Below w.heap.size w w')) ?_ ?_
 ·skip
  rintro ⟨v1533, gb1540⟩ w20 ⟨hHeld, h0_, h1_, h2_, h3_, h4_, h5_, h6_, h7_, h8_, h9_, h10_, h11_, h12_, h13_⟩
  try dsimp only at h0_ h1_ h2_ h3_ h4_ h5_ h6_ h7_ h8_ h9_ h10_ h11_ h12_ h13_
  replace HO1534 := Aside0.mk h0_; replace BK1517 := Aside0.mk h1_; replace BK1518 := Aside0.mk h2_; replace BK1519 := Aside0.mk h3_; replace BK1540 := Aside0.mk h4_; replace GW1540 := Aside0.mk h5_; replace GW1540 := Aside0.mk h6_; replace NB1517_1540 := Aside0.mk h7_; replace NB1540_1517 := Aside0.mk h8_; replace NB1518_1540 := Aside0.mk h9_; replace NB1540_1518 := Aside0.mk h10_; replace NB1519_1540 := Aside0.mk h11_; replace NB1540_1519 := Aside0.mk h12_; replace HB := Aside0.mk h13_; clear h0_ h1_ h2_ h3_ h4_ h5_ h6_ h7_ h8_ h9_ h10_ h11_ h12_ h13_
  refine norm_ (a' := ?_) ?_ ?_
  rotate_left
  ·simp only [putAll, Act.put, List.setIfInBounds_toArray, List.set_cons_zero, List.set_cons_succ]
   rfl
  refine two_ (i := 1) (j := 4) (Ni := some 17) (Nj := some 20) #[true, true, false, true, false, false, true, true, false, true, false, true, false, false, true, false] #[true, false, false, true, true, false, true, true, false, true, false, true, false, false, true, false] rfl rfl rfl rfl (two_of HT_.out (by kernel_rfl)) (by decide) (by decide) (fun K hK => ?_) (fun K hK => ?_)
  ·skip
   refine slip_Do.lit 17 a1_0 a1_1 a1_2 ?_
   intro v1521 w21 ho22 hb hg_ hnew_
   clear hg_ hnew_
   (first | rw [← Ny1520.out] at ho22 | (simp only [Int.reduceToNat] at ho22; rw [← Ny1520.out] at ho22))
   have HO1522 := Aside0.mk (Kd.R_lower (Kd.R_newB (Kd.R_newB (Kd.R_newB (Kd.R_new' ho22 (Kd.R_lt (zRW HO1534.out))) (g := gb1517) (o := .cells #[.bool a1_0, .int .u64 a1_1, .int .u64 a1_2] 43 (0, 0)) (zkq BK1517)) (g := gb1518) (o := .cells #[.bool a2_0, .int .u64 a2_1, .int .u64 a2_2] 43 (0, 0)) (zkq BK1518)) (g := gb1519) (o := .cells #[.bool a3_0, .int .u64 a3_1, .int .u64 a3_2] 43 (0, 0)) (zkq BK1519)) (below_size zaB))
   replace HO1534 := Aside0.mk (Kd.R_elder' (zRW HO1534.out) (Kd.R_base ho22) hb)
   replace BK1517 := zkb BK1517 hb
   replace BK1518 := zkb BK1518 hb
   replace BK1519 := zkb BK1519 hb
   replace BK1540 := zkb BK1540 hb
   replace HB := zkB HB hb
   clear hb ho22
   refine hK.out _ _ (zk3 BK1517 (zk3 BK1518 (ze3 BK1519))) (fun hHeld => ?_)
   clear hK K
   refine znA 17 (h := ?_)
   exact norm_ zpu (hJ1_7_14 (v1521, v1533, gb1540) _ ⟨hHeld, (by (with_reducible repeat (first | apply Kd.R_alloc | apply Kd.R_drewN | apply Kd.R_drew)); exact Kd.R_mono HO1522.out (fun _ hk => ⟨hk.1.1.1.2, ⟨hk.1.1.2, ⟨hk.1.2, hk.2⟩⟩⟩)), (by (with_reducible repeat (first | apply Kd.R_alloc | apply Kd.R_drewN | apply Kd.R_drew)); exact Kd.R_mono HO1534.out (fun _ hk => ⟨hk.2, ⟨hk.1.1, ⟨hk.1.2.1, hk.1.2.2⟩⟩⟩)), (zkq BK1517), (zkq BK1518), (zkq BK1519), (zkq BK1540), GW1540.out, GW1540.out, NB1517_1540.out, (zks NB1517_1540).out, NB1518_1540.out, (zks NB1518_1540).out, NB1519_1540.out, (zks NB1519_1540).out, zaB⟩)
  skip
  refine slip_Do.lit 20 a2_0 a2_1 a2_2 ?_
  intro v1527 w21 ho22 hb hg_ hnew_
  clear hg_ hnew_
  (first | rw [← Ny1526.out] at ho22 | (simp only [Int.reduceToNat] at ho22; rw [← Ny1526.out] at ho22))
  have HO1528 := Aside0.mk (Kd.R_lower (Kd.R_newB (Kd.R_newB (Kd.R_newB (Kd.R_new' ho22 (Kd.R_lt (zRW HO1534.out))) (g := gb1517) (o := .cells #[.bool a1_0, .int .u64 a1_1, .int .u64 a1_2] 43 (0, 0)) (zkq BK1517)) (g := gb1518) (o := .cells #[.bool a2_0, .int .u64 a2_1, .int .u64 a2_2] 43 (0, 0)) (zkq BK1518)) (g := gb1519) (o := .cells #[.bool a3_0, .int .u64 a3_1, .int .u64 a3_2] 43 (0, 0)) (zkq BK1519)) (below_size zaB))
  replace HO1534 := Aside0.mk (Kd.R_elder' (zRW HO1534.out) (Kd.R_base ho22) hb)
  replace BK1517 := zkb BK1517 hb
  replace BK1518 := zkb BK1518 hb
  replace BK1519 := zkb BK1519 hb
  replace BK1540 := zkb BK1540 hb
  replace HB := zkB HB hb
  clear hb ho22
  refine hK.out _ _ (zk3 BK1517 (zk3 BK1518 (ze3 BK1519))) (fun hHeld => ?_)
  clear hK K
  refine znA 20 (h := ?_)
  exact norm_ zpu (hJ4_7_14 (v1527, v1533, gb1540) _ ⟨hHeld, (by (with_reducible repeat (first | apply Kd.R_alloc | apply Kd.R_drewN | apply Kd.R_drew)); exact Kd.R_mono HO1528.out (fun _ hk => ⟨hk.1.1.1.2, ⟨hk.1.1.2, ⟨hk.1.2, hk.2⟩⟩⟩)), (by (with_reducible repeat (first | apply Kd.R_alloc | apply Kd.R_drewN | apply Kd.R_drew)); exact Kd.R_mono HO1534.out (fun _ hk => ⟨hk.2, ⟨hk.1.1, ⟨hk.1.2.1, hk.1.2.2⟩⟩⟩)), (zkq BK1517), (zkq BK1518), (zkq BK1519), (zkq BK1540), GW1540.out, GW1540.out, NB1517_1540.out, (zks NB1517_1540).out, NB1518_1540.out, (zks NB1518_1540).out, NB1519_1540.out, (zks NB1519_1540).out, zaB⟩)
 intro hJ7_14
 refine join_ (σ := Value) 10 #[true, true, false, true, false, false, true, false, false, true, false, true, false, false, false, false] (fun s_ => [(17, s_)]) (fun s_ w' => (slip_Do.HS w' gb1517 gb1518 gb1519 a1_0 a2_0 a3_0 a1_1 a1_2 a2_1 a2_2 a3_1 a3_2) ∧ (Kd.R k43 43 w' w.heap.size (fun k_ => k_ ≠ gb1517 ∧ k_ ≠ gb1518 ∧ k_ ≠ gb1519) s_ y1520) ∧ (w'.heap[gb1517]? = some (.cells #[.bool a1_0, .int .u64 a1_1, .int .u64 a1_2] 43 (0, 0))) ∧ (w'.heap[gb1518]? = some (.cells #[.bool a2_0, .int .u64 a2_1, .int .u64 a2_2] 43 (0, 0))) ∧ (w'.heap[gb1519]? = some (.cells #[.bool a3_0, .int .u64 a3_1, .int .u64 a3_2] 43 (0, 0))) ∧ (Below w.heap.size w w')) ?_ ?_
 ·skip
  rintro v1521 w19 ⟨hHeld, h0_, h1_, h2_, h3_, h4_⟩
  replace HO1522 := Aside0.mk h0_; replace BK1517 := Aside0.mk h1_; replace BK1518 := Aside0.mk h2_; replace BK1519 := Aside0.mk h3_; replace HB := Aside0.mk h4_; clear h0_ h1_ h2_ h3_ h4_
  obtain ⟨Ao20, co20, eo20⟩ := Kd.R_slice HO1522.out
  (first | subst eo20 | (injection eo20 with f1_ f2_ f3_; have f4_ := f1_.symm; have f5_ := f3_.symm; clear f1_ f2_ f3_; subst f4_; subst f5_))
  refine norm_ (a' := ?_) ?_ ?_
  rotate_left
  ·simp only [putAll, Act.put, List.setIfInBounds_toArray, List.set_cons_zero, List.set_cons_succ]
   rfl
  refine four_ (i := 2) (j := 4) (k := 7) (m := 14) (Ni := some 18) (Nj := some 20) (Nk := some 23) (Nm := some 13) #[true, true, true, true, false, false, true, false, false, true, false, true, false, false, false, false] #[true, true, false, true, true, false, true, false, false, true, false, true, false, false, false, false] #[true, true, false, true, false, false, true, true, false, true, false, true, false, false, false, false] #[true, true, false, true, false, false, true, false, false, true, false, true, false, false, true, false] rfl rfl rfl rfl rfl rfl rfl rfl (four_of HT_.out (by kernel_rfl)) (by decide) (by decide) (by decide) (by decide) (fun K hK => ?_) (fun K hK => ?_) (fun K hK => ?_) (fun K hK => ?_)
  ·skip
   refine goes_ Try.func45 (by kernel_rfl) rfl #[.slice Ao20 y1520.length co20] (by rfl) rfl rfl (by (try simp only [List.map_toArray, List.map_cons, List.map_nil]); first | done | rfl | (simp only [List.length_drop, List.length_take]; rfl)) ?_
   with_reducible refine (span_Join.calls k _ _ y1520 t1523 t1524 t1525 _ ?side1 ?side2 A7.out).mono ?_
   (case side1 => repeat (first | exact (Kd.R_reads' HO1522.out).2.2 | (with_reducible refine Kd.C_alloc ?_ _) | (with_reducible refine Kd.C_drewN ?_ _) | (with_reducible refine Kd.C_drew ?_)))
   (case side2 => exact (Kd.R_reads' HO1522.out).2.1)
   rintro e w21 ⟨rfl, hb⟩
   refine ⟨_, rfl, ?_⟩
   replace HO1522 := Aside0.mk (Kd.R_below (zRW HO1522.out) hb)
   refine zcn3 HB BK1517 BK1518 BK1519 hb (c := ?_)
   clear HB BK1517 BK1518 BK1519 hb
   intro BK1517 BK1518 BK1519 HB
   refine hK.out _ _ (zk3 BK1517 (zk3 BK1518 (ze3 BK1519))) (fun hHeld => ?_)
   clear hK K
   refine znA 18 (h := ?_)
   exact norm_ zpu (hJ1_2 (.slice Ao20 y1520.length co20) _ ⟨hHeld, (zRW HO1522.out), (zkq BK1517), (zkq BK1518), (zkq BK1519), zaB⟩)
  ·skip
   refine slip_Do.lit 20 a2_0 a2_1 a2_2 ?_
   intro v1527 w20 ho21 hb hg_ hnew_
   clear hg_ hnew_
   (first | rw [← Ny1526.out] at ho21 | (simp only [Int.reduceToNat] at ho21; rw [← Ny1526.out] at ho21))
   have HO1528 := Aside0.mk (Kd.R_lower (Kd.R_newB (Kd.R_newB (Kd.R_newB (Kd.R_new' ho21 (Kd.R_lt (zRW HO1522.out))) (g := gb1517) (o := .cells #[.bool a1_0, .int .u64 a1_1, .int .u64 a1_2] 43 (0, 0)) (zkq BK1517)) (g := gb1518) (o := .cells #[.bool a2_0, .int .u64 a2_1, .int .u64 a2_2] 43 (0, 0)) (zkq BK1518)) (g := gb1519) (o := .cells #[.bool a3_0, .int .u64 a3_1, .int .u64 a3_2] 43 (0, 0)) (zkq BK1519)) (below_size zaB))
   replace HO1522 := Aside0.mk (Kd.R_elder' (zRW HO1522.out) (Kd.R_base ho21) hb)
   replace BK1517 := zkb BK1517 hb
   replace BK1518 := zkb BK1518 hb
   replace BK1519 := zkb BK1519 hb
   replace HB := zkB HB hb
   clear hb ho21
   refine hK.out _ _ (zk3 BK1517 (zk3 BK1518 (ze3 BK1519))) (fun hHeld => ?_)
   clear hK K
   refine znA 20 (h := ?_)
   exact norm_ zpu (hJ1_4 ((.slice Ao20 y1520.length co20), v1527) _ ⟨hHeld, (by (with_reducible repeat (first | apply Kd.R_alloc | apply Kd.R_drewN | apply Kd.R_drew)); exact Kd.R_mono HO1522.out (fun _ hk => ⟨hk.2, ⟨hk.1.1, ⟨hk.1.2.1, hk.1.2.2⟩⟩⟩)), (by (with_reducible repeat (first | apply Kd.R_alloc | apply Kd.R_drewN | apply Kd.R_drew)); exact Kd.R_mono HO1528.out (fun _ hk => ⟨hk.1.1.1.2, ⟨hk.1.1.2, ⟨hk.1.2, hk.2⟩⟩⟩)), (zkq BK1517), (zkq BK1518), (zkq BK1519), zaB⟩)
  ·skip
   refine slip_Do.lit 23 a3_0 a3_1 a3_2 ?_
   intro v1533 w20 ho21 hb hg_ hnew_
   clear hg_ hnew_
   (first | rw [← Ny1532.out] at ho21 | (simp only [Int.reduceToNat] at ho21; rw [← Ny1532.out] at ho21))
   have HO1534 := Aside0.mk (Kd.R_lower (Kd.R_newB (Kd.R_newB (Kd.R_newB (Kd.R_new' ho21 (Kd.R_lt (zRW HO1522.out))) (g := gb1517) (o := .cells #[.bool a1_0, .int .u64 a1_1, .int .u64 a1_2] 43 (0, 0)) (zkq BK1517)) (g := gb1518) (o := .cells #[.bool a2_0, .int .u64 a2_1, .int .u64 a2_2] 43 (0, 0)) (zkq BK1518)) (g := gb1519) (o := .cells #[.bool a3_0, .int .u64 a3_1, .int .u64 a3_2] 43 (0, 0)) (zkq BK1519)) (below_size zaB))
   replace HO1522 := Aside0.mk (Kd.R_elder' (zRW HO1522.out) (Kd.R_base ho21) hb)
   replace BK1517 := zkb BK1517 hb
   replace BK1518 := zkb BK1518 hb
   replace BK1519 := zkb BK1519 hb
   replace HB := zkB HB hb
   clear hb ho21
   refine hK.out _ _ (zk3 BK1517 (zk3 BK1518 (ze3 BK1519))) (fun hHeld => ?_)
   clear hK K
   refine znA 23 (h := ?_)
   exact norm_ zpu (hJ1_7 ((.slice Ao20 y1520.length co20), v1533) _ ⟨hHeld, (by (with_reducible repeat (first | apply Kd.R_alloc | apply Kd.R_drewN | apply Kd.R_drew)); exact Kd.R_mono HO1522.out (fun _ hk => ⟨hk.2, ⟨hk.1.1, ⟨hk.1.2.1, hk.1.2.2⟩⟩⟩)), (by (with_reducible repeat (first | apply Kd.R_alloc | apply Kd.R_drewN | apply Kd.R_drew)); exact Kd.R_mono HO1534.out (fun _ hk => ⟨hk.1.1.1.2, ⟨hk.1.1.2, ⟨hk.1.2, hk.2⟩⟩⟩)), (zkq BK1517), (zkq BK1518), (zkq BK1519), zaB⟩)
  skip
  refine box_step ?hg (N := 13) ?hd (cs := #[.bool false, .int .u64 0, .int .u64 0, .bool false, .int .u64 0, .int .u64 0, .bool false, .int .u64 0, .int .u64 0, .int .u64 0, .int .u64 0]) (t := 128) ?hr ?_; (case hd => rfl); (case hg => rfl); (case hr => first | (go_simp; done) | (go_simp; rfl))
  intro gb1540 hg w20 hbox hb
  have GW1540 := zkz HB hg
  have NB1517_1540 := zkl BK1517 hg
  have NB1518_1540 := zkl BK1518 hg
  have NB1519_1540 := zkl BK1519 hg
  replace HO1522 := Aside0.mk (Kd.R_below (zRW HO1522.out) hb)
  replace BK1517 := zkb BK1517 hb
  replace BK1518 := zkb BK1518 hb
  replace BK1519 := zkb BK1519 hb
  replace HB := zkB HB hb
  have BK1540 := Aside0.mk (hbox)
  clear hb hbox hg
  refine hK.out _ _ (zk3 BK1517 (zk3 BK1518 (ze3 BK1519))) (fun hHeld => ?_)
  clear hK K
  refine znA 13 (h := ?_)
  exact norm_ zpu (hJ1_14 ((.slice Ao20 y1520.length co20), gb1540) _ ⟨hHeld, (zRW HO1522.out), (zkq BK1517), (zkq BK1518), (zkq BK1519), (zkq BK1540), GW1540.out, GW1540.out, NB1517_1540.out, (zks NB1517_1540).out, NB1518_1540.out, (zks NB1518_1540).out, NB1519_1540.out, (zks NB1519_1540).out, zaB⟩)
 intro hJ1
 refine join_ (σ := Value) 10 #[true, false, false, true, true, false, true, false, false, true, false, true, false, false, false, false] (fun s_ => [(20, s_)]) (fun s_ w' => (slip_Do.HS w' gb1517 gb1518 gb1519 a1_0 a2_0 a3_0 a1_1 a1_2 a2_1 a2_2 a3_1 a3_2) ∧ (Kd.R k43 43 w' w.heap.size (fun k_ => k_ ≠ gb1517 ∧ k_ ≠ gb1518 ∧ k_ ≠ gb1519) s_ y1526) ∧ (w'.heap[gb1517]? = some (.cells #[.bool a1_0, .int .u64 a1_1, .int .u64 a1_2] 43 (0, 0))) ∧ (w'.heap[gb1518]? = some (.cells #[.bool a2_0, .int .u64 a2_1, .int .u64 a2_2] 43 (0, 0))) ∧ (w'.heap[gb1519]? = some (.cells #[.bool a3_0, .int .u64 a3_1, .int .u64 a3_2] 43 (0, 0))) ∧ (Below w.heap.size w w')) ?_ ?_
 ·skip
  rintro v1527 w19 ⟨hHeld, h0_, h1_, h2_, h3_, h4_⟩
  replace HO1528 := Aside0.mk h0_; replace BK1517 := Aside0.mk h1_; replace BK1518 := Aside0.mk h2_; replace BK1519 := Aside0.mk h3_; replace HB := Aside0.mk h4_; clear h0_ h1_ h2_ h3_ h4_
  refine norm_ (a' := ?_) ?_ ?_
  rotate_left
  ·simp only [putAll, Act.put, List.setIfInBounds_toArray, List.set_cons_zero, List.set_cons_succ]
   rfl
  refine three_ (i := 1) (j := 7) (k := 14) (Ni := some 17) (Nj := some 23) (Nk := some 13) #[true, true, false, true, true, false, true, false, false, true, false, true, false, false, false, false] #[true, false, false, true, true, false, true, true, false, true, false, true, false, false, false, false] #[true, false, false, true, true, false, true, false, false, true, false, true, false, false, true, false] rfl rfl rfl rfl rfl rfl (three_of HT_.out (by kernel_rfl)) (by decide) (by decide) (by decide) (fun K hK => ?_) (fun K hK => ?_) (fun K hK => ?_)
  ·skip
   refine slip_Do.lit 17 a1_0 a1_1 a1_2 ?_
   intro v1521 w20 ho21 hb hg_ hnew_
   clear hg_ hnew_
   (first | rw [← Ny1520.out] at ho21 | (simp only [Int.reduceToNat] at ho21; rw [← Ny1520.out] at ho21))
   have HO1522 := Aside0.mk (Kd.R_lower (Kd.R_newB (Kd.R_newB (Kd.R_newB (Kd.R_new' ho21 (Kd.R_lt (zRW HO1528.out))) (g := gb1517) (o := .cells #[.bool a1_0, .int .u64 a1_1, .int .u64 a1_2] 43 (0, 0)) (zkq BK1517)) (g := gb1518) (o := .cells #[.bool a2_0, .int .u64 a2_1, .int .u64 a2_2] 43 (0, 0)) (zkq BK1518)) (g := gb1519) (o := .cells #[.bool a3_0, .int .u64 a3_1, .int .u64 a3_2] 43 (0, 0)) (zkq BK1519)) (below_size zaB))
   replace HO1528 := Aside0.mk (Kd.R_elder' (zRW HO1528.out) (Kd.R_base ho21) hb)
   replace BK1517 := zkb BK1517 hb
   replace BK1518 := zkb BK1518 hb
   replace BK1519 := zkb BK1519 hb
   replace HB := zkB HB hb
   clear hb ho21
   refine hK.out _ _ (zk3 BK1517 (zk3 BK1518 (ze3 BK1519))) (fun hHeld => ?_)
   clear hK K
   refine znA 17 (h := ?_)
   exact norm_ zpu (hJ1_4 (v1521, v1527) _ ⟨hHeld, (by (with_reducible repeat (first | apply Kd.R_alloc | apply Kd.R_drewN | apply Kd.R_drew)); exact Kd.R_mono HO1522.out (fun _ hk => ⟨hk.1.1.1.2, ⟨hk.1.1.2, ⟨hk.1.2, hk.2⟩⟩⟩)), (by (with_reducible repeat (first | apply Kd.R_alloc | apply Kd.R_drewN | apply Kd.R_drew)); exact Kd.R_mono HO1528.out (fun _ hk => ⟨hk.2, ⟨hk.1.1, ⟨hk.1.2.1, hk.1.2.2⟩⟩⟩)), (zkq BK1517), (zkq BK1518), (zkq BK1519), zaB⟩)
  ·skip
   refine slip_Do.lit 23 a3_0 a3_1 a3_2 ?_
   intro v1533 w20 ho21 hb hg_ hnew_
   clear hg_ hnew_
   (first | rw [← Ny1532.out] at ho21 | (simp only [Int.reduceToNat] at ho21; rw [← Ny1532.out] at ho21))
   have HO1534 := Aside0.mk (Kd.R_lower (Kd.R_newB (Kd.R_newB (Kd.R_newB (Kd.R_new' ho21 (Kd.R_lt (zRW HO1528.out))) (g := gb1517) (o := .cells #[.bool a1_0, .int .u64 a1_1, .int .u64 a1_2] 43 (0, 0)) (zkq BK1517)) (g := gb1518) (o := .cells #[.bool a2_0, .int .u64 a2_1, .int .u64 a2_2] 43 (0, 0)) (zkq BK1518)) (g := gb1519) (o := .cells #[.bool a3_0, .int .u64 a3_1, .int .u64 a3_2] 43 (0, 0)) (zkq BK1519)) (below_size zaB))
   replace HO1528 := Aside0.mk (Kd.R_elder' (zRW HO1528.out) (Kd.R_base ho21) hb)
   replace BK1517 := zkb BK1517 hb
   replace BK1518 := zkb BK1518 hb
   replace BK1519 := zkb BK1519 hb
   replace HB := zkB HB hb
   clear hb ho21
   refine hK.out _ _ (zk3 BK1517 (zk3 BK1518 (ze3 BK1519))) (fun hHeld => ?_)
   clear hK K
   refine znA 23 (h := ?_)
   exact norm_ zpu (hJ4_7 (v1527, v1533) _ ⟨hHeld, (by (with_reducible repeat (first | apply Kd.R_alloc | apply Kd.R_drewN | apply Kd.R_drew)); exact Kd.R_mono HO1528.out (fun _ hk => ⟨hk.2, ⟨hk.1.1, ⟨hk.1.2.1, hk.1.2.2⟩⟩⟩)), (by (with_reducible repeat (first | apply Kd.R_alloc | apply Kd.R_drewN | apply Kd.R_drew)); exact Kd.R_mono HO1534.out (fun _ hk => ⟨hk.1.1.1.2, ⟨hk.1.1.2, ⟨hk.1.2, hk.2⟩⟩⟩)), (zkq BK1517), (zkq BK1518), (zkq BK1519), zaB⟩)
  skip
  refine box_step ?hg (N := 13) ?hd (cs := #[.bool false, .int .u64 0, .int .u64 0, .bool false, .int .u64 0, .int .u64 0, .bool false, .int .u64 0, .int .u64 0, .int .u64 0, .int .u64 0]) (t := 128) ?hr ?_; (case hd => rfl); (case hg => rfl); (case hr => first | (go_simp; done) | (go_simp; rfl))
  intro gb1540 hg w20 hbox hb
  have GW1540 := zkz HB hg
  have NB1517_1540 := zkl BK1517 hg
  have NB1518_1540 := zkl BK1518 hg
  have NB1519_1540 := zkl BK1519 hg
  replace HO1528 := Aside0.mk (Kd.R_below (zRW HO1528.out) hb)
  replace BK1517 := zkb BK1517 hb
  replace BK1518 := zkb BK1518 hb
  replace BK1519 := zkb BK1519 hb
  replace HB := zkB HB hb
  have BK1540 := Aside0.mk (hbox)
  clear hb hbox hg
  refine hK.out _ _ (zk3 BK1517 (zk3 BK1518 (ze3 BK1519))) (fun hHeld => ?_)
  clear hK K
  refine znA 13 (h := ?_)
  exact norm_ zpu (hJ4_14 (v1527, gb1540) _ ⟨hHeld, (zRW HO1528.out), (zkq BK1517), (zkq BK1518), (zkq BK1519), (zkq BK1540), GW1540.out, GW1540.out, NB1517_1540.out, (zks NB1517_1540).out, NB1518_1540.out, (zks NB1518_1540).out, NB1519_1540.out, (zks NB1519_1540).out, zaB⟩)
 intro hJ4
 refine join_ (σ := Value) 10 #[true, false, false, true, false, false, true, true, false, true, false, true, false, false, false, false] (fun s_ => [(23, s_)]) (fun s_ w' => (slip_Do.HS w' gb1517 gb1518 gb1519 a1_0 a2_0 a3_0 a1_1 a1_2 a2_1 a2_2 a3_1 a3_2) ∧ (Kd.R k43 43 w' w.heap.size (fun k_ => k_ ≠ gb1517 ∧ k_ ≠ gb1518 ∧ k_ ≠ gb1519) s_ y1532) ∧ (w'.heap[gb1517]? = some (.cells #[.bool a1_0, .int .u64 a1_1, .int .u64 a1_2] 43 (0, 0))) ∧ (w'.heap[gb1518]? = some (.cells #[.bool a2_0, .int .u64 a2_1, .int .u64 a2_2] 43 (0, 0))) ∧ (w'.heap[gb1519]? = some (.cells #[.bool a3_0, .int .u64 a3_1, .int .u64 a3_2] 43 (0, 0))) ∧ (Below w.heap.size w w')) ?_ ?_
 ·skip
  rintro v1533 w19 ⟨hHeld, h0_, h1_, h2_, h3_, h4_⟩
  replace HO1534 := Aside0.mk h0_; replace BK1517 := Aside0.mk h1_; replace BK1518 := Aside0.mk h2_; replace BK1519 := Aside0.mk h3_; replace HB := Aside0.mk h4_; clear h0_ h1_ h2_ h3_ h4_
  refine norm_ (a' := ?_) ?_ ?_
  rotate_left
  ·simp only [putAll, Act.put, List.setIfInBounds_toArray, List.set_cons_zero, List.set_cons_succ]
   rfl
  refine three_ (i := 1) (j := 4) (k := 14) (Ni := some 17) (Nj := some 20) (Nk := some 13) #[true, true, false, true, false, false, true, true, false, true, false, true, false, false, false, false] #[true, false, false, true, true, false, true, true, false, true, false, true, false, false, false, false] #[true, false, false, true, false, false, true, true, false, true, false, true, false, false, true, false] rfl rfl rfl rfl rfl rfl (three_of HT_.out (by kernel_rfl)) (by decide) (by decide) (by decide) (fun K hK => ?_) (fun K hK => ?_) (fun K hK => ?_)
  ·skip
   refine slip_Do.lit 17 a1_0 a1_1 a1_2 ?_
   intro v1521 w20 ho21 hb hg_ hnew_
   clear hg_ hnew_
   (first | rw [← Ny1520.out] at ho21 | (simp only [Int.reduceToNat] at ho21; rw [← Ny1520.out] at ho21))
   have HO1522 := Aside0.mk (Kd.R_lower (Kd.R_newB (Kd.R_newB (Kd.R_newB (Kd.R_new' ho21 (Kd.R_lt (zRW HO1534.out))) (g := gb1517) (o := .cells #[.bool a1_0, .int .u64 a1_1, .int .u64 a1_2] 43 (0, 0)) (zkq BK1517)) (g := gb1518) (o := .cells #[.bool a2_0, .int .u64 a2_1, .int .u64 a2_2] 43 (0, 0)) (zkq BK1518)) (g := gb1519) (o := .cells #[.bool a3_0, .int .u64 a3_1, .int .u64 a3_2] 43 (0, 0)) (zkq BK1519)) (below_size zaB))
   replace HO1534 := Aside0.mk (Kd.R_elder' (zRW HO1534.out) (Kd.R_base ho21) hb)
   replace BK1517 := zkb BK1517 hb
   replace BK1518 := zkb BK1518 hb
   replace BK1519 := zkb BK1519 hb
   replace HB := zkB HB hb
   clear hb ho21
   refine hK.out _ _ (zk3 BK1517 (zk3 BK1518 (ze3 BK1519))) (fun hHeld => ?_)
   clear hK K
   refine znA 17 (h := ?_)
   exact norm_ zpu (hJ1_7 (v1521, v1533) _ ⟨hHeld, (by (with_reducible repeat (first | apply Kd.R_alloc | apply Kd.R_drewN | apply Kd.R_drew)); exact Kd.R_mono HO1522.out (fun _ hk => ⟨hk.1.1.1.2, ⟨hk.1.1.2, ⟨hk.1.2, hk.2⟩⟩⟩)), (by (with_reducible repeat (first | apply Kd.R_alloc | apply Kd.R_drewN | apply Kd.R_drew)); exact Kd.R_mono HO1534.out (fun _ hk => ⟨hk.2, ⟨hk.1.1, ⟨hk.1.2.1, hk.1.2.2⟩⟩⟩)), (zkq BK1517), (zkq BK1518), (zkq BK1519), zaB⟩)
  ·skip
   refine slip_Do.lit 20 a2_0 a2_1 a2_2 ?_
   intro v1527 w20 ho21 hb hg_ hnew_
   clear hg_ hnew_
   (first | rw [← Ny1526.out] at ho21 | (simp only [Int.reduceToNat] at ho21; rw [← Ny1526.out] at ho21))
   have HO1528 := Aside0.mk (Kd.R_lower (Kd.R_newB (Kd.R_newB (Kd.R_newB (Kd.R_new' ho21 (Kd.R_lt (zRW HO1534.out))) (g := gb1517) (o := .cells #[.bool a1_0, .int .u64 a1_1, .int .u64 a1_2] 43 (0, 0)) (zkq BK1517)) (g := gb1518) (o := .cells #[.bool a2_0, .int .u64 a2_1, .int .u64 a2_2] 43 (0, 0)) (zkq BK1518)) (g := gb1519) (o := .cells #[.bool a3_0, .int .u64 a3_1, .int .u64 a3_2] 43 (0, 0)) (zkq BK1519)) (below_size zaB))
   replace HO1534 := Aside0.mk (Kd.R_elder' (zRW HO1534.out) (Kd.R_base ho21) hb)
   replace BK1517 := zkb BK1517 hb
   replace BK1518 := zkb BK1518 hb
   replace BK1519 := zkb BK1519 hb
   replace HB := zkB HB hb
   clear hb ho21
   refine hK.out _ _ (zk3 BK1517 (zk3 BK1518 (ze3 BK1519))) (fun hHeld => ?_)
   clear hK K
   refine znA 20 (h := ?_)
   exact norm_ zpu (hJ4_7 (v1527, v1533) _ ⟨hHeld, (by (with_reducible repeat (first | apply Kd.R_alloc | apply Kd.R_drewN | apply Kd.R_drew)); exact Kd.R_mono HO1528.out (fun _ hk => ⟨hk.1.1.1.2, ⟨hk.1.1.2, ⟨hk.1.2, hk.2⟩⟩⟩)), (by (with_reducible repeat (first | apply Kd.R_alloc | apply Kd.R_drewN | apply Kd.R_drew)); exact Kd.R_mono HO1534.out (fun _ hk => ⟨hk.2, ⟨hk.1.1, ⟨hk.1.2.1, hk.1.2.2⟩⟩⟩)), (zkq BK1517), (zkq BK1518), (zkq BK1519), zaB⟩)
  skip
  refine box_step ?hg (N := 13) ?hd (cs := #[.bool false, .int .u64 0, .int .u64 0, .bool false, .int .u64 0, .int .u64 0, .bool false, .int .u64 0, .int .u64 0, .int .u64 0, .int .u64 0]) (t := 128) ?hr ?_; (case hd => rfl); (case hg => rfl); (case hr => first | (go_simp; done) | (go_simp; rfl))
  intro gb1540 hg w20 hbox hb
  have GW1540 := zkz HB hg
  have NB1517_1540 := zkl BK1517 hg
  have NB1518_1540 := zkl BK1518 hg
  have NB1519_1540 := zkl BK1519 hg
  replace HO1534 := Aside0.mk (Kd.R_below (zRW HO1534.out) hb)
  replace BK1517 := zkb BK1517 hb
  replace BK1518 := zkb BK1518 hb
  replace BK1519 := zkb BK1519 hb
  replace HB := zkB HB hb
  have BK1540 := Aside0.mk (hbox)
  clear hb hbox hg
  refine hK.out _ _ (zk3 BK1517 (zk3 BK1518 (ze3 BK1519))) (fun hHeld => ?_)
  clear hK K
  refine znA 13 (h := ?_)
  exact norm_ zpu (hJ7_14 (v1533, gb1540) _ ⟨hHeld, (zRW HO1534.out), (zkq BK1517), (zkq BK1518), (zkq BK1519), (zkq BK1540), GW1540.out, GW1540.out, NB1517_1540.out, (zks NB1517_1540).out, NB1518_1540.out, (zks NB1518_1540).out, NB1519_1540.out, (zks NB1519_1540).out, zaB⟩)
 intro hJ7
 refine join_ (σ := Nat) 10 #[true, false, false, true, false, false, true, false, false, true, false, true, false, false, true, false] (fun s_ => [(13, .pointer (some ⟨s_, 0, none⟩))]) (fun s_ w' => (slip_Do.HS w' gb1517 gb1518 gb1519 a1_0 a2_0 a3_0 a1_1 a1_2 a2_1 a2_2 a3_1 a3_2) ∧ (w'.heap[gb1517]? = some (.cells #[.bool a1_0, .int .u64 a1_1, .int .u64 a1_2] 43 (0, 0))) ∧ (w'.heap[gb1518]? = some (.cells #[.bool a2_0, .int .u64 a2_1, .int .u64 a2_2] 43 (0, 0))) ∧ (w'.heap[gb1519]? = some (.cells #[.bool a3_0, .int .u64 a3_1, .int .u64 a3_2] 43 (0, 0))) ∧ (w'.heap[s_]? = some (.cells #[.bool false, .int .u64 0, .int .u64 0, .bool false, .int .u64 0, .int .u64 0, .bool false, .int .u64 0, .int .u64 0, .int .u64 0, .int .u64 0] 128 (0, 0))) ∧ (w.heap.size ≤ s_) ∧ (w.heap.size ≤ s_) ∧ (gb1517 ≠ s_) ∧ (s_ ≠ gb1517) ∧ (gb1518 ≠ s_) ∧ (s_ ≠ gb1518) ∧ (gb1519 ≠ s_) ∧ (s_ ≠ gb1519) ∧ (Below w.heap.size w w')) ?_ ?_
 ·skip
  rintro gb1540 w18 ⟨hHeld, h0_, h1_, h2_, h3_, h4_, h5_, h6_, h7_, h8_, h9_, h10_, h11_, h12_⟩
  replace BK1517 := Aside0.mk h0_; replace BK1518 := Aside0.mk h1_; replace BK1519 := Aside0.mk h2_; replace BK1540 := Aside0.mk h3_; replace GW1540 := Aside0.mk h4_; replace GW1540 := Aside0.mk h5_; replace NB1517_1540 := Aside0.mk h6_; replace NB1540_1517 := Aside0.mk h7_; replace NB1518_1540 := Aside0.mk h8_; replace NB1540_1518 := Aside0.mk h9_; replace NB1519_1540 := Aside0.mk h10_; replace NB1540_1519 := Aside0.mk h11_; replace HB := Aside0.mk h12_; clear h0_ h1_ h2_ h3_ h4_ h5_ h6_ h7_ h8_ h9_ h10_ h11_ h12_
  refine norm_ (a' := ?_) ?_ ?_
  rotate_left
  ·simp only [putAll, Act.put, List.setIfInBounds_toArray, List.set_cons_zero, List.set_cons_succ]
   rfl
  refine three_ (i := 1) (j := 4) (k := 7) (Ni := some 17) (Nj := some 20) (Nk := some 23) #[true, true, false, true, false, false, true, false, false, true, false, true, false, false, true, false] #[true, false, false, true, true, false, true, false, false, true, false, true, false, false, true, false] #[true, false, false, true, false, false, true, true, false, true, false, true, false, false, true, false] rfl rfl rfl rfl rfl rfl (three_of HT_.out (by kernel_rfl)) (by decide) (by decide) (by decide) (fun K hK => ?_) (fun K hK => ?_) (fun K hK => ?_)
  ·skip
   refine slip_Do.lit 17 a1_0 a1_1 a1_2 ?_
   intro v1521 w19 ho20 hb hg_ hnew_
   clear hg_ hnew_
   (first | rw [← Ny1520.out] at ho20 | (simp only [Int.reduceToNat] at ho20; rw [← Ny1520.out] at ho20))
   have HO1522 := Aside0.mk (Kd.R_lower (Kd.R_newB (Kd.R_newB (Kd.R_newB ho20 (g := gb1517) (o := .cells #[.bool a1_0, .int .u64 a1_1, .int .u64 a1_2] 43 (0, 0)) (zkq BK1517)) (g := gb1518) (o := .cells #[.bool a2_0, .int .u64 a2_1, .int .u64 a2_2] 43 (0, 0)) (zkq BK1518)) (g := gb1519) (o := .cells #[.bool a3_0, .int .u64 a3_1, .int .u64 a3_2] 43 (0, 0)) (zkq BK1519)) (below_size zaB))
   replace BK1517 := zkb BK1517 hb
   replace BK1518 := zkb BK1518 hb
   replace BK1519 := zkb BK1519 hb
   replace BK1540 := zkb BK1540 hb
   replace HB := zkB HB hb
   clear hb ho20
   refine hK.out _ _ (zk3 BK1517 (zk3 BK1518 (ze3 BK1519))) (fun hHeld => ?_)
   clear hK K
   refine znA 17 (h := ?_)
   exact norm_ zpu (hJ1_14 (v1521, gb1540) _ ⟨hHeld, (by (with_reducible repeat (first | apply Kd.R_alloc | apply Kd.R_drewN | apply Kd.R_drew)); exact Kd.R_mono HO1522.out (fun _ hk => ⟨hk.1.1.2, ⟨hk.1.2, hk.2⟩⟩)), (zkq BK1517), (zkq BK1518), (zkq BK1519), (zkq BK1540), GW1540.out, GW1540.out, NB1517_1540.out, (zks NB1517_1540).out, NB1518_1540.out, (zks NB1518_1540).out, NB1519_1540.out, (zks NB1519_1540).out, zaB⟩)
  ·skip
   refine slip_Do.lit 20 a2_0 a2_1 a2_2 ?_
   intro v1527 w19 ho20 hb hg_ hnew_
   clear hg_ hnew_
   (first | rw [← Ny1526.out] at ho20 | (simp only [Int.reduceToNat] at ho20; rw [← Ny1526.out] at ho20))
   have HO1528 := Aside0.mk (Kd.R_lower (Kd.R_newB (Kd.R_newB (Kd.R_newB ho20 (g := gb1517) (o := .cells #[.bool a1_0, .int .u64 a1_1, .int .u64 a1_2] 43 (0, 0)) (zkq BK1517)) (g := gb1518) (o := .cells #[.bool a2_0, .int .u64 a2_1, .int .u64 a2_2] 43 (0, 0)) (zkq BK1518)) (g := gb1519) (o := .cells #[.bool a3_0, .int .u64 a3_1, .int .u64 a3_2] 43 (0, 0)) (zkq BK1519)) (below_size zaB))
   replace BK1517 := zkb BK1517 hb
   replace BK1518 := zkb BK1518 hb
   replace BK1519 := zkb BK1519 hb
   replace BK1540 := zkb BK1540 hb
   replace HB := zkB HB hb
   clear hb ho20
   refine hK.out _ _ (zk3 BK1517 (zk3 BK1518 (ze3 BK1519))) (fun hHeld => ?_)
   clear hK K
   refine znA 20 (h := ?_)
   exact norm_ zpu (hJ4_14 (v1527, gb1540) _ ⟨hHeld, (by (with_reducible repeat (first | apply Kd.R_alloc | apply Kd.R_drewN | apply Kd.R_drew)); exact Kd.R_mono HO1528.out (fun _ hk => ⟨hk.1.1.2, ⟨hk.1.2, hk.2⟩⟩)), (zkq BK1517), (zkq BK1518), (zkq BK1519), (zkq BK1540), GW1540.out, GW1540.out, NB1517_1540.out, (zks NB1517_1540).out, NB1518_1540.out, (zks NB1518_1540).out, NB1519_1540.out, (zks NB1519_1540).out, zaB⟩)
  skip
  refine slip_Do.lit 23 a3_0 a3_1 a3_2 ?_
  intro v1533 w19 ho20 hb hg_ hnew_
  clear hg_ hnew_
  (first | rw [← Ny1532.out] at ho20 | (simp only [Int.reduceToNat] at ho20; rw [← Ny1532.out] at ho20))
  have HO1534 := Aside0.mk (Kd.R_lower (Kd.R_newB (Kd.R_newB (Kd.R_newB ho20 (g := gb1517) (o := .cells #[.bool a1_0, .int .u64 a1_1, .int .u64 a1_2] 43 (0, 0)) (zkq BK1517)) (g := gb1518) (o := .cells #[.bool a2_0, .int .u64 a2_1, .int .u64 a2_2] 43 (0, 0)) (zkq BK1518)) (g := gb1519) (o := .cells #[.bool a3_0, .int .u64 a3_1, .int .u64 a3_2] 43 (0, 0)) (zkq BK1519)) (below_size zaB))
  replace BK1517 := zkb BK1517 hb
  replace BK1518 := zkb BK1518 hb
  replace BK1519 := zkb BK1519 hb
  replace BK1540 := zkb BK1540 hb
  replace HB := zkB HB hb
  clear hb ho20
  refine hK.out _ _ (zk3 BK1517 (zk3 BK1518 (ze3 BK1519))) (fun hHeld => ?_)
  clear hK K
  refine znA 23 (h := ?_)
  exact norm_ zpu (hJ7_14 (v1533, gb1540) _ ⟨hHeld, (by (with_reducible repeat (first | apply Kd.R_alloc | apply Kd.R_drewN | apply Kd.R_drew)); exact Kd.R_mono HO1534.out (fun _ hk => ⟨hk.1.1.2, ⟨hk.1.2, hk.2⟩⟩)), (zkq BK1517), (zkq BK1518), (zkq BK1519), (zkq BK1540), GW1540.out, GW1540.out, NB1517_1540.out, (zks NB1517_1540).out, NB1518_1540.out, (zks NB1518_1540).out, NB1519_1540.out, (zks NB1519_1540).out, zaB⟩)
 intro hJ14
 refine four_ (i := 1) (j := 4) (k := 7) (m := 14) (Ni := some 17) (Nj := some 20) (Nk := some 23) (Nm := some 13) #[true, true, false, true, false, false, true, false, false, true, false, true, false, false, false, false] #[true, false, false, true, true, false, true, false, false, true, false, true, false, false, false, false] #[true, false, false, true, false, false, true, true, false, true, false, true, false, false, false, false] #[true, false, false, true, false, false, true, false, false, true, false, true, false, false, true, false] rfl rfl rfl rfl rfl rfl rfl rfl (four_of HT_.out (by kernel_rfl)) (by decide) (by decide) (by decide) (by decide) (fun K hK => ?_) (fun K hK => ?_) (fun K hK => ?_) (fun K hK => ?_)
 ·skip
  refine slip_Do.lit 17 a1_0 a1_1 a1_2 ?_
  intro v1521 w17 ho18 hb hg_ hnew_
  clear hg_ hnew_
  (first | rw [← Ny1520.out] at ho18 | (simp only [Int.reduceToNat] at ho18; rw [← Ny1520.out] at ho18))
  have HO1522 := Aside0.mk (Kd.R_lower (Kd.R_newB (Kd.R_newB (Kd.R_newB ho18 (g := gb1517) (o := .cells #[.bool a1_0, .int .u64 a1_1, .int .u64 a1_2] 43 (0, 0)) (zkq BK1517)) (g := gb1518) (o := .cells #[.bool a2_0, .int .u64 a2_1, .int .u64 a2_2] 43 (0, 0)) (zkq BK1518)) (g := gb1519) (o := .cells #[.bool a3_0, .int .u64 a3_1, .int .u64 a3_2] 43 (0, 0)) (zkq BK1519)) (below_size zaB))
  replace BK1517 := zkb BK1517 hb
  replace BK1518 := zkb BK1518 hb
  replace BK1519 := zkb BK1519 hb
  replace HB := zkB HB hb
  clear hb ho18
  refine hK.out _ _ (zk3 BK1517 (zk3 BK1518 (ze3 BK1519))) (fun hHeld => ?_)
  clear hK K
  refine znA 17 (h := ?_)
  exact norm_ zpu (hJ1 (v1521) _ ⟨hHeld, (by (with_reducible repeat (first | apply Kd.R_alloc | apply Kd.R_drewN | apply Kd.R_drew)); exact Kd.R_mono HO1522.out (fun _ hk => ⟨hk.1.1.2, ⟨hk.1.2, hk.2⟩⟩)), (zkq BK1517), (zkq BK1518), (zkq BK1519), zaB⟩)
 ·skip
  refine slip_Do.lit 20 a2_0 a2_1 a2_2 ?_
  intro v1527 w17 ho18 hb hg_ hnew_
  clear hg_ hnew_
  (first | rw [← Ny1526.out] at ho18 | (simp only [Int.reduceToNat] at ho18; rw [← Ny1526.out] at ho18))
  have HO1528 := Aside0.mk (Kd.R_lower (Kd.R_newB (Kd.R_newB (Kd.R_newB ho18 (g := gb1517) (o := .cells #[.bool a1_0, .int .u64 a1_1, .int .u64 a1_2] 43 (0, 0)) (zkq BK1517)) (g := gb1518) (o := .cells #[.bool a2_0, .int .u64 a2_1, .int .u64 a2_2] 43 (0, 0)) (zkq BK1518)) (g := gb1519) (o := .cells #[.bool a3_0, .int .u64 a3_1, .int .u64 a3_2] 43 (0, 0)) (zkq BK1519)) (below_size zaB))
  replace BK1517 := zkb BK1517 hb
  replace BK1518 := zkb BK1518 hb
  replace BK1519 := zkb BK1519 hb
  replace HB := zkB HB hb
  clear hb ho18
  refine hK.out _ _ (zk3 BK1517 (zk3 BK1518 (ze3 BK1519))) (fun hHeld => ?_)
  clear hK K
  refine znA 20 (h := ?_)
  exact norm_ zpu (hJ4 (v1527) _ ⟨hHeld, (by (with_reducible repeat (first | apply Kd.R_alloc | apply Kd.R_drewN | apply Kd.R_drew)); exact Kd.R_mono HO1528.out (fun _ hk => ⟨hk.1.1.2, ⟨hk.1.2, hk.2⟩⟩)), (zkq BK1517), (zkq BK1518), (zkq BK1519), zaB⟩)
 ·skip
  refine slip_Do.lit 23 a3_0 a3_1 a3_2 ?_
  intro v1533 w17 ho18 hb hg_ hnew_
  clear hg_ hnew_
  (first | rw [← Ny1532.out] at ho18 | (simp only [Int.reduceToNat] at ho18; rw [← Ny1532.out] at ho18))
  have HO1534 := Aside0.mk (Kd.R_lower (Kd.R_newB (Kd.R_newB (Kd.R_newB ho18 (g := gb1517) (o := .cells #[.bool a1_0, .int .u64 a1_1, .int .u64 a1_2] 43 (0, 0)) (zkq BK1517)) (g := gb1518) (o := .cells #[.bool a2_0, .int .u64 a2_1, .int .u64 a2_2] 43 (0, 0)) (zkq BK1518)) (g := gb1519) (o := .cells #[.bool a3_0, .int .u64 a3_1, .int .u64 a3_2] 43 (0, 0)) (zkq BK1519)) (below_size zaB))
  replace BK1517 := zkb BK1517 hb
  replace BK1518 := zkb BK1518 hb
  replace BK1519 := zkb BK1519 hb
  replace HB := zkB HB hb
  clear hb ho18
  refine hK.out _ _ (zk3 BK1517 (zk3 BK1518 (ze3 BK1519))) (fun hHeld => ?_)
  clear hK K
  refine znA 23 (h := ?_)
  exact norm_ zpu (hJ7 (v1533) _ ⟨hHeld, (by (with_reducible repeat (first | apply Kd.R_alloc | apply Kd.R_drewN | apply Kd.R_drew)); exact Kd.R_mono HO1534.out (fun _ hk => ⟨hk.1.1.2, ⟨hk.1.2, hk.2⟩⟩)), (zkq BK1517), (zkq BK1518), (zkq BK1519), zaB⟩)
 skip
 refine box_step ?hg (N := 13) ?hd (cs := #[.bool false, .int .u64 0, .int .u64 0, .bool false, .int .u64 0, .int .u64 0, .bool false, .int .u64 0, .int .u64 0, .int .u64 0, .int .u64 0]) (t := 128) ?hr ?_; (case hd => rfl); (case hg => rfl); (case hr => first | (go_simp; done) | (go_simp; rfl))
 intro gb1540 hg w17 hbox hb
 refine zbn3 HB BK1517 BK1518 BK1519 hg hb hbox (c := ?_)
 clear HB BK1517 BK1518 BK1519 hb hbox hg
 intro GW1540 NB1517_1540 NB1518_1540 NB1519_1540 BK1517 BK1518 BK1519 HB BK1540
 refine hK.out _ _ (zk3 BK1517 (zk3 BK1518 (ze3 BK1519))) (fun hHeld => ?_)
 clear hK K
 refine znA 13 (h := ?_)
 exact norm_ zpu (hJ14 (gb1540) _ ⟨hHeld, (zkq BK1517), (zkq BK1518), (zkq BK1519), (zkq BK1540), GW1540.out, GW1540.out, NB1517_1540.out, (zks NB1517_1540).out, NB1518_1540.out, (zks NB1518_1540).out, NB1519_1540.out, (zks NB1519_1540).out, zaB⟩)
theorem span_All.calls (k : Nat)  (r1 : Bool) (r2 : Int) (r3 : Int) (w : World) (h : span_All.f k  = some (r1, r2, r3)) :
  Calls Try.prog 40 #[] w fun e w' => e = .returned (.agg #[.bool r1, .int .u64 r2, .int .u64 r3]) ∧ Below w.heap.size w w' := by
 have hu43 := Try.underlying43
 have HB := Aside0.mk (Below.refl w.heap.size w)
 have H := h
 unfold span_All.f at H
 clear h
 obtain ⟨t726, A1, H⟩ := zbs H
 try dsimp only at H
 obtain ⟨t727, A2, H⟩ := zbs H
 try dsimp only at H
 obtain ⟨⟨t728, t729, t730⟩, A3, H⟩ := zbs H
 try dsimp only at H
 simp only [Option.some.injEq, Prod.mk.injEq] at H
 obtain ⟨rfl, rfl, rfl⟩ := H
 go_enter Try.func40, Try.ntmps40
 go_wp2_with (first | ((with_reducible refine gtd 0 rfl ?_); refine zbx 0 #[.bool false, .int .u64 0, .int .u64 0] 43 (h := ?_); intro gb725 hg w4 hbox hb; have GW725 := zkZ hg (zaB (p := Below w.heap.size w _)); replace HB := Aside0.mk (below_step zaB hb); have BK725 := Aside0.mk (hbox); clear hb hbox hg) | ((with_reducible refine gtc 113 rfl ?_); refine zgL 1 Try.func113 (span_ninf.calls k  t726 _ A1.out) (h := ?_); rintro w' ⟨nd, rfl⟩; (try (rw [drewN_self w4]; generalize hq_ : World.drewN w4 _ = w4; have n0_ : Aside0 (w4.heap[gb725]? = some (.cells #[.bool false, .int .u64 0, .int .u64 0] 43 (0, 0))) := ⟨by rw [← hq_]; exact (zkq BK725)⟩; have n1_ : Aside0 (Below w.heap.size w w4) := ⟨by rw [← hq_]; exact zaB⟩; clear BK725 HB hq_; have BK725 := n0_; have HB := n1_; clear n0_ n1_))) | ((with_reducible refine gtc 114 rfl ?_); refine zgL 2 Try.func114 (span_inf.calls k  t727 _ A2.out) (h := ?_); rintro w' ⟨nd, rfl⟩; (try (rw [drewN_self w4]; generalize hq_ : World.drewN w4 _ = w4; have n0_ : Aside0 (w4.heap[gb725]? = some (.cells #[.bool false, .int .u64 0, .int .u64 0] 43 (0, 0))) := ⟨by rw [← hq_]; exact (zkq BK725)⟩; have n1_ : Aside0 (Below w.heap.size w w4) := ⟨by rw [← hq_]; exact zaB⟩; clear BK725 HB hq_; have BK725 := n0_; have HB := n1_; clear n0_ n1_))) | ((with_reducible refine gtc 37 rfl ?_); refine zgL 3 Try.func37 (span_Make.calls k t726 t727 t728 t729 t730 _ A3.out) (h := ?_); rintro w5 hb; replace BK725 := zkb BK725 hb; replace HB := zkB HB hb; (try clear hb); refine zu3 BK725 fun _ _ _ _ _ _ => ?_))
 refine bodyPost_ret (results_cell_row rfl _ _ gb725 43 #[.bool t728, .int .u64 t729, .int .u64 t730] (0, 0) _ rfl (blk_put (cs := #[.bool t728, .int .u64 t729, .int .u64 0]) (blk_put (cs := #[.bool t728, .int .u64 0, .int .u64 0]) (blk_put (zkq BK725) 0 _ rfl) 1 _ rfl) 2 _ rfl) Try.underlying43 rfl (by kernel_rfl)) rfl ?_
 exact ⟨zaE, zaB⟩
theorem slip_Widen.calls (k : Nat) (a0 : Int) (a1 : Int) (A2 : Option Addr) (c2 : Nat) (l2 : List Int) (r : Int) (w : World) (hr2 : Kd.C (Kd.int .u64) w A2 l2.length l2) (hc2 : l2.length ≤ c2) (h : slip_Widen.f k a0 a1 l2 = some r) :
  Calls Try.prog 60 #[.int .u64 a0, .int .u64 a1, .slice A2 l2.length c2] w fun e w' => e = .returned (.int .u64 r) ∧ Drawn0 w w' := by
 have HR2 := Aside0.mk hr2
 have HC2 := Aside0.mk hc2
 clear hr2 hc2
 have H := h
 unfold slip_Widen.f at H
 clear h
 obtain ⟨t1465, A4, H⟩ := zbs H
 try dsimp only at H
 obtain ⟨t1466, A5, H⟩ := zbs H
 try dsimp only at H
 obtain ⟨t1467, A6, H⟩ := zbs H
 try dsimp only at H
 by_cases c7 : t1467 = true
 ·subst c7
  replace H := zit H
  obtain ⟨t1468, A8, H⟩ := zbs H
  try dsimp only at H
  have H' := Aside0.mk H
  clear H
  go_enter Try.func60, Try.ntmps60
  go_wp2_with (first | ((with_reducible refine gtc 61 rfl ?_); refine zgL 13 Try.func61 (slip_Good.calls k a0 t1465 _ A4.out) (h := ?_); rintro w' ⟨nd, rfl⟩) | ((with_reducible refine gtc 61 rfl ?_); refine zgL 15 Try.func61 (slip_Good.calls k a1 t1466 _ A5.out) (h := ?_); rintro w' ⟨nd, rfl⟩) | ((with_reducible refine gtc 34 rfl ?_); refine zgL 18 Try.func34 (pattern_Less.calls k t1465 t1466 true _ A6.out) (h := ?_); rintro w' ⟨nd, rfl⟩) | ((with_reducible refine gtc 130 rfl ?_); refine zgL 21 Try.func130 (slip_inf.calls k  t1468 _ A8.out) (h := ?_); rintro w' ⟨nd, rfl⟩))
  (try simp only [Act.put, List.setIfInBounds_toArray, List.set_cons_zero, List.set_cons_succ])
  go_loopg [7, 24] k (fun kq v7 v24 w' => ∃ (x7_1 : Int) (x24_1 : Int), v7 = .int .u64 x7_1 ∧ v24 = .int .i64 x24_1 ∧ Aside0 (slip_Widen.l0 kq t1466 x7_1 l2 (l2.length : Int) x24_1 = some r) ∧ Aside0 (kq ≤ k) ∧ Drawn0 w w')
  case atStart => exact ⟨(t1468), (0), zrl, zrl, H', ⟨Nat.le_refl _⟩, by repeat (first | exact Drawn0.refl _ | apply Drawn0.step)⟩
  case round =>
   clear H'
   obtain ⟨x7_1, x24_1, rfl, rfl, HA, HK1, ⟨m1, rfl⟩⟩ := hrel
   cases gk with
   | zero => exact absurd HA.out (by simp [slip_Widen.l0])
   | succ k1 =>
    have H := HA.out
    clear HA
    simp only [slip_Widen.l0] at H
    by_cases c9 : x24_1 < (l2.length : Int)
    ·rw [if_pos c9] at H
     have c9b0 : decide (x24_1 < (l2.length : Int)) = true := decide_eq_true c9
     clear c9
     by_cases c10 : 0 ≤ x24_1
     ·rw [if_pos c10] at H
      have c10b0 : decide (0 ≤ x24_1) = true := decide_eq_true c10
      clear c10
      by_cases c11 : x24_1 < (l2.length : Int)
      ·rw [if_pos c11] at H
       have c11b0 : decide (x24_1 < (l2.length : Int)) = true := decide_eq_true c11
       clear c11
       obtain ⟨⟨t1470, t1471⟩, A12, H⟩ := zbs H
       try dsimp only at H
       by_cases c13 : t1471 = true
       ·subst c13
        replace H := zit H
        by_cases c14 : t1470 ≤ 0
        ·rw [if_pos c14] at H
         have c14b0 : decide (t1470 ≤ 0) = true := decide_eq_true c14
         clear c14
         obtain ⟨t1472, A15, H⟩ := zbs H
         try dsimp only at H
         by_cases c16 : t1472 = true
         ·subst c16
          replace H := zit H
          have H' := Aside0.mk H
          clear H
          have p1469 : 0 ≤ (x24_1 : Int) := of_decide_eq_true (by first | (with_reducible assumption) | assumption)
          have q1469 : x24_1 < (l2.length : Int) := of_decide_eq_true (by first | (with_reducible assumption) | assumption)
          obtain ⟨ad1469, e1469, hx1469_0⟩ := Kd.at_int HR2.out x24_1 p1469 q1469
          cases e1469
          replace p1469 := eq_true p1469
          replace q1469 := eq_true q1469
          go_wp2_with (first | ((with_reducible refine gtc 33 rfl ?_); refine zgL 31 Try.func33 (pattern_Cmp.calls k1 t1466 (rd l2 x24_1) t1470 true _ A12.out) (h := ?_); rintro w' ⟨nd, rfl⟩) | (go_at_call 34; (with_reducible refine (pattern_Less.calls k1 (rd l2 x24_1) x7_1 true _ A15.out).mono ?_); rintro e w' ⟨rfl, ⟨nd, rfl⟩⟩))
          go_roundg k1
          case measure => have := HK1.out; omega
          case rel => exact ⟨(rd l2 x24_1), (wrap64 (x24_1 + 1)), zrl, zrl, H', ⟨by have := HK1.out; omega⟩, by repeat (first | exact Drawn0.refl _ | apply Drawn0.step)⟩
         replace c16 := Bool.eq_false_iff.mpr c16
         subst c16
         replace H := zif H
         have H' := Aside0.mk H
         clear H
         have p1469 : 0 ≤ (x24_1 : Int) := of_decide_eq_true (by first | (with_reducible assumption) | assumption)
         have q1469 : x24_1 < (l2.length : Int) := of_decide_eq_true (by first | (with_reducible assumption) | assumption)
         obtain ⟨ad1469, e1469, hx1469_0⟩ := Kd.at_int HR2.out x24_1 p1469 q1469
         cases e1469
         replace p1469 := eq_true p1469
         replace q1469 := eq_true q1469
         go_wp2_with (first | ((with_reducible refine gtc 33 rfl ?_); refine zgL 31 Try.func33 (pattern_Cmp.calls k1 t1466 (rd l2 x24_1) t1470 true _ A12.out) (h := ?_); rintro w' ⟨nd, rfl⟩) | (go_at_call 34; (with_reducible refine (pattern_Less.calls k1 (rd l2 x24_1) x7_1 false _ A15.out).mono ?_); rintro e w' ⟨rfl, ⟨nd, rfl⟩⟩))
         go_roundg k1
         case measure => have := HK1.out; omega
         case rel => exact ⟨(x7_1), (wrap64 (x24_1 + 1)), zrl, zrl, H', ⟨by have := HK1.out; omega⟩, by repeat (first | exact Drawn0.refl _ | apply Drawn0.step)⟩
        rw [if_neg c14] at H
        have c14b0 : decide (t1470 ≤ 0) = false := decide_eq_false c14
        clear c14
        have H' := Aside0.mk H
        clear H
        have p1469 : 0 ≤ (x24_1 : Int) := of_decide_eq_true (by first | (with_reducible assumption) | assumption)
        have q1469 : x24_1 < (l2.length : Int) := of_decide_eq_true (by first | (with_reducible assumption) | assumption)
        obtain ⟨ad1469, e1469, hx1469_0⟩ := Kd.at_int HR2.out x24_1 p1469 q1469
        cases e1469
        replace p1469 := eq_true p1469
        replace q1469 := eq_true q1469
        go_wp2_with (first | ((with_reducible refine gtc 33 rfl ?_); refine zgL 31 Try.func33 (pattern_Cmp.calls k1 t1466 (rd l2 x24_1) t1470 true _ A12.out) (h := ?_); rintro w' ⟨nd, rfl⟩))
        go_roundg k1
        case measure => have := HK1.out; omega
        case rel => exact ⟨(x7_1), (wrap64 (x24_1 + 1)), zrl, zrl, H', ⟨by have := HK1.out; omega⟩, by repeat (first | exact Drawn0.refl _ | apply Drawn0.step)⟩
       replace c13 := Bool.eq_false_iff.mpr c13
       subst c13
       replace H := zif H
       have H' := Aside0.mk H
       clear H
       have p1469 : 0 ≤ (x24_1 : Int) := of_decide_eq_true (by first | (with_reducible assumption) | assumption)
       have q1469 : x24_1 < (l2.length : Int) := of_decide_eq_true (by first | (with_reducible assumption) | assumption)
       obtain ⟨ad1469, e1469, hx1469_0⟩ := Kd.at_int HR2.out x24_1 p1469 q1469
       cases e1469
       replace p1469 := eq_true p1469
       replace q1469 := eq_true q1469
       go_wp2_with (first | ((with_reducible refine gtc 33 rfl ?_); refine zgL 31 Try.func33 (pattern_Cmp.calls k1 t1466 (rd l2 x24_1) t1470 false _ A12.out) (h := ?_); rintro w' ⟨nd, rfl⟩))
       go_roundg k1
       case measure => have := HK1.out; omega
       case rel => exact ⟨(x7_1), (wrap64 (x24_1 + 1)), zrl, zrl, H', ⟨by have := HK1.out; omega⟩, by repeat (first | exact Drawn0.refl _ | apply Drawn0.step)⟩
      rw [if_neg c11] at H
      exact absurd H (by simp)
     rw [if_neg c10] at H
     exact absurd H (by simp)
    rw [if_neg c9] at H
    have c9b0 : decide (x24_1 < (l2.length : Int)) = false := decide_eq_false c9
    clear c9
    obtain rfl := Option.some.inj H
    go_wp2
    go_ret
    exact ⟨by first | rfl | (simp; done) | (simp [*]; done), by repeat (first | exact Drawn0.refl _ | apply Drawn0.step)⟩
 replace c7 := Bool.eq_false_iff.mpr c7
 subst c7
 replace H := zif H
 obtain rfl := Option.some.inj H
 go_enter Try.func60, Try.ntmps60
 go_wp2_with (first | ((with_reducible refine gtc 61 rfl ?_); refine zgL 13 Try.func61 (slip_Good.calls k a0 t1465 _ A4.out) (h := ?_); rintro w' ⟨nd, rfl⟩) | ((with_reducible refine gtc 61 rfl ?_); refine zgL 15 Try.func61 (slip_Good.calls k a1 t1466 _ A5.out) (h := ?_); rintro w' ⟨nd, rfl⟩) | ((with_reducible refine gtc 34 rfl ?_); refine zgL 18 Try.func34 (pattern_Less.calls k t1465 t1466 false _ A6.out) (h := ?_); rintro w' ⟨nd, rfl⟩))
 go_ret
 exact ⟨by first | rfl | (simp; done) | (simp [*]; done), by repeat (first | exact Drawn0.refl _ | apply Drawn0.step)⟩
end Go.Proofs.Ytmadjhmecfbcmaa.F
end
