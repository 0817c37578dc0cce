/- The walk of the law SlipWidens and what it computes, part 6 of 6: no conditions. -/
import Derived.Test.YtmadjhmecfbcmaaASlipWidens5
set_option linter.unusedVariables false
set_option linter.unusedSimpArgs false
section
namespace Go.Proofs.Ytmadjhmecfbcmaa.F
open Go.RowKit Go.Proofs.YtmadjhmecfbcmaaW.PrintWords Go.Proofs.YtmadjhmecfbcmaaW.PrintLast Go.Proofs.YtmadjhmecfbcmaaW.PrintMore
attribute [local go_sem] max2_int min2_int max_two min_two max_three min_three max_four min_four
set_option linter.unusedVariables false
set_option linter.unusedSimpArgs false
set_option maxHeartbeats 8000000
set_option maxRecDepth 100000
theorem flyballref19_Widen.calls (k : Nat) (a0 : Int) (a1 : Int) (A2 : Option Addr) (c2 : Nat) (l2 : List Int) (r : Int) (w : World) (hr2 : Kd.C (Kd.int .u64) w A2 l2.length l2) (hc2 : l2.length ≤ c2) (h : flyballref19_Widen.f k a0 a1 l2 = some r) :
  Calls Try.prog 62 #[.int .u64 a0, .int .u64 a1, .slice A2 l2.length c2] w fun e w' => e = .returned (.int .u64 r) ∧ Drawn0 w w' := by
 have HR2 := Aside0.mk hr2
 have HC2 := Aside0.mk hc2
 clear hr2 hc2
 have H := h
 unfold flyballref19_Widen.f at H
 clear h
 obtain ⟨t1593, A4, H⟩ := zbs H
 try dsimp only at H
 obtain ⟨t1594, A5, H⟩ := zbs H
 try dsimp only at H
 obtain ⟨⟨t1595, t1596⟩, A6, H⟩ := zbs H
 try dsimp only at H
 by_cases c7 : t1595 ≤ 0
 ·rw [if_pos c7] at H
  have c7b0 : decide (t1595 ≤ 0) = true := decide_eq_true c7
  clear c7
  obtain rfl := Option.some.inj H
  go_enter Try.func62, Try.ntmps62
  go_wp2_with (first | ((with_reducible refine gtc 58 rfl ?_); refine zgL 19 Try.func58 (flyballref19_Good.calls k a0 t1593 _ A4.out) (h := ?_); rintro w' ⟨nd, rfl⟩) | ((with_reducible refine gtc 58 rfl ?_); refine zgL 21 Try.func58 (flyballref19_Good.calls k a1 t1594 _ A5.out) (h := ?_); rintro w' ⟨nd, rfl⟩) | ((with_reducible refine gtc 59 rfl ?_); refine zgL 25 Try.func59 (flyballref04_Cmp.calls k t1594 t1593 t1595 t1596 _ A6.out) (h := ?_); rintro w' ⟨nd, rfl⟩))
  go_ret
  exact ⟨by first | rfl | (simp; done) | (simp [*]; done), by repeat (first | exact Drawn0.refl _ | apply Drawn0.step)⟩
 rw [if_neg c7] at H
 have c7b0 : decide (t1595 ≤ 0) = false := decide_eq_false c7
 clear c7
 have H' := Aside0.mk H
 clear H
 go_enter Try.func62, Try.ntmps62
 go_wp2_with (first | ((with_reducible refine gtc 58 rfl ?_); refine zgL 19 Try.func58 (flyballref19_Good.calls k a0 t1593 _ A4.out) (h := ?_); rintro w' ⟨nd, rfl⟩) | ((with_reducible refine gtc 58 rfl ?_); refine zgL 21 Try.func58 (flyballref19_Good.calls k a1 t1594 _ A5.out) (h := ?_); rintro w' ⟨nd, rfl⟩) | ((with_reducible refine gtc 59 rfl ?_); refine zgL 25 Try.func59 (flyballref04_Cmp.calls k t1594 t1593 t1595 t1596 _ A6.out) (h := ?_); rintro w' ⟨nd, rfl⟩))
 (try simp only [Act.put, List.setIfInBounds_toArray, List.set_cons_zero, List.set_cons_succ])
 go_loopg [11, 12] k (fun kq v11 v12 w' => ∃ (x11_1 : Int) (x12_1 : Int), v11 = .int .u64 x11_1 ∧ v12 = .int .i64 x12_1 ∧ Aside0 (flyballref19_Widen.l0 kq l2 t1594 x11_1 x12_1 = some r) ∧ Aside0 (kq ≤ k) ∧ Drawn0 w w')
 case atStart => exact ⟨(9218868437227405312), (0), zrl, zrl, H', ⟨Nat.le_refl _⟩, by repeat (first | exact Drawn0.refl _ | apply Drawn0.step)⟩
 case round =>
  clear H'
  try clear c7b0
  obtain ⟨x11_1, x12_1, rfl, rfl, HA, HK1, ⟨m1, rfl⟩⟩ := hrel
  cases gk with
  | zero => exact absurd HA.out (by simp [flyballref19_Widen.l0])
  | succ k1 =>
   have H := HA.out
   clear HA
   simp only [flyballref19_Widen.l0] at H
   by_cases c8 : x12_1 < (l2.length : Int)
   ·rw [if_pos c8] at H
    have c8b0 : decide (x12_1 < (l2.length : Int)) = true := decide_eq_true c8
    clear c8
    by_cases c9 : 0 ≤ x12_1
    ·rw [if_pos c9] at H
     have c9b0 : decide (0 ≤ x12_1) = true := decide_eq_true c9
     clear c9
     obtain ⟨⟨t1598, t1599⟩, A10, H⟩ := zbs H
     try dsimp only at H
     obtain ⟨⟨t1600, t1601⟩, A11, H⟩ := zbs H
     try dsimp only at H
     by_cases c12 : t1599 = true
     ·subst c12
      replace H := zit H
      by_cases c13 : t1598 ≤ 0
      ·rw [if_pos c13] at H
       have c13b0 : decide (t1598 ≤ 0) = true := decide_eq_true c13
       clear c13
       by_cases c14 : t1600 < 0
       ·rw [if_pos c14] at H
        have c14b0 : decide (t1600 < 0) = true := decide_eq_true c14
        clear c14
        have H' := Aside0.mk H
        clear H
        have p1597 : 0 ≤ (x12_1 : Int) := of_decide_eq_true (by first | (with_reducible assumption) | assumption)
        have q1597 : x12_1 < (l2.length : Int) := of_decide_eq_true (by first | (with_reducible assumption) | assumption)
        obtain ⟨ad1597, e1597, hx1597_0⟩ := Kd.at_int HR2.out x12_1 p1597 q1597
        cases e1597
        replace p1597 := eq_true p1597
        replace q1597 := eq_true q1597
        go_wp2_with (first | ((with_reducible refine gtc 59 rfl ?_); refine zgL 44 Try.func59 (flyballref04_Cmp.calls k1 t1594 (rd l2 x12_1) t1598 true _ A10.out) (h := ?_); rintro w' ⟨nd, rfl⟩) | ((with_reducible refine gtc 59 rfl ?_); refine zgL 50 Try.func59 (flyballref04_Cmp.calls k1 (rd l2 x12_1) x11_1 t1600 t1601 _ A11.out) (h := ?_); rintro w' ⟨nd, rfl⟩))
        go_roundg k1
        case measure => have := HK1.out; omega
        case rel => exact ⟨(rd l2 x12_1), (wrap64 (x12_1 + 1)), zrl, zrl, H', ⟨by have := HK1.out; omega⟩, by repeat (first | exact Drawn0.refl _ | apply Drawn0.step)⟩
       rw [if_neg c14] at H
       have c14b0 : decide (t1600 < 0) = false := decide_eq_false c14
       clear c14
       have H' := Aside0.mk H
       clear H
       have p1597 : 0 ≤ (x12_1 : Int) := of_decide_eq_true (by first | (with_reducible assumption) | assumption)
       have q1597 : x12_1 < (l2.length : Int) := of_decide_eq_true (by first | (with_reducible assumption) | assumption)
       obtain ⟨ad1597, e1597, hx1597_0⟩ := Kd.at_int HR2.out x12_1 p1597 q1597
       cases e1597
       replace p1597 := eq_true p1597
       replace q1597 := eq_true q1597
       go_wp2_with (first | ((with_reducible refine gtc 59 rfl ?_); refine zgL 44 Try.func59 (flyballref04_Cmp.calls k1 t1594 (rd l2 x12_1) t1598 true _ A10.out) (h := ?_); rintro w' ⟨nd, rfl⟩) | ((with_reducible refine gtc 59 rfl ?_); refine zgL 50 Try.func59 (flyballref04_Cmp.calls k1 (rd l2 x12_1) x11_1 t1600 t1601 _ A11.out) (h := ?_); rintro w' ⟨nd, rfl⟩))
       go_roundg k1
       case measure => have := HK1.out; omega
       case rel => exact ⟨(x11_1), (wrap64 (x12_1 + 1)), zrl, zrl, H', ⟨by have := HK1.out; omega⟩, by repeat (first | exact Drawn0.refl _ | apply Drawn0.step)⟩
      rw [if_neg c13] at H
      have c13b0 : decide (t1598 ≤ 0) = false := decide_eq_false c13
      clear c13
      have H' := Aside0.mk H
      clear H
      have p1597 : 0 ≤ (x12_1 : Int) := of_decide_eq_true (by first | (with_reducible assumption) | assumption)
      have q1597 : x12_1 < (l2.length : Int) := of_decide_eq_true (by first | (with_reducible assumption) | assumption)
      obtain ⟨ad1597, e1597, hx1597_0⟩ := Kd.at_int HR2.out x12_1 p1597 q1597
      cases e1597
      replace p1597 := eq_true p1597
      replace q1597 := eq_true q1597
      go_wp2_with (first | ((with_reducible refine gtc 59 rfl ?_); refine zgL 44 Try.func59 (flyballref04_Cmp.calls k1 t1594 (rd l2 x12_1) t1598 true _ A10.out) (h := ?_); rintro w' ⟨nd, rfl⟩) | ((with_reducible refine gtc 59 rfl ?_); refine zgL 50 Try.func59 (flyballref04_Cmp.calls k1 (rd l2 x12_1) x11_1 t1600 t1601 _ A11.out) (h := ?_); rintro w' ⟨nd, rfl⟩))
      go_roundg k1
      case measure => have := HK1.out; omega
      case rel => exact ⟨(x11_1), (wrap64 (x12_1 + 1)), zrl, zrl, H', ⟨by have := HK1.out; omega⟩, by repeat (first | exact Drawn0.refl _ | apply Drawn0.step)⟩
     replace c12 := Bool.eq_false_iff.mpr c12
     subst c12
     replace H := zif H
     have H' := Aside0.mk H
     clear H
     have p1597 : 0 ≤ (x12_1 : Int) := of_decide_eq_true (by first | (with_reducible assumption) | assumption)
     have q1597 : x12_1 < (l2.length : Int) := of_decide_eq_true (by first | (with_reducible assumption) | assumption)
     obtain ⟨ad1597, e1597, hx1597_0⟩ := Kd.at_int HR2.out x12_1 p1597 q1597
     cases e1597
     replace p1597 := eq_true p1597
     replace q1597 := eq_true q1597
     go_wp2_with (first | ((with_reducible refine gtc 59 rfl ?_); refine zgL 44 Try.func59 (flyballref04_Cmp.calls k1 t1594 (rd l2 x12_1) t1598 false _ A10.out) (h := ?_); rintro w' ⟨nd, rfl⟩) | ((with_reducible refine gtc 59 rfl ?_); refine zgL 50 Try.func59 (flyballref04_Cmp.calls k1 (rd l2 x12_1) x11_1 t1600 t1601 _ A11.out) (h := ?_); rintro w' ⟨nd, rfl⟩))
     go_roundg k1
     case measure => have := HK1.out; omega
     case rel => exact ⟨(x11_1), (wrap64 (x12_1 + 1)), zrl, zrl, H', ⟨by have := HK1.out; omega⟩, by repeat (first | exact Drawn0.refl _ | apply Drawn0.step)⟩
    rw [if_neg c9] at H
    exact absurd H (by simp)
   rw [if_neg c8] at H
   have c8b0 : decide (x12_1 < (l2.length : Int)) = false := decide_eq_false c8
   clear c8
   obtain rfl := Option.some.inj H
   go_wp2
   go_ret
   exact ⟨by first | rfl | (simp; done) | (simp [*]; done), by repeat (first | exact Drawn0.refl _ | apply Drawn0.step)⟩
theorem flyballlaw19_SlipWidens.calls (k : Nat) (a0 : Int) (a1 : Int) (A2 : Option Addr) (c2 : Nat) (l2 : List Int) (r : Bool) (w : World) (hr2 : Kd.C (Kd.int .u64) w A2 l2.length l2) (hc2 : l2.length ≤ c2) (h : flyballlaw19_SlipWidens.f k a0 a1 l2 = some r) (hr_ : r = true) :
  Calls Try.prog 14 #[.int .u64 a0, .int .u64 a1, .slice A2 l2.length c2] w fun e w' => e = .returned (.bool r) ∧ Below w.heap.size w w' := by
 have HR2 := Aside0.mk hr2
 have HC2 := Aside0.mk hc2
 clear hr2 hc2
 have HB := Aside0.mk (Below.refl w.heap.size w)
 have H := h
 unfold flyballlaw19_SlipWidens.f at H
 clear h
 obtain ⟨t1602, A4, H⟩ := zbs H
 try dsimp only at H
 by_cases c5 : t1602 = true
 ·subst c5
  replace H := zit H
  by_cases c6 : (l2.length : Int) > 200
  ·rw [if_pos c6] at H
   have c6b0 : decide (200 < (l2.length : Int)) = true := decide_eq_true c6
   have c6b1 : decide (200 < l2.length) = true := decide_eq_true (by omega)
   clear c6
   obtain rfl := Option.some.inj H
   go_enter Try.func14, Try.ntmps14
   go_wp2_with (first | ((with_reducible refine gtc 57 rfl ?_); refine zgL 15 Try.func57 (flyballlaw19_works.calls k  true _ A4.out rfl) (h := ?_); rintro w7 hb; replace HB := Aside0.mk (below_step zaB hb); (try clear hb)))
   go_ret
   exact ⟨zaE, zaB⟩
  rw [if_neg c6] at H
  have c6b0 : decide (200 < (l2.length : Int)) = false := decide_eq_false c6
  have c6b1 : decide (200 < l2.length) = false := decide_eq_false (by omega)
  clear c6
  have H' := Aside0.mk H
  clear H
  go_enter Try.func14, Try.ntmps14
  go_wp2_with (first | ((with_reducible refine gtc 57 rfl ?_); refine zgL 15 Try.func57 (flyballlaw19_works.calls k  true _ A4.out rfl) (h := ?_); rintro w8 hb; replace HB := Aside0.mk (below_step zaB hb); (try clear hb)))
  (try simp only [Act.put, List.setIfInBounds_toArray, List.set_cons_zero, List.set_cons_succ])
  go_loopg [8, 9] k (fun kq v8 v9 w' => ∃ (x8_1 : Int) (x9_1 : Int), v8 = .int .u64 x8_1 ∧ v9 = .int .i64 x9_1 ∧ Aside0 (flyballlaw19_SlipWidens.l0 kq a0 a1 l2 true x8_1 x9_1 = some r) ∧ Aside0 (kq ≤ k) ∧ Aside0 (Below w.heap.size w w'))
  case atStart => exact ⟨(0), (0), zrl, zrl, H', ⟨Nat.le_refl _⟩, ⟨zaB⟩⟩
  case round =>
   clear H'
   try clear c6b0
   try clear c6b1
   obtain ⟨x8_1, x9_1, rfl, rfl, HA, HK1, HB⟩ := hrel
   cases gk with
   | zero => exact absurd HA.out (by simp [flyballlaw19_SlipWidens.l0])
   | succ k1 =>
    have H := HA.out
    clear HA
    simp only [flyballlaw19_SlipWidens.l0] at H
    by_cases c9 : x9_1 < (l2.length : Int)
    ·rw [if_pos c9] at H
     have c9b0 : decide (x9_1 < (l2.length : Int)) = true := decide_eq_true c9
     clear c9
     by_cases c10 : 0 ≤ x9_1
     ·rw [if_pos c10] at H
      have c10b0 : decide (0 ≤ x9_1) = true := decide_eq_true c10
      clear c10
      obtain ⟨t1604, A11, H⟩ := zbs H
      try dsimp only at H
      obtain ⟨⟨t1605, t1606⟩, A12, H⟩ := zbs H
      try dsimp only at H
      by_cases c13 : t1605 > 0
      ·rw [if_pos c13] at H
       have c13b0 : decide (0 < t1605) = true := decide_eq_true c13
       clear c13
       have H' := Aside0.mk H
       clear H
       have p1603 : 0 ≤ (x9_1 : Int) := of_decide_eq_true (by first | (with_reducible assumption) | assumption)
       have q1603 : x9_1 < (l2.length : Int) := of_decide_eq_true (by first | (with_reducible assumption) | assumption)
       obtain ⟨ad1603, e1603, hx1603_0⟩ := Kd.at_int HR2.out x9_1 p1603 q1603
       cases e1603
       replace hx1603_0 := (HB.out.cell (World.block_lt_of_cell? w _ hx1603_0)).trans hx1603_0
       replace p1603 := eq_true p1603
       replace q1603 := eq_true q1603
       go_wp2_with (first | ((with_reducible refine gtc 58 rfl ?_); refine zgL 32 Try.func58 (flyballref19_Good.calls k1 (rd l2 x9_1) t1604 _ A11.out) (h := ?_); rintro w' ⟨nd, rfl⟩) | ((with_reducible refine gtc 59 rfl ?_); refine zgL 36 Try.func59 (flyballref04_Cmp.calls k1 t1604 x8_1 t1605 t1606 _ A12.out) (h := ?_); rintro w' ⟨nd, rfl⟩))
       go_roundg k1
       case measure => have := HK1.out; omega
       case rel => exact ⟨(t1604), (wrap64 (x9_1 + 1)), zrl, zrl, H', ⟨by have := HK1.out; omega⟩, ⟨zaB⟩⟩
      rw [if_neg c13] at H
      have c13b0 : decide (0 < t1605) = false := decide_eq_false c13
      clear c13
      have H' := Aside0.mk H
      clear H
      have p1603 : 0 ≤ (x9_1 : Int) := of_decide_eq_true (by first | (with_reducible assumption) | assumption)
      have q1603 : x9_1 < (l2.length : Int) := of_decide_eq_true (by first | (with_reducible assumption) | assumption)
      obtain ⟨ad1603, e1603, hx1603_0⟩ := Kd.at_int HR2.out x9_1 p1603 q1603
      cases e1603
      replace hx1603_0 := (HB.out.cell (World.block_lt_of_cell? w _ hx1603_0)).trans hx1603_0
      replace p1603 := eq_true p1603
      replace q1603 := eq_true q1603
      go_wp2_with (first | ((with_reducible refine gtc 58 rfl ?_); refine zgL 32 Try.func58 (flyballref19_Good.calls k1 (rd l2 x9_1) t1604 _ A11.out) (h := ?_); rintro w' ⟨nd, rfl⟩) | ((with_reducible refine gtc 59 rfl ?_); refine zgL 36 Try.func59 (flyballref04_Cmp.calls k1 t1604 x8_1 t1605 t1606 _ A12.out) (h := ?_); rintro w' ⟨nd, rfl⟩))
      go_roundg k1
      case measure => have := HK1.out; omega
      case rel => exact ⟨(x8_1), (wrap64 (x9_1 + 1)), zrl, zrl, H', ⟨by have := HK1.out; omega⟩, ⟨zaB⟩⟩
     rw [if_neg c10] at H
     exact absurd H (by simp)
    rw [if_neg c9] at H
    have c9b0 : decide (x9_1 < (l2.length : Int)) = false := decide_eq_false c9
    clear c9
    obtain ⟨t1607, A14, H⟩ := zbs H
    try dsimp only at H
    obtain ⟨t1608, A15, H⟩ := zbs H
    try dsimp only at H
    obtain ⟨t1609, A16, H⟩ := zbs H
    try dsimp only at H
    by_cases c17 : t1609 = true
    ·subst c17
     replace H := zit H
     by_cases c18 : true = true
     ·skip
      have H1 : ((flyballref19_Widen.f k1 a0 a1 l2).bind fun t1610 => (if t1607 = t1610 then (some false) else (some false))) = some r := by first | (rw [if_pos rfl] at H; exact H) | (rw [if_pos trivial] at H; exact H)
      clear H
      have H := H1
      clear H1
      obtain ⟨t1610, A19, H⟩ := zbs H
      try dsimp only at H
      by_cases c20 : t1607 = t1610
      ·rw [if_pos c20] at H
       have c20b0 : (t1607 == t1610) = true := beq_iff_eq.mpr c20
       have c20b1 : (t1607 != t1610) = false := bne_eq_false_iff_eq.mpr c20
       clear c20
       subst hr_
       cases H
      rw [if_neg c20] at H
      have c20b0 : (t1607 == t1610) = false := beq_eq_false_iff_ne.mpr c20
      have c20b1 : (t1607 != t1610) = true := bne_iff_ne.mpr c20
      subst hr_
      cases H
     exact absurd rfl c18
    replace c17 := Bool.eq_false_iff.mpr c17
    subst c17
    replace H := zif H
    obtain ⟨t1611, A21, H⟩ := zbs H
    try dsimp only at H
    obtain ⟨t1612, A22, H⟩ := zbs H
    try dsimp only at H
    by_cases c23 : true = true
    ·skip
     have H1 : ((flyballref19_Widen.f k1 a0 a1 l2).bind fun t1613 => (if t1607 = t1613 then (if t1612 = true then (some false) else ((slip_Join.f k1 l2).bind fun t1614 => (some (t1614 == x8_1)))) else (some false))) = some r := by first | (rw [if_pos rfl] at H; exact H) | (rw [if_pos trivial] at H; exact H)
     clear H
     have H := H1
     clear H1
     obtain ⟨t1613, A24, H⟩ := zbs H
     try dsimp only at H
     by_cases c25 : t1607 = t1613
     ·rw [if_pos c25] at H
      have c25b0 : (t1607 == t1613) = true := beq_iff_eq.mpr c25
      have c25b1 : (t1607 != t1613) = false := bne_eq_false_iff_eq.mpr c25
      clear c25
      by_cases c26 : t1612 = true
      ·subst c26
       replace H := zit H
       subst hr_
       cases H
      replace c26 := Bool.eq_false_iff.mpr c26
      subst c26
      replace H := zif H
      obtain ⟨t1614, A27, H⟩ := zbs H
      try dsimp only at H
      obtain rfl := Option.some.inj H
      go_wp2_with (first | ((with_reducible refine gtc 60 rfl ?_); refine goesL_ (some 45) rfl rfl Try.func60 (by kernel_rfl) rfl #[.int .u64 a0, .int .u64 a1, .slice A2 l2.length c2] rfl (by (try simp only [List.map_toArray, List.map_cons, List.map_nil]); first | done | rfl | (simp only [List.length_drop, List.length_take]; rfl)) ?_; (with_reducible refine (slip_Widen.calls k1 a0 a1 _ _ l2 t1607 _ ?side1 ?side2 A14.out).mono ?_); (case side1 => repeat (first | exact (Kd.C_below HR2.out HB.out) | (with_reducible refine Kd.C_alloc ?_ _) | (with_reducible refine Kd.C_drewN ?_ _) | (with_reducible refine Kd.C_drew ?_))); (case side2 => exact HC2.out); rintro e w' ⟨rfl, ⟨nd, rfl⟩⟩; refine ⟨_, rfl, ?_⟩) | ((with_reducible refine gtc 61 rfl ?_); refine zgL 48 Try.func61 (slip_Good.calls k1 a1 t1608 _ A15.out) (h := ?_); rintro w' ⟨nd, rfl⟩) | ((with_reducible refine gtc 34 rfl ?_); refine zgL 49 Try.func34 (pattern_Less.calls k1 t1607 t1608 false _ A16.out) (h := ?_); rintro w' ⟨nd, rfl⟩) | (go_at_call 61; (with_reducible refine (slip_Good.calls k1 a0 t1611 _ A21.out).mono ?_); rintro e w' ⟨rfl, ⟨nd, rfl⟩⟩) | (go_at_call 34; (with_reducible refine (pattern_Less.calls k1 t1607 t1611 false _ A22.out).mono ?_); rintro e w' ⟨rfl, ⟨nd, rfl⟩⟩) | (go_at_call 62; (with_reducible refine (flyballref19_Widen.calls k1 a0 a1 _ _ l2 t1613 _ ?side1 ?side2 A24.out).mono ?_); (case side1 => repeat (first | exact (Kd.C_below HR2.out zaB) | (with_reducible refine Kd.C_alloc ?_ _) | (with_reducible refine Kd.C_drewN ?_ _) | (with_reducible refine Kd.C_drew ?_))); (case side2 => exact HC2.out); rintro e w' ⟨rfl, ⟨nd, rfl⟩⟩) | (go_at_call 63; (with_reducible refine (slip_Join.calls k1 _ _ l2 t1614 _ ?side1 ?side2 A27.out).mono ?_); (case side1 => repeat (first | exact (Kd.C_below HR2.out zaB) | (with_reducible refine Kd.C_alloc ?_ _) | (with_reducible refine Kd.C_drewN ?_ _) | (with_reducible refine Kd.C_drew ?_))); (case side2 => exact HC2.out); rintro e w28 ⟨rfl, hb⟩; replace HB := Aside0.mk (below_step zaB hb); (try clear hb)))
      go_ret
      exact ⟨zaE, zaB⟩
     rw [if_neg c25] at H
     have c25b0 : (t1607 == t1613) = false := beq_eq_false_iff_ne.mpr c25
     have c25b1 : (t1607 != t1613) = true := bne_iff_ne.mpr c25
     subst hr_
     cases H
    exact absurd rfl c23
 replace c5 := Bool.eq_false_iff.mpr c5
 subst c5
 replace H := zif H
 subst hr_
 cases H
theorem flyballlaw19_SlipWidens.walk (P : flyballlaw19_SlipWidens.Pure) (a0 : Int) (a1 : Int) (a2 : Option Addr) (len2 cap2 : Nat) (z2 : List Int) (w : World) (w0 : (Lit.int .u64 a0).wf = true) (w1 : (Lit.int .u64 a1).wf = true) (w2 : (a2 = none ∧ len2 = 0 ∧ cap2 = 0 ∧ z2 = []) ∨ ∃ x, a2 = some x ∧ len2 ≤ cap2 ∧ cap2 ≤ maxLen ∧ z2.length = cap2 ∧ (∀ i, i < z2.length → w.cell? (x.add i) = some (.int .u64 (z2.getD i 0))) ∧ ∀ n ∈ z2, (Lit.int .u64 n).wf = true) (y2 : len2 * 8 ≤ 140737488351232) :
  Calls Try.prog 14 #[.int .u64 a0, .int .u64 a1, .slice a2 len2 cap2] w fun e w' => e = .returned (.bool true) ∧ Below w.heap.size w w' := by
 obtain ⟨l2, rfl, hr2, hm2, hw2, hc2⟩ := ReadsInt.ofRowC w2
 obtain ⟨k, h⟩ := P a0 a1 l2 w0 w1 hm2 y2 hw2
 refine (flyballlaw19_SlipWidens.calls k a0 a1 _ _ l2 true w (Kd.C_of_reads (d := (0 : Int)) (h1 := fun _ => rfl) hr2) hc2 h rfl).mono ?_
 rintro e w' ⟨rfl, hd⟩
 exact ⟨rfl, hd⟩
end Go.Proofs.Ytmadjhmecfbcmaa.F
end
section
namespace Go.Proofs.Ytmadjhmecfbcmaa.M
open Go.RowKit Go.Proofs.YtmadjhmecfbcmaaW.PrintWords Go.Proofs.YtmadjhmecfbcmaaW.PrintLast Go.Proofs.YtmadjhmecfbcmaaW.PrintMore Go.Proofs.Ytmadjhmecfbcmaa.F
def sgn (a : Nat) : Bool := a / 9223372036854775808 == 1
def ex (a : Nat) : Nat := a / 4503599627370496 % 2048
def fr (a : Nat) : Nat := a % 4503599627370496
def cls (a : Nat) : Nat := if ex a = 2047 then (if fr a = 0 then 3 else 4) else if ex a = 0 then (if fr a = 0 then 0 else 1) else 2
def spm (a : Nat) : Nat := if cls a = 2 then 4503599627370496 + fr a else if cls a = 1 then fr a else 0
def spe (a : Nat) : Int := if cls a = 2 then (ex a : Int) - 1075 else if cls a = 1 then -1074 else 0
def key (a : Nat) : Nat := a % 9223372036854775808
def U (a : Nat) : Prop := a < 18446744073709551616
theorem sgn_cast (a : Nat) : ((a : Int) / 9223372036854775808 == 1) = sgn a := by
 unfold sgn
 rw [Bool.eq_iff_iff, beq_iff_eq, beq_iff_eq]; omega
theorem ex_lt (a : Nat) : ex a < 2048 := by unfold ex; omega
theorem fr_lt (a : Nat) : fr a < 4503599627370496 := by unfold fr; omega
theorem key_lt (a : Nat) : key a < 9223372036854775808 := by unfold key; omega
theorem key_parts' (a : Nat) : key a = ex a * 4503599627370496 + fr a := by unfold key ex fr; omega
theorem a_parts (a : Nat) (h : U a) : a = sg (sgn a) + key a := by
 unfold sg sgn key U at *
 by_cases e : a / 9223372036854775808 = 1
 ·rw [beq_iff_eq.2 e, if_pos rfl]; omega
 ·rw [beq_eq_false_iff_ne.2 e, if_neg (by simp)]; omega
theorem Parts_ok (a : Nat) (h : U a) : pattern_Parts.f (a : Int) = some (sgn a, (ex a : Int), (fr a : Int)) := by
 unfold pattern_Parts.f U at *
 rw [sgn_cast, show (a : Int) / 4503599627370496 = ((a / 4503599627370496 : Nat) : Int) from by omega, and_2047 _ (by omega), and_52 _ h, w64 (by omega) (by omega)]
 rfl
theorem ref_Parts_ok (a : Nat) (h : U a) : flyballref04_Parts.f (a : Int) = some (sgn a, (ex a : Int), (fr a : Int)) := by
 unfold flyballref04_Parts.f U at *
 have e1 : Int.tdiv (a : Int) 9223372036854775808 = (a : Int) / 9223372036854775808 := Int.tdiv_eq_ediv_of_nonneg (by omega)
 have e2 : Int.tdiv (a : Int) 4503599627370496 = (a : Int) / 4503599627370496 := Int.tdiv_eq_ediv_of_nonneg (by omega)
 have e3 : Int.tmod (a : Int) 4503599627370496 = (a : Int) % 4503599627370496 := Int.tmod_eq_emod_of_nonneg (by omega)
 rw [e1, e2, e3, wu64 (by omega) (by omega), wu64 (by omega) (by omega), sgn_cast, Int.tmod_eq_emod_of_nonneg (by omega), w64 (by omega) (by omega)]
 unfold ex fr
 congr 3
theorem Class_ev (a : Nat) (h : U a) : Ev (fun k => pattern_Class.f k (a : Int)) (cls a : Int) := by
 refine Ev.later 2 fun k => ?_
 unfold pattern_Class.f
 rw [bind_of _ (Parts_ok a h)]
 dsimp only
 have e1 : ((fr a : Int) == 0) = decide (fr a = 0) := by rw [Bool.eq_iff_iff]; simp
 rw [e1]
 unfold cls
 by_cases c1 : ex a = 2047
 ·rw [if_pos (by omega), if_pos c1]
  by_cases c2 : fr a = 0
  ·simp [pattern_Class.j0, c2]
  ·simp [pattern_Class.j0, c2, c1]
 ·rw [if_neg (by omega), if_neg c1]
  by_cases c3 : ex a = 0
  ·by_cases c2 : fr a = 0
   ·simp [pattern_Class.j0, pattern_Class.j1, c2, c3]
   ·simp [pattern_Class.j0, pattern_Class.j1, c2, c3]
  ·have : ¬ ((ex a : Int) = 2047) := by omega
   simp [pattern_Class.j0, pattern_Class.j1, this, c3]
theorem ref_Class_ev (a : Nat) (h : U a) : Ev (fun k => flyballref04_Class.f k (a : Int)) (cls a : Int) := by
 refine Ev.later 2 fun k => ?_
 unfold flyballref04_Class.f
 rw [bind_of _ (ref_Parts_ok a h)]
 dsimp only
 have e1 : ((fr a : Int) == 0) = decide (fr a = 0) := by rw [Bool.eq_iff_iff]; simp
 rw [e1]
 unfold cls
 by_cases c1 : ex a = 2047
 ·rw [if_pos (by omega), if_pos c1]
  by_cases c2 : fr a = 0
  ·simp [flyballref04_Class.j0, c2]
  ·simp [flyballref04_Class.j0, c2, c1]
 ·rw [if_neg (by omega), if_neg c1]
  by_cases c3 : ex a = 0
  ·by_cases c2 : fr a = 0
   ·simp [flyballref04_Class.j0, flyballref04_Class.j1, c2, c3]
   ·simp [flyballref04_Class.j0, flyballref04_Class.j1, c2, c3]
  ·have : ¬ ((ex a : Int) = 2047) := by omega
   simp [flyballref04_Class.j0, flyballref04_Class.j1, this, c3]
theorem cls_le (a : Nat) : cls a ≤ 4 := by unfold cls; (repeat' split) <;> omega
theorem spm_lt (a : Nat) : spm a < 9007199254740992 := by have := fr_lt a; unfold spm; (repeat' split) <;> omega
theorem spe_bd (a : Nat) : -1074 ≤ spe a ∧ spe a ≤ 971 := by
 unfold spe
 split
 ·rename_i h
  have := ex_lt a
  have : 1 ≤ ex a ∧ ex a ≠ 2047 := by unfold cls at h; (repeat' split at h) <;> first | omega | (refine ⟨by omega, by omega⟩)
  omega
 ·split <;> omega
theorem split_mn (a : Nat) : (if (cls a : Int) = 2 then (some ((4503599627370496 : Int) + (fr a : Int), (ex a : Int) - 1075)) else (if (cls a : Int) = 1 then (some ((fr a : Int), (-1074 : Int))) else (some (0, 0)))) = some ((spm a : Int), spe a) := by
 unfold spm spe
 by_cases c1 : cls a = 2
 ·simp only [c1, if_true]; rw [Int.natCast_add]; rfl
 ·have h1 : ¬ (cls a : Int) = 2 := by omega
  by_cases c2 : cls a = 1
  ·have h2 : (cls a : Int) = 1 := by omega
   rw [if_neg h1, if_pos h2, if_neg c1, if_neg c1, if_pos c2, if_pos c2]
  ·have h2 : ¬ (cls a : Int) = 1 := by omega
   rw [if_neg h1, if_neg h2, if_neg c1, if_neg c1, if_neg c2, if_neg c2]; rfl
theorem Split_ev (a : Nat) (h : U a) : Ev (fun k => pattern_Split.f k (a : Int)) ((spm a : Int), spe a) := by
 unfold pattern_Split.f
 refine Ev.b _ (Ev.const (Parts_ok a h)) (Ev.b _ (Class_ev a h) (Ev.const ?_))
 dsimp only
 have h1 := fr_lt a
 have h2 := ex_lt a
 have e1 : bits .or .u64 4503599627370496 (fr a : Int) = 4503599627370496 + (fr a : Int) := by
  have := or_join 4503599627370496 (fr a) 52 (by decide) (by omega) (by decide) (by omega)
  rw [Int.natCast_add] at this; exact this
 have e2 : wrap64 ((ex a : Int) - 1075) = (ex a : Int) - 1075 := w64 (by omega) (by omega)
 refine Eq.trans ?_ (split_mn a)
 rw [e1, e2]
theorem of_ev (a : Nat) (h : U a) : Ev (fun k => soft_of.f k (a : Int)) ((a : Int), (cls a : Int), sgn a, (spm a : Int), spe a) := by
 unfold soft_of.f
 refine Ev.b _ (Split_ev a h) (Ev.b _ (Class_ev a h) (Ev.const ?_))
 rw [sgn_cast]
def mk (neg : Bool) (e f : Nat) : Nat := sg neg + (e * 4503599627370496 + f)
theorem Make_ev (neg : Bool) (e f : Nat) (he : e ≤ 2047) (hf : f < 4503599627370496) : Ev (fun k => pattern_Make.f k neg (e : Int) (f : Int)) ((mk neg e f : Int), 0) := by
 refine Ev.later 1 fun k => ?_
 unfold pattern_Make.f
 rw [if_neg (by omega), if_neg (by omega), decide_eq_false (by omega)]
 simp only [pattern_Make.j0]
 rw [if_neg (by simp), wu64 (n := (e : Int)) (by omega) (by omega), wu64 (n := (e : Int) * 4503599627370496) (by omega) (by omega)]
 rw [show (e : Int) * 4503599627370496 = ((e * 4503599627370496 : Nat) : Int) from by omega]
 rw [or_join (e * 4503599627370496) f 52 (by omega) hf (by omega) (by omega)]
 unfold mk sg
 cases neg
 ·rw [if_neg (by simp)]; simp
 ·rw [if_pos rfl, show (9223372036854775808 : Int) = ((9223372036854775808 : Nat) : Int) from rfl, or_join' 9223372036854775808 _ 63 (by decide) (by omega) (by decide) (by omega)]
  simp
theorem zero_ev (neg : Bool) : Ev (fun k => soft_zero.f k neg) (sg neg : Int) := by
 unfold soft_zero.f
 exact Ev.b _ (Make_ev neg 0 0 (by omega) (by omega)) (Ev.now _)
theorem Inf_ev (neg : Bool) : Ev (fun k => pattern_Inf.f k neg) ((sg neg + 9218868437227405312 : Nat) : Int) := by
 unfold pattern_Inf.f
 exact Ev.b _ (Make_ev neg 2047 0 (by omega) (by omega)) (Ev.now _)
theorem nan_ev (a : Nat) (h : U a) : Ev (fun k => pattern_nan.f k (a : Int)) (decide (cls a = 4)) := by
 unfold pattern_nan.f
 refine Ev.b _ (Class_ev a h) (Ev.const ?_)
 congr 1; rw [Bool.eq_iff_iff, beq_iff_eq, decide_eq_true_iff]; omega
theorem flip_U (a : Nat) (h : U a) : U (flip a) := by unfold U flip at *; split <;> omega
def ng (a : Nat) : Nat := if cls a = 4 then a else flip a
theorem ng_U (a : Nat) (h : U a) : U (ng a) := by unfold ng; split; exact h; exact flip_U a h
theorem Neg_ev (a : Nat) (h : U a) : Ev (fun k => pattern_Neg.f k (a : Int)) (ng a : Int) := by
 unfold pattern_Neg.f
 refine Ev.b _ (nan_ev a h) (Ev.const ?_)
 unfold ng
 by_cases c : cls a = 4
 ·rw [decide_eq_true c, if_pos rfl, if_pos c]
 ·rw [decide_eq_false c, if_neg (by simp), if_neg c, xor_sign a h]
end Go.Proofs.Ytmadjhmecfbcmaa.M
end
section
namespace Go.Proofs.Ytmadjhmecfbcmaa.M
open Go.RowKit Go.Proofs.YtmadjhmecfbcmaaW.PrintWords Go.Proofs.YtmadjhmecfbcmaaW.PrintLast Go.Proofs.YtmadjhmecfbcmaaW.PrintMore Go.Proofs.Ytmadjhmecfbcmaa.F
theorem mod_mul_add (x B d : Nat) (hd : d < B) : (x * B + d) % (B * B) = x % B * B + d := by
 have h1 := Nat.div_add_mod x B
 have hB : 0 < B := by omega
 have h2 : x * B + d = (x % B * B + d) + (B * B) * (x / B) := by
  have : x * B = (B * (x / B) + x % B) * B := by rw [h1]
  rw [this, Nat.add_mul]; grind
 rw [h2, Nat.add_mul_mod_self_left]
 apply Nat.mod_eq_of_lt
 have : x % B + 1 ≤ B := Nat.mod_lt x hB
 have : (x % B + 1) * B ≤ B * B := Nat.mul_le_mul_right B this
 rw [Nat.add_mul] at this; omega
theorem mul_mod_join (hi c B P Q : Nat) (hPQ : P * Q = B) (hQ : 0 < Q) (hc : c < P) : (hi * P + c) % B = hi * P % B + c := by
 have e : hi * P % B = hi % Q * P := by
  rw [← hPQ, Nat.mul_comm hi P, Nat.mul_mod_mul_left, Nat.mul_comm]
 have h1 := Nat.div_add_mod hi Q
 have h2 : hi * P + c = (hi % Q * P + c) + B * (hi / Q) := by
  have : hi * P = (Q * (hi / Q) + hi % Q) * P := by rw [h1]
  rw [this, ← hPQ]; grind
 rw [h2, Nat.add_mul_mod_self_left, e]
 apply Nat.mod_eq_of_lt
 have : hi % Q + 1 ≤ Q := Nat.mod_lt hi hQ
 have : (hi % Q + 1) * P ≤ Q * P := Nat.mul_le_mul_right P this
 rw [Nat.add_mul, Nat.mul_comm Q P] at this; omega
def tw (V : Nat) : Int × Int := (((V / 18446744073709551616 : Nat) : Int), ((V % 18446744073709551616 : Nat) : Int))
theorem tw_join (q d : Nat) (h : d < 18446744073709551616) : tw (q * 18446744073709551616 + d) = ((q : Int), (d : Int)) := by
 rw [tw, show (q * 18446744073709551616 + d) / 18446744073709551616 = q by omega, show (q * 18446744073709551616 + d) % 18446744073709551616 = d by omega]
theorem shl_arith (hi lo n : Nat) (h1 : lo < 18446744073709551616) (hn : n < 64) :
  (hi * 18446744073709551616 + lo) * 2 ^ n % (18446744073709551616 * 18446744073709551616) =
   (hi * 2 ^ n % 18446744073709551616 + lo / 2 ^ (64 - n)) * 18446744073709551616 + lo * 2 ^ n % 18446744073709551616 := by
 have hPQ : 2 ^ n * 2 ^ (64 - n) = 18446744073709551616 := by rw [← Nat.pow_add, show n + (64 - n) = 64 by omega]
 have hc : lo * 2 ^ n / 18446744073709551616 = lo / 2 ^ (64 - n) := by
  rw [← hPQ, Nat.mul_comm lo, Nat.mul_div_mul_left _ _ (two_pos n)]
 have hc2 : lo / 2 ^ (64 - n) < 2 ^ n := by rw [Nat.div_lt_iff_lt_mul (two_pos _), hPQ]; exact h1
 have h2 := Nat.div_add_mod (lo * 2 ^ n) 18446744073709551616
 have e : (hi * 18446744073709551616 + lo) * 2 ^ n = (hi * 2 ^ n + lo / 2 ^ (64 - n)) * 18446744073709551616 + lo * 2 ^ n % 18446744073709551616 := by
  rw [← hc, Nat.add_mul, Nat.add_mul, Nat.mul_right_comm]; omega
 rw [e, mod_mul_add _ _ _ (Nat.mod_lt _ (by decide)), mul_mod_join _ _ _ _ _ hPQ (two_pos _) hc2]
theorem Shl_ev (n : Nat) : ∀ (hi lo : Nat), hi < 18446744073709551616 → lo < 18446744073709551616 → n < 1000000 →
  Ev (fun k => wide_U128_Shl.l0 k (n : Int) (hi : Int) (lo : Int)) (tw ((hi * 18446744073709551616 + lo) * 2 ^ n % (18446744073709551616 * 18446744073709551616))) := by
 induction n using Nat.strongRecOn with
 | _ n ih =>
 intro hi lo hhi hlo hn
 refine Ev.next ?_
 simp only [wide_U128_Shl.l0]
 by_cases c : 64 ≤ n
 ·have hB : 2 ^ n = 18446744073709551616 * 2 ^ (n - 64) := by rw [← show 64 + (n - 64) = n by omega, Nat.pow_add, show 64 + (n - 64) - 64 = n - 64 by omega]
  have e : (hi * 18446744073709551616 + lo) * 2 ^ n % (18446744073709551616 * 18446744073709551616) = (lo * 18446744073709551616 + 0) * 2 ^ (n - 64) % (18446744073709551616 * 18446744073709551616) := by
   have : (hi * 18446744073709551616 + lo) * 2 ^ n = (lo * 18446744073709551616 + 0) * 2 ^ (n - 64) + (18446744073709551616 * 18446744073709551616) * (hi * 2 ^ (n - 64)) := by rw [hB]; grind
   rw [this, Nat.add_mul_mod_self_left]
  rw [e]
  by_cases z : lo = 0
  ·subst z
   refine Ev.all fun k => ?_
   rw [if_pos (by omega), if_pos (by rfl)]
   simp [tw]
  ·have := ih (n - 64) (by omega) lo 0 hlo (by omega) (by omega)
   refine Ev.congr (fun k => ?_) this
   have z' : ¬ ((lo : Int) == 0) = true := by rw [beq_iff_eq]; omega
   rw [if_pos (by omega), if_neg z', w64 (by omega) (by omega), show (n : Int) - 64 = ((n - 64 : Nat) : Int) from by omega]; rfl
 ·refine Ev.all fun k => ?_
  rw [if_neg (by omega)]
  by_cases z : n = 0
  ·subst z
   rw [if_pos (by omega)]
   have : (hi * 18446744073709551616 + lo) * 2 ^ 0 % (18446744073709551616 * 18446744073709551616) = hi * 18446744073709551616 + lo := by omega
   rw [this, tw, show (hi * 18446744073709551616 + lo) / 18446744073709551616 = hi by omega, show (hi * 18446744073709551616 + lo) % 18446744073709551616 = lo by omega]
  ·rw [if_neg (by omega), if_pos (by omega), w64 (by omega) (by omega), if_pos (by omega), shl_arith hi lo n hlo (by omega)]
   rw [show (64 : Int) - (n : Int) = ((64 - n : Nat) : Int) from by omega, shl_nat _ _ (by omega), shl_nat _ _ (by omega), shr_nat _ _ (by omega)]
   have hPQ : 2 ^ n * 2 ^ (64 - n) = 18446744073709551616 := by rw [← Nat.pow_add, show n + (64 - n) = 64 by omega]
   have hc2 : lo / 2 ^ (64 - n) < 2 ^ n := by rw [Nat.div_lt_iff_lt_mul (two_pos _), hPQ]; exact hlo
   have hm : hi * 2 ^ n % 18446744073709551616 % 2 ^ n = 0 := by
    rw [← hPQ, Nat.mul_comm hi, Nat.mul_mod_mul_left, Nat.mul_mod_right]
   have hl : lo / 2 ^ (64 - n) ≤ lo := Nat.div_le_self _ _
   have hlt : hi * 2 ^ n % 18446744073709551616 + lo / 2 ^ (64 - n) < 18446744073709551616 := by
    have := mul_mod_join hi (lo / 2 ^ (64 - n)) 18446744073709551616 (2 ^ n) (2 ^ (64 - n)) hPQ (two_pos _) hc2
    rw [← this]; exact Nat.mod_lt _ (by decide)
   rw [or_join _ _ n (Nat.mod_lt _ (by decide)) hc2 hm (by omega)]
   have hd : lo * 2 ^ n % 18446744073709551616 < 18446744073709551616 := Nat.mod_lt _ (by decide)
   generalize lo * 2 ^ n % 18446744073709551616 = d at *
   generalize hi * 2 ^ n % 18446744073709551616 + lo / 2 ^ (64 - n) = q at *
   rw [tw_join q d hd]
theorem U128_Shl (hi lo n : Nat) (h1 : hi < 18446744073709551616) (h2 : lo < 18446744073709551616) (hn : n < 1000000) :
  Ev (fun k => wide_U128_Shl.f k (hi : Int) (lo : Int) (n : Int)) (tw ((hi * 18446744073709551616 + lo) * 2 ^ n % (18446744073709551616 * 18446744073709551616))) := Shl_ev n hi lo h1 h2 hn
theorem shr_arith (hi lo n : Nat) (hlo : lo < 18446744073709551616) (h0 : 0 < n) (hn : n < 64) :
  (hi * 18446744073709551616 + lo) / 2 ^ n = hi / 2 ^ n * 18446744073709551616 + (hi * 2 ^ (64 - n) % 18446744073709551616 + lo / 2 ^ n) ∧
  (hi * 18446744073709551616 + lo) % 2 ^ n = lo % 2 ^ n ∧ hi * 2 ^ (64 - n) % 18446744073709551616 % 2 ^ (64 - n) = 0 ∧ lo / 2 ^ n < 2 ^ (64 - n) ∧
  hi * 2 ^ (64 - n) % 18446744073709551616 + lo / 2 ^ n < 18446744073709551616 ∧ (lo * 2 ^ (64 - n) % 18446744073709551616 = 0 ↔ lo % 2 ^ n = 0) := by
 have hPQ : 2 ^ n * 2 ^ (64 - n) = 18446744073709551616 := by rw [← Nat.pow_add, show n + (64 - n) = 64 by omega]
 have hQP : 2 ^ (64 - n) * 2 ^ n = 18446744073709551616 := by rw [Nat.mul_comm]; exact hPQ
 have hc2 : lo / 2 ^ n < 2 ^ (64 - n) := by rw [Nat.div_lt_iff_lt_mul (two_pos _), hQP]; exact hlo
 have p1 := two_pos n
 have p2 := two_pos (64 - n)
 have h4 : hi * 2 ^ (64 - n) % 18446744073709551616 = hi % 2 ^ n * 2 ^ (64 - n) := by
  rw [← hQP, Nat.mul_comm hi, Nat.mul_mod_mul_left, Nat.mul_comm]
 have h5 : lo * 2 ^ (64 - n) % 18446744073709551616 = lo % 2 ^ n * 2 ^ (64 - n) := by
  rw [← hQP, Nat.mul_comm lo, Nat.mul_mod_mul_left, Nat.mul_comm]
 have hx : hi % 2 ^ n < 2 ^ n := Nat.mod_lt _ p1
 refine ⟨?_, ?_, ?_, hc2, ?_, ?_⟩
 ·rw [h4]
  have e : hi * 18446744073709551616 + lo = lo + 2 ^ n * (hi * 2 ^ (64 - n)) := by rw [← hPQ]; grind
  rw [e, Nat.add_mul_div_left _ _ p1]
  have := Nat.div_add_mod hi (2 ^ n)
  have e2 : hi * 2 ^ (64 - n) = hi / 2 ^ n * 18446744073709551616 + hi % 2 ^ n * 2 ^ (64 - n) := by
   rw [← hPQ]
   have : hi * 2 ^ (64 - n) = (2 ^ n * (hi / 2 ^ n) + hi % 2 ^ n) * 2 ^ (64 - n) := by rw [this]
   rw [this]; grind
  rw [e2]; omega
 ·have e : hi * 18446744073709551616 + lo = lo + 2 ^ n * (hi * 2 ^ (64 - n)) := by rw [← hPQ]; grind
  rw [e, Nat.add_mul_mod_self_left]
 ·rw [h4, Nat.mul_mod_left]
 ·rw [h4]
  have h6 : (hi % 2 ^ n + 1) * 2 ^ (64 - n) ≤ 2 ^ n * 2 ^ (64 - n) := Nat.mul_le_mul_right _ hx
  rw [hPQ, Nat.add_mul] at h6; omega
 ·rw [h5]
  constructor
  ·intro h; rcases Nat.mul_eq_zero.1 h with h | h <;> omega
  ·intro h; rw [h, Nat.zero_mul]
theorem Shr_ev (n : Nat) : ∀ (hi lo : Nat) (lost : Bool), hi < 18446744073709551616 → lo < 18446744073709551616 → n < 1000000 →
  Ev (fun k => wide_U128_Shr.l0 k (n : Int) lost (hi : Int) (lo : Int)) ((tw ((hi * 18446744073709551616 + lo) / 2 ^ n)).1, (tw ((hi * 18446744073709551616 + lo) / 2 ^ n)).2, lost || decide ((hi * 18446744073709551616 + lo) % 2 ^ n ≠ 0)) := by
 induction n using Nat.strongRecOn with
 | _ n ih =>
 intro hi lo lost hhi hlo hn
 refine Ev.next ?_
 simp only [wide_U128_Shr.l0]
 by_cases c : 64 ≤ n
 ·have hB : 2 ^ n = 18446744073709551616 * 2 ^ (n - 64) := by rw [← show 64 + (n - 64) = n by omega, Nat.pow_add, show 64 + (n - 64) - 64 = n - 64 by omega]
  have e : (hi * 18446744073709551616 + lo) / 2 ^ n = (0 * 18446744073709551616 + hi) / 2 ^ (n - 64) := by
   rw [hB, ← Nat.div_div_eq_div_mul]; congr 1; omega
  have e2 : (hi * 18446744073709551616 + lo) % 2 ^ n ≠ 0 ↔ lo ≠ 0 ∨ (0 * 18446744073709551616 + hi) % 2 ^ (n - 64) ≠ 0 := by
   rw [hB, Nat.mod_mul, show (hi * 18446744073709551616 + lo) % 18446744073709551616 = lo by omega, show (hi * 18446744073709551616 + lo) / 18446744073709551616 = 0 * 18446744073709551616 + hi by omega]
   have := two_pos (n - 64)
   constructor
   ·intro h; by_cases z : lo = 0
    ·right; intro h2; apply h; rw [h2, z]
    ·exact .inl z
   ·rintro (h | h) h2
    ·omega
    ·apply h; rcases Nat.eq_zero_of_add_eq_zero h2 with ⟨_, h3⟩
     rcases Nat.mul_eq_zero.1 h3 with h4 | h4
     ·cases h4
     ·exact h4
  have l1 : ((lo : Int) != 0) = decide (lo ≠ 0) := by rw [Bool.eq_iff_iff]; simp
  have e3 : (lost || decide ((hi * 18446744073709551616 + lo) % 2 ^ n ≠ 0)) = ((lost || decide (lo ≠ 0)) || decide ((0 * 18446744073709551616 + hi) % 2 ^ (n - 64) ≠ 0)) := by
   rw [Bool.eq_iff_iff]; simp only [Bool.or_eq_true, decide_eq_true_iff, e2]; grind
  rw [e, e3]
  by_cases z : hi = 0
  ·subst z
   refine Ev.all fun k => ?_
   rw [if_pos (by omega)]
   cases lost
   ·rw [if_neg (by simp), if_pos (by rfl), l1]; simp [tw]
   ·rw [if_pos rfl, if_pos (by rfl)]; simp [tw]
  ·have z' : ¬ ((hi : Int) == 0) = true := by rw [beq_iff_eq]; omega
   have hc : (n : Int) - 64 = ((n - 64 : Nat) : Int) := by omega
   cases lost
   ·have := ih (n - 64) (by omega) 0 hi (decide (lo ≠ 0)) (by omega) hhi (by omega)
    refine Ev.congr (fun k => ?_) (by rw [Bool.false_or]; exact this)
    rw [if_pos (by omega), if_neg (by simp), if_neg z', w64 (by omega) (by omega), hc, l1]; rfl
   ·have := ih (n - 64) (by omega) 0 hi true (by omega) hhi (by omega)
    refine Ev.congr (fun k => ?_) (by rw [Bool.true_or]; exact this)
    rw [if_pos (by omega), if_pos rfl, if_neg z', w64 (by omega) (by omega), hc]; rfl
 ·refine Ev.all fun k => ?_
  rw [if_neg (by omega)]
  by_cases z : n = 0
  ·subst z
   rw [if_pos (by omega)]
   have : (hi * 18446744073709551616 + lo) / 2 ^ 0 = hi * 18446744073709551616 + lo := by omega
   rw [this, tw, show (hi * 18446744073709551616 + lo) / 18446744073709551616 = hi by omega, show (hi * 18446744073709551616 + lo) % 18446744073709551616 = lo by omega]
   have : (hi * 18446744073709551616 + lo) % 2 ^ 0 = 0 := by omega
   rw [this]; simp
  ·obtain ⟨a1, a2, a3, a4, a5, a6⟩ := shr_arith hi lo n hlo (by omega) (by omega)
   have hl : lo / 2 ^ n ≤ lo := Nat.div_le_self _ _
   have hd : hi / 2 ^ n ≤ hi := Nat.div_le_self _ _
   rw [if_neg (by omega), if_pos (by omega), w64 (by omega) (by omega), if_pos (by omega)]
   rw [show (64 : Int) - (n : Int) = ((64 - n : Nat) : Int) from by omega, shr_nat _ _ (by omega), shr_nat _ _ (by omega), shl_nat _ _ (by omega), shl_nat _ _ (by omega)]
   rw [or_join' _ _ (64 - n) (Nat.mod_lt _ (by decide)) a4 a3 (by omega), a1, a2]
   have l1 : (((lo * 2 ^ (64 - n) % 18446744073709551616 : Nat) : Int) != 0) = decide (lo % 2 ^ n ≠ 0) := by
    rw [Bool.eq_iff_iff]; simp only [bne_iff_ne, decide_eq_true_iff, Ne, ← a6]; omega
   generalize hi * 2 ^ (64 - n) % 18446744073709551616 + lo / 2 ^ n = d at *
   generalize hi / 2 ^ n = q at *
   rw [tw_join q d a5]
   cases lost
   ·rw [if_neg (by simp), l1]; rfl
   ·rw [if_pos rfl]; rfl
theorem U128_Shr (hi lo n : Nat) (h1 : hi < 18446744073709551616) (h2 : lo < 18446744073709551616) (hn : n < 1000000) :
  Ev (fun k => wide_U128_Shr.f k (hi : Int) (lo : Int) (n : Int)) ((tw ((hi * 18446744073709551616 + lo) / 2 ^ n)).1, (tw ((hi * 18446744073709551616 + lo) / 2 ^ n)).2, decide ((hi * 18446744073709551616 + lo) % 2 ^ n ≠ 0)) := by
 have := Shr_ev n hi lo false h1 h2 hn
 rw [Bool.false_or] at this; exact this
def bl (x : Nat) : Nat := if x = 0 then 0 else x.log2 + 1
theorem Len64_ok (x : Nat) (h : x < 18446744073709551616) : bits_Len64.f (x : Int) = some (bl x : Int) := by
 unfold bits_Len64.f bl
 rw [if_pos (by omega), Int.toNat_natCast]
 split
 ·rename_i e; subst e; rfl
 ·rename_i e; rw [bitLen_log2 x e h]
theorem log2_join (hi lo : Nat) (h : hi ≠ 0) (h2 : lo < 18446744073709551616) : (hi * 18446744073709551616 + lo).log2 = hi.log2 + 64 := by
 have a1 := Nat.log2_self_le h
 have a2 : hi < 2 ^ (hi.log2 + 1) := Nat.lt_log2_self
 have n0 : hi * 18446744073709551616 + lo ≠ 0 := by omega
 have b1 : hi.log2 + 64 ≤ (hi * 18446744073709551616 + lo).log2 := by
  rw [Nat.le_log2 n0, Nat.pow_add]; omega
 have b2 : (hi * 18446744073709551616 + lo).log2 < hi.log2 + 1 + 64 := by
  rw [Nat.log2_lt n0, Nat.pow_add]; omega
 omega
theorem bl_le {x n : Nat} (h : x < 2 ^ n) : bl x ≤ n := by
 unfold bl; split
 ·omega
 ·rename_i e; have := (Nat.log2_lt e).2 h; omega
theorem U128_Len (hi lo : Nat) (h1 : hi < 18446744073709551616) (h2 : lo < 18446744073709551616) :
  wide_U128_Len.f (hi : Int) (lo : Int) = some (bl (hi * 18446744073709551616 + lo) : Int) := by
 unfold wide_U128_Len.f
 by_cases c : hi = 0
 ·subst c
  rw [if_neg (by omega), bind_of _ (Len64_ok lo h2), show 0 * 18446744073709551616 + lo = lo by omega]
 ·rw [if_pos (by omega), bind_of _ (Len64_ok hi h1)]
  have := bl_le (x := hi) (n := 64) h1
  rw [w64 (by omega) (by omega)]
  unfold bl
  rw [if_neg c, if_neg (by omega), log2_join hi lo c h2]; congr 1; omega
end Go.Proofs.Ytmadjhmecfbcmaa.M
end
section
namespace Go.Proofs.Ytmadjhmecfbcmaa.M
open Go.RowKit Go.Proofs.YtmadjhmecfbcmaaW.PrintWords Go.Proofs.YtmadjhmecfbcmaaW.PrintLast Go.Proofs.YtmadjhmecfbcmaaW.PrintMore Go.Proofs.Ytmadjhmecfbcmaa.F
def FN (A : Nat) (e : Int) : Nat := A * 2 ^ (e + 1075).toNat
def FD (B : Nat) (e : Int) : Nat := B * 2 ^ (-(e + 1075)).toNat
def FX (A B : Nat) (e : Int) : Nat := FN A e / FD B e
def FS (A B : Nat) (e : Int) (rest : Bool) : Bool := rest || decide (FN A e % FD B e ≠ 0)
theorem shift_div (m p n : Nat) : m * 2 ^ p / 2 ^ n = if p ≤ n then m / 2 ^ (n - p) else m * 2 ^ (p - n) := by
 split
 ·rename_i h
  have : 2 ^ n = 2 ^ p * 2 ^ (n - p) := by rw [← Nat.pow_add, show p + (n - p) = n by omega]
  rw [this, Nat.mul_comm m, Nat.mul_div_mul_left _ _ (two_pos p)]
 ·rename_i h
  have : 2 ^ p = 2 ^ n * 2 ^ (p - n) := by rw [← Nat.pow_add, show n + (p - n) = p by omega]
  rw [this, Nat.mul_left_comm, Nat.mul_div_cancel_left _ (two_pos n)]
theorem shift_mod (m p n : Nat) : m * 2 ^ p % 2 ^ n = 0 ↔ n ≤ p ∨ m % 2 ^ (n - p) = 0 := by
 by_cases h : n ≤ p
 ·have : 2 ^ p = 2 ^ n * 2 ^ (p - n) := by rw [← Nat.pow_add, show n + (p - n) = p by omega]
  rw [this, Nat.mul_left_comm, Nat.mul_mod_right]; simp [h]
 ·have : 2 ^ n = 2 ^ p * 2 ^ (n - p) := by rw [← Nat.pow_add, show p + (n - p) = n by omega]
  rw [this, Nat.mul_comm m, Nat.mul_mod_mul_left, Nat.mul_eq_zero]
  have := two_pos p
  constructor
  ·rintro (h2 | h2)
   ·omega
   ·exact .inr h2
  ·rintro (h2 | h2)
   ·omega
   ·exact .inr h2
theorem FX_one (m : Nat) (e : Int) : FX m 1 e = m * 2 ^ (e + 1075).toNat / 2 ^ (-(e + 1075)).toNat := by unfold FX FN FD; rw [Nat.one_mul]
theorem FS_one (m : Nat) (e : Int) (r : Bool) : FS m 1 e r = (r || decide (m * 2 ^ (e + 1075).toNat % 2 ^ (-(e + 1075)).toNat ≠ 0)) := by unfold FS FN FD; rw [Nat.one_mul]
theorem bl_bd (m : Nat) (h : m ≠ 0) : 1 ≤ bl m ∧ 2 ^ (bl m - 1) ≤ m ∧ m < 2 ^ bl m := by
 unfold bl; rw [if_neg h]
 exact ⟨by omega, by rw [show m.log2 + 1 - 1 = m.log2 by omega]; exact Nat.log2_self_le h, Nat.lt_log2_self⟩
theorem FX_lt (m : Nat) (e : Int) (n : Nat) (h : (bl m : Int) + e + 1075 ≤ n) (h0 : m ≠ 0) : FX m 1 e < 2 ^ n := by
 have hb := bl_bd m h0
 rw [FX_one, Nat.div_lt_iff_lt_mul (two_pos _), ← Nat.pow_add]
 have h1 : m * 2 ^ (e + 1075).toNat < 2 ^ bl m * 2 ^ (e + 1075).toNat := Nat.mul_lt_mul_of_pos_right hb.2.2 (two_pos _)
 rw [← Nat.pow_add] at h1
 have h2 : 2 ^ (bl m + (e + 1075).toNat) ≤ 2 ^ (n + (-(e + 1075)).toNat) := pow_le (by omega)
 omega
theorem FX_ge (m : Nat) (e : Int) (n : Nat) (h : (n : Int) ≤ (bl m : Int) - 1 + e + 1075) (h0 : m ≠ 0) : 2 ^ n ≤ FX m 1 e := by
 have hb := bl_bd m h0
 rw [FX_one, Nat.le_div_iff_mul_le (two_pos _), ← Nat.pow_add]
 have h1 : 2 ^ (bl m - 1) * 2 ^ (e + 1075).toNat ≤ m * 2 ^ (e + 1075).toNat := Nat.mul_le_mul_right _ hb.2.1
 rw [← Nat.pow_add] at h1
 have h2 : 2 ^ (n + (-(e + 1075)).toNat) ≤ 2 ^ (bl m - 1 + (e + 1075).toNat) := pow_le (by omega)
 omega
theorem sh_FX (m : Nat) (e q : Int) (h0 : m ≠ 0) (hq : q = (bl m : Int) - 53 + e ∧ -1074 ≤ q ∨ q = -1074 ∧ (bl m : Int) - 53 + e ≤ -1074) : sh (FX m 1 e) = (q + 1075).toNat := by
 apply sh_unique
 by_cases c : q = -1074
 ·left
  refine ⟨by omega, ?_⟩
  have := FX_lt m e 54 (by omega) h0
  omega
 ·right
  refine ⟨by omega, ?_, ?_⟩
  ·exact FX_ge m e _ (by omega) h0
  ·exact FX_lt m e _ (by omega) h0
theorem keep_out (m : Nat) (e q : Int) (r : Bool) (h : -1074 ≤ q) (hs : sh (FX m 1 e) = (q + 1075).toNat) (hd : 0 < q - e) :
  wd (FX m 1 e) = m / 2 ^ (q - e).toNat ∧ hf (FX m 1 e) = (m / 2 ^ (q - e - 1).toNat % 2 == 1) ∧ rs (FX m 1 e) (FS m 1 e r) = (r || decide (m % 2 ^ (q - e - 1).toNat ≠ 0)) := by
 unfold wd hf rs
 rw [hs, FX_one, FS_one]
 have a1 : ∀ n, m * 2 ^ (e + 1075).toNat / 2 ^ (-(e + 1075)).toNat / 2 ^ n = m * 2 ^ (e + 1075).toNat / 2 ^ ((-(e + 1075)).toNat + n) := by
  intro n; rw [Nat.div_div_eq_div_mul, ← Nat.pow_add]
 refine ⟨?_, ?_, ?_⟩
 ·rw [a1, shift_div, if_pos (by omega), show (-(e + 1075)).toNat + (q + 1075).toNat - (e + 1075).toNat = (q - e).toNat by omega]
 ·rw [a1, shift_div, if_pos (by omega), show (-(e + 1075)).toNat + ((q + 1075).toNat - 1) - (e + 1075).toNat = (q - e - 1).toNat by omega]
 ·rw [Bool.or_assoc]; congr 1
  rw [Bool.eq_iff_iff, Bool.or_eq_true, bne_iff_ne, decide_eq_true_iff, decide_eq_true_iff]
  have k : m * 2 ^ (e + 1075).toNat % 2 ^ ((-(e + 1075)).toNat + ((q + 1075).toNat - 1)) = 0 ↔ m * 2 ^ (e + 1075).toNat % 2 ^ (-(e + 1075)).toNat = 0 ∧ m * 2 ^ (e + 1075).toNat / 2 ^ (-(e + 1075)).toNat % 2 ^ ((q + 1075).toNat - 1) = 0 := by
   rw [Nat.pow_add, Nat.mod_mul]
   have := two_pos (-(e + 1075)).toNat
   constructor
   ·intro h; obtain ⟨h1, h2⟩ := Nat.eq_zero_of_add_eq_zero h
    refine ⟨h1, ?_⟩
    rcases Nat.mul_eq_zero.1 h2 with h3 | h3
    ·omega
    ·exact h3
   ·rintro ⟨h1, h2⟩; rw [h1, h2, Nat.mul_zero]
  rw [shift_mod, show (-(e + 1075)).toNat + ((q + 1075).toNat - 1) - (e + 1075).toNat = (q - e - 1).toNat by omega] at k
  constructor
  ·intro h1 h2
   have := k.1 (.inr h2)
   rcases h1 with h1 | h1
   ·exact h1 this.1
   ·exact h1 this.2
  ·intro h1
   by_cases c : m * 2 ^ (e + 1075).toNat % 2 ^ (-(e + 1075)).toNat = 0
   ·right; intro h2
    rcases k.2 ⟨c, h2⟩ with h3 | h3
    ·have : (q - e - 1).toNat = 0 := by omega
     rw [this] at h1; omega
    ·exact h1 h3
   ·exact .inl c
theorem keep_in (m : Nat) (e q : Int) (h : -1074 ≤ q) (hs : sh (FX m 1 e) = (q + 1075).toNat) (hd : q - e ≤ 0) :
  wd (FX m 1 e) = m * 2 ^ (e - q).toNat ∧ hf (FX m 1 e) = false ∧ rs (FX m 1 e) (FS m 1 e false) = false := by
 unfold wd hf rs
 have h0 : (-(e + 1075)).toNat = 0 := by omega
 rw [hs, FX_one, FS_one, h0]
 have e1 : 2 ^ (e + 1075).toNat = 2 ^ (q + 1075).toNat * 2 ^ (e - q).toNat := by rw [← Nat.pow_add]; congr 1; omega
 have e2 : 2 ^ (q + 1075).toNat = 2 ^ ((q + 1075).toNat - 1) * 2 := by rw [← Nat.pow_succ]; congr 1; omega
 rw [Nat.pow_zero, Nat.div_one]
 refine ⟨?_, ?_, ?_⟩
 ·rw [e1, Nat.mul_left_comm, Nat.mul_div_cancel_left _ (two_pos _)]
 ·rw [e1, e2, show m * (2 ^ ((q + 1075).toNat - 1) * 2 * 2 ^ (e - q).toNat) = 2 ^ ((q + 1075).toNat - 1) * (2 * (m * 2 ^ (e - q).toNat)) by grind, Nat.mul_div_cancel_left _ (two_pos _), beq_eq_false_iff_ne]
  omega
 ·have : m * 2 ^ (e + 1075).toNat % 2 ^ ((q + 1075).toNat - 1) = 0 := by
   rw [e1, e2, show m * (2 ^ ((q + 1075).toNat - 1) * 2 * 2 ^ (e - q).toNat) = 2 ^ ((q + 1075).toNat - 1) * (2 * (m * 2 ^ (e - q).toNat)) by grind, Nat.mul_mod_right]
  rw [this]; simp [Nat.mod_one]
theorem up_ok (neg : Bool) (h l e : Int) (r0 : Bool) (mode : Nat) (odd half rest : Bool) :
  round_number_up.f neg h l e r0 (mode : Int) odd half rest = some (if dir neg mode = 1 then half || rest else if dir neg mode = 2 then false else half && (rest || odd)) := by
 unfold round_number_up.f round_number_away.f round_number_towards.f dir
 by_cases m1 : mode = 1
 ·subst m1
  cases neg <;> cases half <;> cases rest <;> simp
 ·by_cases m2 : mode = 2
  ·subst m2
   cases neg <;> cases half <;> cases rest <;> simp
  ·have c1 : ¬ (mode : Int) = 1 := by omega
   have c2 : ¬ (mode : Int) = 2 := by omega
   cases half <;> cases rest <;> simp [c1, c2, m1, m2]
theorem towards_ok (neg : Bool) (h l e : Int) (r0 : Bool) (mode : Nat) : round_number_towards.f neg h l e r0 (mode : Int) = some (decide (dir neg mode = 2)) := by
 unfold round_number_towards.f dir
 by_cases m1 : mode = 1
 ·subst m1; cases neg <;> simp
 ·by_cases m2 : mode = 2
  ·subst m2; cases neg <;> simp
  ·have c1 : ¬ (mode : Int) = 1 := by omega
   have c2 : ¬ (mode : Int) = 2 := by omega
   simp [c1, c2, m1, m2]
theorem over_ev (neg : Bool) (h l e : Int) (r0 : Bool) (mode : Nat) :
  Ev (fun k => round_number_over.f k neg h l e r0 (mode : Int)) (((sg neg + (if dir neg mode = 2 then 9218868437227405311 else 9218868437227405312) : Nat) : Int), 5) := by
 unfold round_number_over.f
 refine Ev.b _ (Inf_ev neg) (Ev.b _ (Ev.const (towards_ok neg h l e r0 mode)) (Ev.const ?_))
 by_cases c : dir neg mode = 2
 ·rw [decide_eq_true c, if_pos rfl, if_pos c]
  cases neg <;> rfl
 ·rw [decide_eq_false c, if_neg (by simp), if_neg c]
theorem bits_or_1_2 : bits .or .u8 1 2 = 3 := by decide
theorem j3_ev (neg : Bool) (h l e : Int) (r0 : Bool) (n q w : Nat) (inx : Bool) (hq : q ≤ 2045) (hw : w < 9007199254740992) (hn : n ≤ 1000) (he : -5000 ≤ e ∧ e ≤ 5000) :
  Ev (fun k => round_number_float.j3 k (n : Int) ((q : Int) - 1074) (w : Int) 0 inx neg h l e r0)
   (((sg neg + (if 4503599627370496 ≤ w then q * 4503599627370496 + w else w) : Nat) : Int), if inx then (if (n : Int) + e ≤ -1022 then 3 else 1) else 0) := by
 have hm : bits .and .u64 (w : Int) 4503599627370495 = ((w % 4503599627370496 : Nat) : Int) := and_52 w (by omega)
 have e1 : wrap64 (wrap64 ((q : Int) - 1074 - -1074) + 1) = ((q + 1 : Nat) : Int) := by rw [w64 (n := (q : Int) - 1074 - -1074) (by omega) (by omega), w64 (by omega) (by omega)]; omega
 have e2 : wrap64 ((n : Int) + e) = (n : Int) + e := w64 (by omega) (by omega)
 have mk1 : 4503599627370496 ≤ w → mk neg (q + 1) (w % 4503599627370496) = sg neg + (q * 4503599627370496 + w) := by intro hw2; unfold mk; omega
 have mk0 : w < 4503599627370496 → mk neg 0 (w % 4503599627370496) = sg neg + w := by intro hw2; unfold mk; omega
 refine Ev.next ?_
 simp only [round_number_float.j3]
 rw [hm, e1, e2, bits_or_1_2]
 by_cases c1 : 4503599627370496 ≤ w
 ·have d1 : (w : Int) / 4503599627370496 = 1 := by omega
  have M := Make_ev neg (q + 1) (w % 4503599627370496) (by omega) (Nat.mod_lt _ (by decide))
  rw [mk1 c1] at M
  rw [if_pos c1]
  cases inx
  ·exact Ev.congr (fun k => by rw [if_neg (by simp), if_pos d1]) (Ev.b (f := fun _ b => some (b.1, (0 : Int))) _ M (Ev.now _))
  ·by_cases c2 : (n : Int) + e ≤ -1022
   ·rw [if_pos rfl, if_pos c2]
    exact Ev.congr (fun k => by rw [if_pos rfl, if_pos c2, if_pos d1]) (Ev.b (f := fun _ b => some (b.1, (3 : Int))) _ M (Ev.now _))
   ·rw [if_pos rfl, if_neg c2]
    exact Ev.congr (fun k => by rw [if_pos rfl, if_neg c2, if_pos d1]) (Ev.b (f := fun _ b => some (b.1, (1 : Int))) _ M (Ev.now _))
 ·have d1 : ¬ (w : Int) / 4503599627370496 = 1 := by omega
  have M : Ev (fun k => pattern_Make.f k neg 0 ((w % 4503599627370496 : Nat) : Int)) ((mk neg 0 (w % 4503599627370496) : Int), 0) := Make_ev neg 0 (w % 4503599627370496) (by omega) (Nat.mod_lt _ (by decide))
  rw [mk0 (by omega)] at M
  rw [if_neg c1]
  cases inx
  ·exact Ev.congr (fun k => by rw [if_neg (by simp), if_neg d1]) (Ev.b (f := fun _ b => some (b.1, (0 : Int))) _ M (Ev.now _))
  ·by_cases c2 : (n : Int) + e ≤ -1022
   ·rw [if_pos rfl, if_pos c2]
    exact Ev.congr (fun k => by rw [if_pos rfl, if_pos c2, if_neg d1]) (Ev.b (f := fun _ b => some (b.1, (3 : Int))) _ M (Ev.now _))
   ·rw [if_pos rfl, if_neg c2]
    exact Ev.congr (fun k => by rw [if_pos rfl, if_neg c2, if_neg d1]) (Ev.b (f := fun _ b => some (b.1, (1 : Int))) _ M (Ev.now _))
theorem j1_ev (neg : Bool) (h l e : Int) (r0 : Bool) (mode n q w : Nat) (half rest : Bool) (hq : q ≤ 20000) (hw : w ≤ 9007199254740992) (hn : n ≤ 1000) (he : -5000 ≤ e ∧ e ≤ 5000)
    (hp : q = 0 ∨ 4503599627370496 ≤ w) :
    Ev (fun k => round_number_float.j1 k (mode : Int) (n : Int) ((q : Int) - 1074) half rest (w : Int) neg h l e r0)
      (if 9218868437227405312 ≤ q * 4503599627370496 + w then (((sg neg + (if dir neg mode = 2 then 9218868437227405311 else 9218868437227405312) : Nat) : Int), 5)
       else (((sg neg + (q * 4503599627370496 + w) : Nat) : Int), if half || rest then (if (n : Int) + e ≤ -1022 then 3 else 1) else 0)) := by
  have J2 : ∀ (q w : Nat), q ≤ 20001 → w < 9007199254740992 → (q = 0 ∨ 4503599627370496 ≤ w) →
      Ev (fun k => round_number_float.j2 k (mode : Int) (n : Int) ((q : Int) - 1074) half rest (w : Int) neg h l e r0)
      (if 9218868437227405312 ≤ q * 4503599627370496 + w then (((sg neg + (if dir neg mode = 2 then 9218868437227405311 else 9218868437227405312) : Nat) : Int), 5)
       else (((sg neg + (q * 4503599627370496 + w) : Nat) : Int), if half || rest then (if (n : Int) + e ≤ -1022 then 3 else 1) else 0)) := by
    intro q w hq hw hp
    refine Ev.next ?_
    simp only [round_number_float.j2]
    by_cases c : (q : Int) - 1074 > 971
    · rw [if_pos (by omega)]
      exact Ev.congr (fun k => by rw [if_pos c]) (Ev.b _ (over_ev neg h l e r0 mode) (Ev.now _))
    · rw [if_neg (by omega)]
      have J := j3_ev neg h l e r0 n q w (half || rest) (by omega) hw hn he
      have e1 : (if 4503599627370496 ≤ w then q * 4503599627370496 + w else w) = q * 4503599627370496 + w := by split <;> omega
      rw [e1] at J
      cases half
      · exact Ev.congr (fun k => by rw [if_neg c, if_neg (by simp)]; rfl) J
      · exact Ev.congr (fun k => by rw [if_neg c, if_pos rfl]; rfl) J
  refine Ev.next ?_
  simp only [round_number_float.j1]
  by_cases c : w = 9007199254740992
  · have e1 : wrap64 ((q : Int) - 1074 + 1) = ((q + 1 : Nat) : Int) - 1074 := by rw [w64 (by omega) (by omega)]; omega
    have e2 : (w : Int) / 2 = ((4503599627370496 : Nat) : Int) := by omega
    have J := J2 (q + 1) 4503599627370496 (by omega) (by omega) (by omega)
    rw [show (q + 1) * 4503599627370496 + 4503599627370496 = q * 4503599627370496 + w by omega] at J
    exact Ev.congr (fun k => by rw [if_pos (by omega), e1, e2]) J
  · exact Ev.congr (fun k => by rw [if_neg (by omega)]) (J2 q w (by omega) (by omega) hp)
def pr (r : Nat × Nat) : Int × Int := ((r.1 : Int), (r.2 : Int))
theorem tail_ev (neg : Bool) (m : Nat) (e : Int) (rest r0 : Bool) (mode : Nat) (h l hi lo : Int) (q : Nat) (w : Nat) (half rst : Bool) (hm : m ≠ 0) (hL : bl m ≤ 128) (he : -5000 ≤ e ∧ e ≤ 5000) (hq : q ≤ 10000)
    (hs : sh (FX m 1 e) = q + 1) (h1 : wd (FX m 1 e) = w) (h2 : hf (FX m 1 e) = half) (h3 : rs (FX m 1 e) (FS m 1 e rest) = rst) (hlo : lo = (w : Int)) :
    Ev (fun k => round_number_float.j0 k (mode : Int) (bl m : Int) ((q : Int) - 1074) half rst neg h l e r0 hi lo) (pr (RND neg (FX m 1 e) (FS m 1 e rest) mode)) := by
  subst hlo
  have hwl := wd_lt (FX m 1 e)
  rw [h1] at hwl
  have hwg : q = 0 ∨ 4503599627370496 ≤ w := by
    by_cases c : q = 0
    · exact .inl c
    · right; rw [← h1]; exact wd_ge _ (by omega)
  have hfk : fk (FX m 1 e) = q * 4503599627370496 + w := by unfold fk; rw [hs, h1]; congr 1
  have hX : FX m 1 e < 9007199254740992 ↔ (bl m : Int) + e ≤ -1022 := by
    constructor
    · intro hh
      by_cases c : (bl m : Int) + e ≤ -1022
      · exact c
      · have := FX_ge m e 53 (by omega) hm
        omega
    · intro hh
      have := FX_lt m e 53 (by omega) hm
      omega
  have hodd : FX m 1 e / 2 ^ sh (FX m 1 e) = w := h1
  refine Ev.next ?_
  simp only [round_number_float.j0]
  have hand : (bits .and .u64 (w : Int) 1 == 1) = (w % 2 == 1) := by
    rw [and_1 w (by omega), Bool.eq_iff_iff, beq_iff_eq, beq_iff_eq]; omega
  rw [hand]
  have hu := up_ok neg h l e r0 mode (w % 2 == 1) half rst
  refine Ev.b _ (Ev.const hu) ?_
  have hup : upw (FX m 1 e) (FS m 1 e rest) (dir neg mode) = (if dir neg mode = 1 then half || rst else if dir neg mode = 2 then false else half && (rst || (w % 2 == 1))) := by
    unfold upw; rw [h2, h3, hodd]
  rw [← hup]
  have key : ∀ (b : Bool), upw (FX m 1 e) (FS m 1 e rest) (dir neg mode) = b → (if 9218868437227405312 ≤ q * 4503599627370496 + (w + if b then 1 else 0) then (((sg neg + (if dir neg mode = 2 then 9218868437227405311 else 9218868437227405312) : Nat) : Int), 5)
       else (((sg neg + (q * 4503599627370496 + (w + if b then 1 else 0)) : Nat) : Int), if half || rst then (if (bl m : Int) + e ≤ -1022 then 3 else 1) else 0)) = pr (RND neg (FX m 1 e) (FS m 1 e rest) mode) := by
    intro b hb
    have hk : kk (FX m 1 e) (FS m 1 e rest) (dir neg mode) = q * 4503599627370496 + (w + if b = true then 1 else 0) := by
      unfold kk; rw [hb, hfk, Nat.add_assoc]
    by_cases c : 9218868437227405312 ≤ q * 4503599627370496 + (w + if b then 1 else 0)
    · rw [if_pos c, RND_over (by rw [hk]; exact c)]; rfl
    · rw [if_neg c, RND_in (by rw [hk]; exact c), hk, h2, h3]
      have e3 : (if (half || rst) = true then (if (bl m : Int) + e ≤ -1022 then (3 : Int) else 1) else 0) = ((if (half || rst) = true then (if FX m 1 e < 9007199254740992 then 3 else 1) else 0 : Nat) : Int) := by
        cases half || rst
        · rfl
        · by_cases c2 : (bl m : Int) + e ≤ -1022
          · rw [if_pos rfl, if_pos rfl, if_pos c2, if_pos (hX.2 c2)]; rfl
          · rw [if_pos rfl, if_pos rfl, if_neg c2, if_neg (fun hh => c2 (hX.1 hh))]; rfl
      rw [e3]; rfl
  cases hb : upw (FX m 1 e) (FS m 1 e rest) (dir neg mode)
  · have K := key false hb
    rw [show (w + if false = true then 1 else 0) = w from by simp] at K
    rw [← K]
    exact Ev.congr (fun k => by rw [if_neg (by simp)]) (j1_ev neg h l e r0 mode (bl m) q w half rst (by omega) (by omega) (by omega) he (by omega))
  · have K := key true hb
    rw [show (w + if true = true then 1 else 0) = w + 1 from by simp] at K
    rw [← K]
    have e1 : IntKind.u64.wrap ((w : Int) + 1) = ((w + 1 : Nat) : Int) := by rw [wu64 (by omega) (by omega)]; omega
    exact Ev.congr (fun k => by rw [if_pos rfl, e1]) (j1_ev neg h l e r0 mode (bl m) q (w + 1) half rst (by omega) (by omega) (by omega) he (by omega))
end Go.Proofs.Ytmadjhmecfbcmaa.M
end
section
namespace Go.Proofs.Ytmadjhmecfbcmaa.M
open Go.RowKit Go.Proofs.YtmadjhmecfbcmaaW.PrintWords Go.Proofs.YtmadjhmecfbcmaaW.PrintLast Go.Proofs.YtmadjhmecfbcmaaW.PrintMore Go.Proofs.Ytmadjhmecfbcmaa.F
theorem tw_lo (V : Nat) : (tw V).2 = ((V % 18446744073709551616 : Nat) : Int) := rfl
theorem words (m : Nat) : m / 18446744073709551616 * 18446744073709551616 + m % 18446744073709551616 = m := by omega
theorem word_lt (m : Nat) : m % 18446744073709551616 < 18446744073709551616 := Nat.mod_lt _ (by decide)
theorem word_hi_lt {m : Nat} (h : m < 340282366920938463463374607431768211456) : m / 18446744073709551616 < 18446744073709551616 := by omega
theorem bl_small {m n : Nat} (h : bl m ≤ n) : m < 2 ^ n := by
 by_cases c : m = 0
 ·subst c; exact two_pos n
 ·have := (bl_bd m c).2.2
  have : 2 ^ bl m ≤ 2 ^ n := pow_le h
  omega
theorem Shl_tw (m n : Nat) (hm : m < 340282366920938463463374607431768211456) (hn : n < 1000000) :
  Ev (fun k => wide_U128_Shl.f k (tw m).1 (tw m).2 (n : Int)) (tw (m * 2 ^ n % 340282366920938463463374607431768211456)) := by
 have := U128_Shl (m / 18446744073709551616) (m % 18446744073709551616) n (word_hi_lt hm) (word_lt m) hn
 rw [words] at this; exact this
theorem Shr_tw (m n : Nat) (hm : m < 340282366920938463463374607431768211456) (hn : n < 1000000) :
  Ev (fun k => wide_U128_Shr.f k (tw m).1 (tw m).2 (n : Int)) ((tw (m / 2 ^ n)).1, (tw (m / 2 ^ n)).2, decide (m % 2 ^ n ≠ 0)) := by
 have := U128_Shr (m / 18446744073709551616) (m % 18446744073709551616) n (word_hi_lt hm) (word_lt m) hn
 rw [words] at this; exact this
theorem Len_tw (m : Nat) (hm : m < 340282366920938463463374607431768211456) : wide_U128_Len.f (tw m).1 (tw m).2 = some (bl m : Int) := by
 have := U128_Len (m / 18446744073709551616) (m % 18446744073709551616) (word_hi_lt hm) (word_lt m)
 rw [words] at this; exact this
theorem mx_eq (a b : Int) : mx a b = max a b := by unfold mx; omega
theorem mn_eq (a b : Int) : mn a b = min a b := by unfold mn; omega
theorem float_ev (neg : Bool) (m : Nat) (e : Int) (rest : Bool) (mode : Nat) (hm : m ≠ 0) (hm2 : m < 340282366920938463463374607431768211456) (he : -5000 ≤ e ∧ e ≤ 5000) (hr : rest = true → 53 < bl m) :
  Ev (fun k => round_number_float.f k neg (tw m).1 (tw m).2 e rest (mode : Int)) (pr (RND neg (FX m 1 e) (FS m 1 e rest) mode)) := by
 have hL : bl m ≤ 128 := bl_le (n := 128) hm2
 have hL1 := (bl_bd m hm).1
 obtain ⟨q, hq⟩ : ∃ q : Nat, max ((bl m : Int) - 53 + e) (-1074) = (q : Int) - 1074 := ⟨(max ((bl m : Int) - 53 + e) (-1074) + 1074).toNat, by omega⟩
 have hsh : sh (FX m 1 e) = q + 1 := by
  rw [sh_FX m e ((q : Int) - 1074) hm (by omega)]; omega
 have hsh' : sh (FX m 1 e) = ((q : Int) - 1074 + 1075).toNat := by rw [hsh]; omega
 have w1 : wrap64 ((bl m : Int) - 53) = (bl m : Int) - 53 := w64 (by omega) (by omega)
 have w2 : wrap64 ((bl m : Int) - 53 + e) = (bl m : Int) - 53 + e := w64 (by omega) (by omega)
 have w3 : wrap64 ((q : Int) - 1074 - e) = (q : Int) - 1074 - e := w64 (by omega) (by omega)
 unfold round_number_float.f
 refine Ev.b _ (Ev.const (Len_tw m hm2)) ?_
 rw [w1, w2, mx_eq, hq, w3]
 by_cases c : (q : Int) - 1074 - e > 0
 ·have w4 : wrap64 ((q : Int) - 1074 - e - 1) = (((q : Int) - 1074 - e - 1).toNat : Int) := by rw [w64 (by omega) (by omega)]; omega
  obtain ⟨k1, k2, k3⟩ := keep_out m e ((q : Int) - 1074) rest (by omega) hsh' c
  have S1 := Shr_tw m ((q : Int) - 1074 - e - 1).toNat hm2 (by omega)
  have hM : m / 2 ^ ((q : Int) - 1074 - e - 1).toNat ≤ m := Nat.div_le_self _ _
  have S2 := Shr_tw (m / 2 ^ ((q : Int) - 1074 - e - 1).toNat) 1 (by omega) (by omega)
  rw [show ((1 : Nat) : Int) = 1 from rfl] at S2
  have e1 : m / 2 ^ ((q : Int) - 1074 - e - 1).toNat / 2 ^ 1 = m / 2 ^ ((q : Int) - 1074 - e).toNat := by
   rw [Nat.div_div_eq_div_mul, ← Nat.pow_add]; congr 2; omega
  have hh : (bits .and .u64 (tw (m / 2 ^ ((q : Int) - 1074 - e - 1).toNat)).2 1 == 1) = (m / 2 ^ ((q : Int) - 1074 - e - 1).toNat % 2 == 1) := by
   rw [tw_lo, and_1 _ (word_lt _), Bool.eq_iff_iff, beq_iff_eq, beq_iff_eq]; omega
  have hw : m / 2 ^ ((q : Int) - 1074 - e).toNat < 18446744073709551616 := by
   rw [← k1]; have := wd_lt (FX m 1 e); omega
  refine Ev.congr (fun k => by rw [if_pos c, w4]) (Ev.b _ S1 ?_)
  dsimp only
  rw [hh]
  cases rest
  ·refine Ev.congr (fun k => by rw [if_neg (by simp)]) (Ev.b _ S2 ?_)
   dsimp only
   exact tail_ev neg m e false false mode _ _ _ _ q _ _ _ hm hL he (by omega) hsh k1 k2 (by rw [k3, Bool.false_or]) (by rw [tw_lo, e1, Nat.mod_eq_of_lt hw])
  ·refine Ev.congr (fun k => by rw [if_pos rfl]) (Ev.b _ S2 ?_)
   dsimp only
   exact tail_ev neg m e true true mode _ _ _ _ q _ _ _ hm hL he (by omega) hsh k1 k2 (by rw [k3, Bool.true_or]) (by rw [tw_lo, e1, Nat.mod_eq_of_lt hw])
 ·have hr2 : rest = false := by
   cases rest
   ·rfl
   ·have := hr rfl; omega
  subst hr2
  obtain ⟨k1, k2, k3⟩ := keep_in m e ((q : Int) - 1074) (by omega) hsh' (by omega)
  have w4 : wrap64 (-((q : Int) - 1074 - e)) = ((e - ((q : Int) - 1074)).toNat : Int) := by rw [w64 (by omega) (by omega)]; omega
  have S1 := Shl_tw m (e - ((q : Int) - 1074)).toNat hm2 (by omega)
  have hw : m * 2 ^ (e - ((q : Int) - 1074)).toNat < 9007199254740992 := by rw [← k1]; exact wd_lt _
  rw [Nat.mod_eq_of_lt (by omega)] at S1
  refine Ev.congr (fun k => by rw [if_neg c, w4]) (Ev.b _ S1 ?_)
  exact tail_ev neg m e false false mode _ _ _ _ q _ _ _ hm hL he (by omega) hsh k1 k2 k3 (by rw [tw_lo, Nat.mod_eq_of_lt (by omega)])
def cl (e : Int) : Int := min (max e (-5000)) 5000
theorem Round_ev (neg : Bool) (m : Nat) (e : Int) (rest : Bool) (mode : Nat) (hm2 : m < 340282366920938463463374607431768211456) :
  Ev (fun k => round_Round.f k neg (tw m).1 (tw m).2 e rest (mode : Int))
   (if m = 0 then ((sg neg : Int), 0) else pr (RND neg (FX m 1 (cl e)) (FS m 1 (cl e) (rest && decide (53 < bl m))) mode)) := by
 unfold round_Round.f
 refine Ev.b _ (Ev.const (Len_tw m hm2)) ?_
 by_cases c : m = 0
 ·rw [if_pos c]
  have : (bl m : Int) = 0 := by rw [c]; rfl
  refine Ev.congr (fun k => by rw [if_pos this]) (Ev.b (f := fun _ b => some (b.1, (0 : Int))) _ (show Ev (fun k => pattern_Make.f k neg 0 0) ((mk neg 0 0 : Int), 0) from Make_ev neg 0 0 (by omega) (by omega)) (Ev.now _))
 ·rw [if_neg c]
  have h1 := (bl_bd m c).1
  have c2 : ¬ (bl m : Int) = 0 := by omega
  have e1 : mn (mx e (-5000)) 5000 = cl e := by rw [mx_eq, mn_eq]; rfl
  rw [e1]
  have hc : -5000 ≤ cl e ∧ cl e ≤ 5000 := by unfold cl; omega
  have e2 : decide ((bl m : Int) > 53) = decide (53 < bl m) := by rw [Bool.eq_iff_iff, decide_eq_true_iff, decide_eq_true_iff]; omega
  rw [e2]
  cases rest
  ·exact Ev.congr (fun k => by rw [if_neg c2, if_neg (by simp)]) (Ev.b (f := fun _ b => some (b.1, b.2)) _ (float_ev neg m (cl e) false mode c hm2 hc (by simp)) (Ev.now _))
  ·exact Ev.congr (fun k => by rw [if_neg c2, if_pos rfl]) (Ev.b (f := fun _ b => some (b.1, b.2)) _ (float_ev neg m (cl e) (decide (53 < bl m)) mode c hm2 hc (by simp)) (Ev.now _))
end Go.Proofs.Ytmadjhmecfbcmaa.M
end
section
namespace Go.Proofs.Ytmadjhmecfbcmaa.M
open Go.RowKit Go.Proofs.YtmadjhmecfbcmaaW.PrintWords Go.Proofs.YtmadjhmecfbcmaaW.PrintLast Go.Proofs.YtmadjhmecfbcmaaW.PrintMore Go.Proofs.Ytmadjhmecfbcmaa.F
def QN : Nat := 9221120237041090560
def INF : Nat := 9218868437227405312
def mg (a : Nat) : Nat := magk (key a)
def sv (a : Nat) : Int := if sgn a then -(mg a : Int) else mg a
theorem key_cls (a : Nat) : (cls a ≤ 2 ↔ key a < 9218868437227405312) ∧ (cls a = 3 ↔ key a = 9218868437227405312) ∧ (cls a = 4 ↔ 9218868437227405312 < key a) ∧ (cls a = 0 ↔ key a = 0) := by
 rw [key_parts' a]
 have h1 := ex_lt a
 have h2 := fr_lt a
 unfold cls
 refine ⟨?_, ?_, ?_, ?_⟩ <;> (repeat' split) <;> omega
theorem mg_split (a : Nat) (h : cls a ≤ 2) : mg a = spm a * 2 ^ (spe a + 1074).toNat := by
 have h2 := fr_lt a
 have e1 : key a / 4503599627370496 = ex a := by rw [key_parts' a]; omega
 have e2 : key a % 4503599627370496 = fr a := by rw [key_parts' a]; omega
 unfold mg magk
 rw [e1, e2]
 unfold spm spe
 unfold cls at h ⊢
 by_cases c1 : ex a = 2047
 ·rw [if_pos c1] at h; split at h <;> omega
 ·rw [if_neg c1]
  by_cases c2 : ex a = 0
  ·rw [if_pos c2, if_pos c2]
   by_cases c3 : fr a = 0
   ·rw [if_pos c3, c3, if_neg (by decide), if_neg (by decide), Nat.zero_mul]
   ·rw [if_neg c3, if_neg (by decide), if_pos rfl, if_neg (by decide), if_pos rfl, show ((-1074 : Int) + 1074).toNat = 0 from rfl, Nat.pow_zero, Nat.mul_one]
  ·rw [if_neg c2, if_neg c2, if_pos rfl, if_pos rfl, show ((ex a : Int) - 1075 + 1074).toNat = ex a - 1 by omega]
theorem mg_zero (a : Nat) : mg a = 0 ↔ cls a = 0 := by
 rw [(key_cls a).2.2.2]
 have h0 : magk 0 = 0 := by unfold magk; simp
 constructor
 ·intro h; apply magk_inj; rw [h0]; exact h
 ·intro h; unfold mg; rw [h, h0]
theorem spm_zero (a : Nat) (h : cls a ≤ 2) : spm a = 0 ↔ cls a = 0 := by
 rw [← mg_zero, mg_split a h, Nat.mul_eq_zero]
 have := two_pos (spe a + 1074).toNat
 omega
theorem fk_magk (k : Nat) : fk (2 * magk k) = k := by
 have h1 : k ≤ fk (2 * magk k) := (fk_iff _ _).1 (Nat.le_refl _)
 have h2 := fk_le (2 * magk k)
 have h3 := magk_le_iff.1 (show magk (fk (2 * magk k)) ≤ magk k by omega)
 omega
theorem RND_exact (neg : Bool) (k mode : Nat) (h : k < 9218868437227405312) : RND neg (2 * magk k) false mode = (sg neg + k, 0) := by
 have hx : (hf (2 * magk k) || rs (2 * magk k) false) = false := by rw [exact_iff, fk_magk]; exact ⟨rfl, rfl⟩
 have hu : upw (2 * magk k) false (dir neg mode) = false := by
  unfold upw
  rw [Bool.or_eq_false_iff] at hx
  rw [hx.1, hx.2]; simp
 have hk : kk (2 * magk k) false (dir neg mode) = k := by unfold kk; rw [hu, fk_magk]; rfl
 rw [RND_in (by rw [hk]; omega), hk, hx]; rfl
theorem RND_sticky (neg : Bool) (X Y g : Nat) (s : Bool) (mode : Nat) (h1 : X / 2 ^ g = Y / 2 ^ g) (h2 : X % 2 ^ g = 0) (h3 : 9007199254740992 ≤ X / 2 ^ g) (h4 : s = true ∨ Y % 2 ^ g ≠ 0) :
  RND neg X true mode = RND neg Y s mode := by
 by_cases g0 : g = 0
 ·subst g0
  rw [Nat.pow_zero, Nat.div_one, Nat.div_one] at h1
  rw [Nat.pow_zero, Nat.mod_one] at h4
  have : s = true := by rcases h4 with h4 | h4; exact h4; exact absurd rfl h4
  rw [h1, this]
 have hz : X / 2 ^ g ≠ 0 := by omega
 have pg := two_pos g
 have hX := Nat.div_add_mod X (2 ^ g)
 have hY := Nat.div_add_mod Y (2 ^ g)
 have mX := Nat.mod_lt X pg
 have mY := Nat.mod_lt Y pg
 obtain ⟨Z, hZ⟩ : ∃ Z, X / 2 ^ g = Z := ⟨_, rfl⟩
 rw [← h1] at hY
 rw [hZ] at h1 h3 hz hX hY
 have zl := Nat.log2_self_le hz
 have zu : Z < 2 ^ (Z.log2 + 1) := Nat.lt_log2_self
 have z53 : 53 ≤ Z.log2 := by rw [Nat.le_log2 hz]; omega
 have lo : ∀ W, 2 ^ g * Z ≤ W → W < 2 ^ g * (Z + 1) → sh W = Z.log2 + g - 52 := by
  intro W w1 w2
  apply sh_unique
  right
  refine ⟨by omega, ?_, ?_⟩
  ·have : 2 ^ g * 2 ^ Z.log2 ≤ 2 ^ g * Z := Nat.mul_le_mul_left _ zl
   rw [← Nat.pow_add, show g + Z.log2 = Z.log2 + g - 52 + 52 by omega] at this; exact Nat.le_trans this w1
  ·have : 2 ^ g * (Z + 1) ≤ 2 ^ g * 2 ^ (Z.log2 + 1) := Nat.mul_le_mul_left _ zu
   rw [← Nat.pow_add, show g + (Z.log2 + 1) = Z.log2 + g - 52 + 53 by omega] at this; exact Nat.lt_of_lt_of_le w2 this
 have e0 : 2 ^ g * (Z + 1) = 2 ^ g * Z + 2 ^ g := by rw [Nat.mul_add, Nat.mul_one]
 have sX := lo X (by omega) (by omega)
 have sY := lo Y (by omega) (by omega)
 obtain ⟨v, hv⟩ : ∃ v, Z.log2 + g - 52 = g + (v + 1) := ⟨Z.log2 - 53, by omega⟩
 rw [hv] at sX sY
 have dX : ∀ n, X / 2 ^ (g + n) = Z / 2 ^ n := by intro n; rw [Nat.pow_add, ← Nat.div_div_eq_div_mul, hZ]
 have dY : ∀ n, Y / 2 ^ (g + n) = Z / 2 ^ n := by intro n; rw [Nat.pow_add, ← Nat.div_div_eq_div_mul, ← h1]
 have ew : wd X = wd Y := by unfold wd; rw [sX, sY, dX, dY]
 have eh : hf X = hf Y := by unfold hf; rw [sX, sY, show g + (v + 1) - 1 = g + v by omega, dX, dY]
 have er1 : rs X true = true := rfl
 have er2 : rs Y s = true := by
  unfold rs
  rcases h4 with h4 | h4
  ·rw [h4]; rfl
  ·have : Y % 2 ^ (sh Y - 1) ≠ 0 := by
    rw [sY, show g + (v + 1) - 1 = g + v by omega, Nat.pow_add, Nat.mod_mul]; omega
   rw [bne_iff_ne.2 this, Bool.or_true]
 have ef : fk X = fk Y := by unfold fk; rw [ew, sX, sY]
 have eu : upw X true (dir neg mode) = upw Y s (dir neg mode) := by unfold upw; rw [eh, er1, er2, sX, sY, dX, dY]
 have ek : kk X true (dir neg mode) = kk Y s (dir neg mode) := by unfold kk; rw [ef, eu]
 have gX : ¬ X < 9007199254740992 := by
  have : 1 * Z ≤ 2 ^ g * Z := Nat.mul_le_mul_right _ pg
  omega
 have gY : ¬ Y < 9007199254740992 := by
  have : 1 * Z ≤ 2 ^ g * Z := Nat.mul_le_mul_right _ pg
  omega
 unfold RND rnd
 rw [ek, eh, er1, er2, if_neg gX, if_neg gY]
theorem two_step (neg : Bool) (A B : Nat) (E : Int) (mode : Nat) (hB : 0 < B) (h : A % B = 0 ∨ 9007199254740992 ≤ A / B) :
  RND neg (FX (A / B) 1 E) (FS (A / B) 1 E (decide (A % B ≠ 0))) mode = RND neg (FX A B E) (FS A B E false) mode := by
 rw [FX_one, FS_one]
 unfold FX FS FN FD
 rw [Bool.false_or]
 have hAB := Nat.div_add_mod A B
 by_cases c : 0 ≤ E + 1075
 ·have h0 : (-(E + 1075)).toNat = 0 := by omega
  rw [h0, Nat.pow_zero, Nat.div_one, Nat.mul_one]
  generalize (E + 1075).toNat = g at *
  have pg := two_pos g
  have hm1 : A / B * 2 ^ g % 1 = 0 := Nat.mod_one _
  rw [hm1]
  by_cases z : A % B = 0
  ·have e1 : A * 2 ^ g = B * (A / B * 2 ^ g) := by rw [← Nat.mul_assoc]; congr 1; omega
   rw [e1, Nat.mul_div_cancel_left _ hB, Nat.mul_mod_right, z]; rfl
  ·have hq : 9007199254740992 ≤ A / B := by omega
   rw [decide_eq_true z, Bool.true_or]
   have d1 : A / B * 2 ^ g / 2 ^ g = A / B := Nat.mul_div_cancel _ pg
   have d2 : A * 2 ^ g / B / 2 ^ g = A / B := by rw [Nat.div_div_eq_div_mul, Nat.mul_div_mul_right _ _ pg]
   apply RND_sticky neg _ _ g
   ·rw [d1, d2]
   ·exact Nat.mul_mod_left _ _
   ·rw [d1]; exact hq
   ·by_cases y : A * 2 ^ g % B = 0
    ·right
     intro y2
     have k1 := Nat.div_add_mod (A * 2 ^ g) B
     have k2 := Nat.div_add_mod (A * 2 ^ g / B) (2 ^ g)
     rw [d2] at k2
     have k3 : A * 2 ^ g = B * (A / B) * 2 ^ g := by
      have : A * 2 ^ g / B = 2 ^ g * (A / B) := by omega
      rw [this] at k1
      have k4 : B * (2 ^ g * (A / B)) = B * (A / B) * 2 ^ g := by grind
      omega
     have := Nat.eq_of_mul_eq_mul_right pg k3
     omega
    ·left; rw [decide_eq_true y]
 ·have h0 : (E + 1075).toNat = 0 := by omega
  rw [h0, Nat.pow_zero, Nat.mul_one, Nat.mul_one]
  generalize (-(E + 1075)).toNat = r at *
  rw [Nat.div_div_eq_div_mul]
  congr 1
  rw [Bool.eq_iff_iff, Bool.or_eq_true, decide_eq_true_iff, decide_eq_true_iff, decide_eq_true_iff, Nat.mod_mul]
  constructor
  ·rintro (h1 | h1) h2
   ·omega
   ·obtain ⟨_, h3⟩ := Nat.eq_zero_of_add_eq_zero h2
    rcases Nat.mul_eq_zero.1 h3 with h4 | h4
    ·omega
    ·exact h1 h4
  ·intro h1
   by_cases y : A % B = 0
   ·right; intro y2; apply h1; rw [y, y2, Nat.mul_zero]
   ·exact .inl y
theorem FXS_scale (A B T : Nat) (E : Int) (r : Bool) : FX (A * 2 ^ T) B (E - T) = FX A B E ∧ FS (A * 2 ^ T) B (E - T) r = FS A B E r := by
 have key : ∃ u, FN (A * 2 ^ T) (E - T) = 2 ^ u * FN A E ∧ FD B (E - T) = 2 ^ u * FD B E := by
  refine ⟨T + (E - T + 1075).toNat - (E + 1075).toNat, ?_, ?_⟩
  ·unfold FN
   rw [Nat.mul_assoc, ← Nat.pow_add, Nat.mul_left_comm, ← Nat.pow_add]; congr 2; omega
  ·unfold FD
   rw [Nat.mul_left_comm, ← Nat.pow_add]; congr 2; omega
 obtain ⟨u, k1, k2⟩ := key
 unfold FX FS
 rw [k1, k2, Nat.mul_div_mul_left _ _ (two_pos u), Nat.mul_mod_mul_left]
 refine ⟨rfl, ?_⟩
 congr 2
 rw [Ne, Nat.mul_eq_zero, eq_iff_iff]
 have := two_pos u
 constructor
 ·intro h1 h2; exact h1 (.inr h2)
 ·rintro h1 (h2 | h2)
  ·omega
  ·exact h1 h2
def sAdd (a b mode : Nat) : Nat × Nat :=
 if cls a = 4 ∨ cls b = 4 then (QN, 0)
 else if cls a = 3 ∧ cls b = 3 ∧ sgn a ≠ sgn b then (QN, 16)
 else if cls a = 3 then (a, 0)
 else if cls b = 3 then (b, 0)
 else if sv a + sv b = 0 then (sg (if sgn a = sgn b then sgn a else decide (mode = 2)), 0)
 else RND (decide (sv a + sv b < 0)) (2 * (sv a + sv b).natAbs) false mode
def sMul (a b mode : Nat) : Nat × Nat :=
 if cls a = 4 ∨ cls b = 4 then (QN, 0)
 else if cls a = 3 ∧ cls b = 0 ∨ cls a = 0 ∧ cls b = 3 then (QN, 16)
 else if cls a = 3 ∨ cls b = 3 then (sg (sgn a != sgn b) + INF, 0)
 else if spm a * spm b = 0 then (sg (sgn a != sgn b), 0)
 else RND (sgn a != sgn b) (FX (spm a * spm b) 1 (spe a + spe b)) (FS (spm a * spm b) 1 (spe a + spe b) false) mode
def sDiv (a b mode : Nat) : Nat × Nat :=
 if cls a = 4 ∨ cls b = 4 then (QN, 0)
 else if cls a = 3 ∧ cls b = 3 ∨ cls a = 0 ∧ cls b = 0 then (QN, 16)
 else if cls a = 3 then (sg (sgn a != sgn b) + INF, 0)
 else if cls b = 0 then (sg (sgn a != sgn b) + INF, 8)
 else if cls a = 0 ∨ cls b = 3 then (sg (sgn a != sgn b), 0)
 else RND (sgn a != sgn b) (FX (spm a) (spm b) (spe a - spe b)) (FS (spm a) (spm b) (spe a - spe b) false) mode
end Go.Proofs.Ytmadjhmecfbcmaa.M
end
section
namespace Go.Proofs.Ytmadjhmecfbcmaa.M
open Go.RowKit Go.Proofs.YtmadjhmecfbcmaaW.PrintWords Go.Proofs.YtmadjhmecfbcmaaW.PrintLast Go.Proofs.YtmadjhmecfbcmaaW.PrintMore Go.Proofs.Ytmadjhmecfbcmaa.F
theorem tw_word {m : Nat} (h : m < 18446744073709551616) : tw m = (0, (m : Int)) := by
 unfold tw; rw [Nat.div_eq_of_lt h, Nat.mod_eq_of_lt h]; rfl
theorem U128_Add (p q : Nat) (h : p + q < 340282366920938463463374607431768211456) :
  wide_U128_Add.f (tw p).1 (tw p).2 (tw q).1 (tw q).2 = some ((tw (p + q)).1, (tw (p + q)).2, 0) := by
 unfold wide_U128_Add.f tw
 dsimp only
 rw [if_pos (by omega)]
 congr 1
 ext <;> dsimp only <;> omega
theorem U128_Sub (p q : Nat) (_hp : p < 340282366920938463463374607431768211456) (h : q ≤ p) :
  wide_U128_Sub.f (tw p).1 (tw p).2 (tw q).1 (tw q).2 = some ((tw (p - q)).1, (tw (p - q)).2, 0) := by
 unfold wide_U128_Sub.f tw
 dsimp only
 rw [if_pos (by omega)]
 congr 1
 by_cases c : p % 18446744073709551616 < q % 18446744073709551616
 ·rw [if_pos (by omega)]
  ext <;> dsimp only <;> (try split) <;> omega
 ·rw [if_neg (by omega)]
  ext <;> dsimp only <;> (try split) <;> omega
theorem tw_eq_zero (p : Nat) (_hp : p < 340282366920938463463374607431768211456) : ((tw p).1 == 0 && ((tw p).2 == 0)) = decide (p = 0) := by
 unfold tw
 rw [Bool.eq_iff_iff, Bool.and_eq_true, beq_iff_eq, beq_iff_eq, decide_eq_true_iff]; dsimp only; omega
theorem cl_id {e : Int} (h : -5000 ≤ e) (h2 : e ≤ 5000) : cl e = e := by unfold cl; omega
theorem exact_scale (N d : Nat) (ea eb : Int) (he : ea = eb + d) (hb : -1074 ≤ eb) : FX N (2 ^ d) ea = 2 * (N * 2 ^ (eb + 1074).toNat) ∧ FS N (2 ^ d) ea false = false := by
 have h0 : (-(ea + 1075)).toNat = 0 := by omega
 have e1 : N * 2 ^ (ea + 1075).toNat = 2 ^ d * (2 * (N * 2 ^ (eb + 1074).toNat)) := by
  have : 2 ^ (ea + 1075).toNat = 2 ^ d * (2 ^ (eb + 1074).toNat * 2) := by rw [← Nat.pow_succ, ← Nat.pow_add]; congr 1; omega
  rw [this]; grind
 unfold FX FS FN FD
 rw [h0, Nat.pow_zero, Nat.mul_one, e1, Nat.mul_div_cancel_left _ (two_pos d), Nat.mul_mod_right]
 exact ⟨rfl, rfl⟩
theorem ar1 {n m P Q r : Nat} (h1 : n + m = P) (h2 : Q + r = m) (h3 : r = 0) : n = P - Q := by omega
theorem ar3 {m D : Nat} (h1 : m < 9007199254740992) (h2 : 2 ^ 71 ≤ D) : m * 1180591620717411303424 < 9007199254740992 * D := by
 have h3 : 2361183241434822606848 ≤ D := h2
 have := Nat.mul_le_mul_left 9007199254740992 h3; omega
theorem ar2 {n m P Q r D : Nat} (h1 : n + m = P) (h2 : Q + r = m) (h3 : Q + D ≤ P) (h4 : r < D) : n = (D - r) + (P - Q - D) := by omega
theorem num_add_ev (fa fb ca cb : Int) (na nb : Bool) (ma mb : Nat) (ea eb : Int) (mode : Nat) (h1 : 1 ≤ ma) (h2 : ma < 9007199254740992) (h3 : 1 ≤ mb) (h4 : mb < 9007199254740992)
    (h5 : -1074 ≤ eb) (h6 : eb ≤ ea) (h7 : ea ≤ 971) (h8 : ea = eb → mb ≤ ma) (h9 : -1074 < ea → 4503599627370496 ≤ ma) :
    mb ≤ ma * 2 ^ (ea - eb).toNat ∧
    Ev (fun k => soft_num_add.f k fa ca na (ma : Int) ea fb cb nb (mb : Int) eb (mode : Int))
      (if na = nb then pr (RND na (2 * ((ma * 2 ^ (ea - eb).toNat + mb) * 2 ^ (eb + 1074).toNat)) false mode)
       else if ma * 2 ^ (ea - eb).toNat = mb then ((sg (decide (mode = 2)) : Int), 0)
       else pr (RND na (2 * ((ma * 2 ^ (ea - eb).toNat - mb) * 2 ^ (eb + 1074).toNat)) false mode)) := by
  obtain ⟨d, hd⟩ : ∃ d : Nat, ea - eb = d := ⟨(ea - eb).toNat, by omega⟩
  rw [show (ea - eb).toNat = d by omega]
  have pd := two_pos d
  have hge : mb ≤ ma * 2 ^ d := by
    by_cases c : d = 0
    · subst c; have := h8 (by omega); omega
    · have := h9 (by omega)
      obtain ⟨u, rfl⟩ : ∃ u, d = u + 1 := ⟨d - 1, by omega⟩
      have pu := two_pos u
      have : ma * 1 ≤ ma * 2 ^ u := Nat.mul_le_mul_left _ pu
      rw [Nat.pow_succ, ← Nat.mul_assoc]; omega
  refine ⟨hge, ?_⟩
  have S1 : Ev (fun k => wide_U128_Shl.f k 0 (ma : Int) 70) (tw (ma * 1180591620717411303424)) := by
    have := Shl_tw ma 70 (by omega) (by omega)
    rw [tw_word (by omega), show (2 : Nat) ^ 70 = 1180591620717411303424 from rfl, Nat.mod_eq_of_lt (by omega)] at this; exact this
  have S2 : Ev (fun k => wide_U128_Shl.f k 0 (mb : Int) 70) (tw (mb * 1180591620717411303424)) := by
    have := Shl_tw mb 70 (by omega) (by omega)
    rw [tw_word (by omega), show (2 : Nat) ^ 70 = 1180591620717411303424 from rfl, Nat.mod_eq_of_lt (by omega)] at this; exact this
  have S3 := Shr_tw (mb * 1180591620717411303424) d (by omega) (by omega)
  have w1 : wrap64 (ea - eb) = (d : Int) := by rw [w64 (by omega) (by omega)]; omega
  have w2 : wrap64 (ea - 70) = ea - 70 := w64 (by omega) (by omega)
  have hc : cl (ea - 70) = ea - 70 := cl_id (by omega) (by omega)
  have hqd := Nat.div_add_mod (mb * 1180591620717411303424) (2 ^ d)
  have hqm := Nat.mod_lt (mb * 1180591620717411303424) pd
  have hql : mb * 1180591620717411303424 / 2 ^ d ≤ mb * 1180591620717411303424 := Nat.div_le_self _ _
  have hqp : mb * 1180591620717411303424 / 2 ^ d ≤ ma * 1180591620717411303424 := by
    have h10 : mb * 1180591620717411303424 ≤ 2 ^ d * (ma * 1180591620717411303424) := by
      have : mb * 1180591620717411303424 ≤ ma * 2 ^ d * 1180591620717411303424 := Nat.mul_le_mul_right _ hge
      rw [show ma * 2 ^ d * 1180591620717411303424 = 2 ^ d * (ma * 1180591620717411303424) by grind] at this; exact this
    exact Nat.div_le_of_le_mul h10
  have hlostd : mb * 1180591620717411303424 % 2 ^ d ≠ 0 → 71 ≤ d := by
    intro hne
    by_cases c : d ≤ 70
    · exfalso; apply hne
      have : (1180591620717411303424 : Nat) = 2 ^ d * 2 ^ (70 - d) := by rw [← Nat.pow_add, show d + (70 - d) = 70 by omega]
      rw [this, Nat.mul_left_comm, Nat.mul_mod_right]
    · omega
  have fin : ∀ (N s : Nat) (lost : Bool), N ≠ 0 → s < 340282366920938463463374607431768211456 → N * 1180591620717411303424 / 2 ^ d = s → lost = decide (N * 1180591620717411303424 % 2 ^ d ≠ 0) → s ≠ 0 →
      (lost = true → 9007199254740992 ≤ s) →
      Ev (fun k => round_Round.f k na (tw s).1 (tw s).2 (ea - 70) lost (mode : Int)) (pr (RND na (2 * (N * 2 ^ (eb + 1074).toNat)) false mode)) := by
    intro N s lost hN hs e1 e2 hs0 hl
    have R := Round_ev na s (ea - 70) lost mode hs
    rw [if_neg hs0, hc] at R
    have e3 : (lost && decide (53 < bl s)) = lost := by
      cases lost
      · rfl
      · rw [Bool.true_and, decide_eq_true_iff]
        have h11 := hl rfl
        by_cases c : bl s ≤ 53
        · have := bl_small c; omega
        · omega
    rw [e3] at R
    have T := two_step na (N * 1180591620717411303424) (2 ^ d) (ea - 70) mode pd (by
      by_cases c : N * 1180591620717411303424 % 2 ^ d = 0
      · exact .inl c
      · right; rw [e1]; apply hl; rw [e2, decide_eq_true c])
    rw [e1, ← e2] at T
    have K := FXS_scale N (2 ^ d) 70 ea false
    rw [show (2 : Nat) ^ 70 = 1180591620717411303424 from rfl, show ((70 : Nat) : Int) = 70 from rfl] at K
    have X := exact_scale N d ea eb (by omega) h5
    rw [K.1, K.2, X.1, X.2] at T
    rw [T] at R
    exact R
  unfold soft_num_add.f
  refine Ev.b _ S1 (Ev.b _ S2 ?_)
  rw [w1]
  refine Ev.b _ S3 ?_
  dsimp only
  rw [w2]
  by_cases hs : na = nb
  · rw [if_pos hs]
    have hs' : (na == nb) = true := by rw [beq_iff_eq]; exact hs
    have hq : (ma * 2 ^ d + mb) * 1180591620717411303424 / 2 ^ d = ma * 1180591620717411303424 + mb * 1180591620717411303424 / 2 ^ d := by
      rw [show (ma * 2 ^ d + mb) * 1180591620717411303424 = mb * 1180591620717411303424 + 2 ^ d * (ma * 1180591620717411303424) by grind, Nat.add_mul_div_left _ _ pd]; omega
    have hm : (ma * 2 ^ d + mb) * 1180591620717411303424 % 2 ^ d = mb * 1180591620717411303424 % 2 ^ d := by
      rw [show (ma * 2 ^ d + mb) * 1180591620717411303424 = mb * 1180591620717411303424 + 2 ^ d * (ma * 1180591620717411303424) by grind, Nat.add_mul_mod_self_left]
    have g1 : ma * 1180591620717411303424 + mb * 1180591620717411303424 / 2 ^ d < 340282366920938463463374607431768211456 := by omega
    have g2 : 9007199254740992 ≤ ma * 1180591620717411303424 + mb * 1180591620717411303424 / 2 ^ d := Nat.le_trans (by omega) (Nat.le_add_right _ _)
    have F := fin (ma * 2 ^ d + mb) _ (decide (mb * 1180591620717411303424 % 2 ^ d ≠ 0)) (by omega) g1 hq (by rw [hm]) (Nat.ne_of_gt (Nat.lt_of_lt_of_le (by decide) g2)) (fun _ => g2)
    have UA := U128_Add _ _ g1
    refine Ev.congr (fun k => by rw [if_pos hs']) (Ev.b _ (Ev.const UA) ?_)
    dsimp only
    exact Ev.b (f := fun _ b => some (b.1, b.2)) _ F (Ev.now _)
  · rw [if_neg hs]
    have hs' : ¬ (na == nb) = true := by rw [beq_iff_eq]; exact hs
    have g0 : ma * 1180591620717411303424 < 340282366920938463463374607431768211456 := by omega
    have US := U128_Sub _ _ g0 hqp
    refine Ev.congr (fun k => by rw [if_neg hs']) (Ev.b _ (Ev.const US) ?_)
    dsimp only
    rw [tw_eq_zero _ (Nat.lt_of_le_of_lt (Nat.sub_le _ _) g0)]
    by_cases hz : ma * 2 ^ d = mb
    · rw [if_pos hz]
      have z : ma * 1180591620717411303424 - mb * 1180591620717411303424 / 2 ^ d = 0 := by
        rw [← hz, show ma * 2 ^ d * 1180591620717411303424 = 2 ^ d * (ma * 1180591620717411303424) by grind, Nat.mul_div_cancel_left _ pd]; omega
      have hmz : ((mode : Int) == 2) = decide (mode = 2) := by rw [Bool.eq_iff_iff, beq_iff_eq, decide_eq_true_iff]; omega
      rw [decide_eq_true z]
      refine Ev.congr (fun k => by rw [if_pos rfl, hmz]) (Ev.b (f := fun _ b => some (b, (0 : Int))) _ (zero_ev _) (Ev.now _))
    · rw [if_neg hz]
      have hlt : mb < ma * 2 ^ d := by omega
      have hA : (ma * 2 ^ d - mb) * 1180591620717411303424 + mb * 1180591620717411303424 = 2 ^ d * (ma * 1180591620717411303424) := by
        rw [← Nat.add_mul, Nat.sub_add_cancel hge]; grind
      have hqlt : mb * 1180591620717411303424 / 2 ^ d < ma * 1180591620717411303424 := by
        rw [Nat.div_lt_iff_lt_mul pd, Nat.mul_right_comm]
        exact Nat.mul_lt_mul_of_pos_right hlt (by decide)
      have hN : ma * 2 ^ d - mb ≠ 0 := by omega
      obtain ⟨N, hNN⟩ : ∃ N, ma * 2 ^ d - mb = N := ⟨_, rfl⟩
      obtain ⟨p, hpp⟩ : ∃ p, ma * 1180591620717411303424 = p := ⟨_, rfl⟩
      obtain ⟨q, hqq⟩ : ∃ q, mb * 1180591620717411303424 / 2 ^ d = q := ⟨_, rfl⟩
      obtain ⟨r, hrr⟩ : ∃ r, mb * 1180591620717411303424 % 2 ^ d = r := ⟨_, rfl⟩
      rw [hNN, hpp] at hA
      rw [hpp, hqq] at hqlt hqp
      rw [hqq, hrr] at hqd
      rw [hrr] at hlostd hqm
      rw [hNN] at hN
      rw [hNN, hpp, hqq, hrr]
      have z : ¬ p - q = 0 := Nat.sub_ne_zero_of_lt hqlt
      rw [decide_eq_false z]
      by_cases hr : r = 0
      · have hA2 : N * 1180591620717411303424 = 2 ^ d * (p - q) := by rw [Nat.mul_sub]; exact ar1 hA hqd hr
        have F := fin N (p - q) false hN (by omega) (by rw [hA2, Nat.mul_div_cancel_left _ pd]) (by rw [hA2, Nat.mul_mod_right]; rfl) z (by simp)
        rw [decide_eq_false (show ¬ r ≠ 0 by omega)]
        exact Ev.congr (fun k => by rw [if_neg (by simp), if_neg (by simp)]) (Ev.b (f := fun _ b => some (b.1, b.2)) _ F (Ev.now _))
      · have h71 := hlostd hr
        have hma := h9 (by omega)
        have hA2 : N * 1180591620717411303424 = (2 ^ d - r) + 2 ^ d * (p - q - 1) := by
          rw [Nat.mul_sub, Nat.mul_sub, Nat.mul_one]
          have h12 : 2 ^ d * q + 2 ^ d ≤ 2 ^ d * p := by
            have : 2 ^ d * (q + 1) ≤ 2 ^ d * p := Nat.mul_le_mul_left _ hqlt
            rw [Nat.mul_add, Nat.mul_one] at this; exact this
          exact ar2 hA hqd h12 hqm
        have hdq : N * 1180591620717411303424 / 2 ^ d = p - q - 1 := by
          rw [hA2, Nat.add_mul_div_left _ _ pd, Nat.div_eq_of_lt (by omega)]; omega
        have hdm : N * 1180591620717411303424 % 2 ^ d = 2 ^ d - r := by
          rw [hA2, Nat.add_mul_mod_self_left, Nat.mod_eq_of_lt (by omega)]
        have hqs : q < 9007199254740992 := by
          rw [← hqq, Nat.div_lt_iff_lt_mul pd]
          exact ar3 h4 (pow_le h71)
        have F := fin N (p - q - 1) true hN (by omega) hdq (by rw [hdm, decide_eq_true (show 2 ^ d - r ≠ 0 by omega)]) (by omega) (by intro _; omega)
        rw [decide_eq_true (show r ≠ 0 from hr)]
        have U := U128_Sub (p - q) 1 (by omega) (by omega)
        rw [tw_word (show 1 < 18446744073709551616 by decide), show ((1 : Nat) : Int) = 1 from rfl] at U
        dsimp only at U
        refine Ev.congr (fun k => by rw [if_neg (by simp), if_pos rfl]) (Ev.b _ (Ev.const U) ?_)
        dsimp only
        exact Ev.b (f := fun _ b => some (b.1, b.2)) _ F (Ev.now _)
end Go.Proofs.Ytmadjhmecfbcmaa.M
end
section
namespace Go.Proofs.Ytmadjhmecfbcmaa.M
open Go.RowKit Go.Proofs.YtmadjhmecfbcmaaW.PrintWords Go.Proofs.YtmadjhmecfbcmaaW.PrintLast Go.Proofs.YtmadjhmecfbcmaaW.PrintMore Go.Proofs.Ytmadjhmecfbcmaa.F
theorem either_ok (x0 : Int) (cx : Nat) (x2 : Bool) (x3 x4 y0 : Int) (cy : Nat) (y2 : Bool) (y3 y4 : Int) (c : Nat) :
  soft_either.f x0 (cx : Int) x2 x3 x4 y0 (cy : Int) y2 y3 y4 (c : Int) = some (decide (cx = c ∨ cy = c)) := by
 unfold soft_either.f
 by_cases h : cx = c
 ·rw [if_pos (by omega), decide_eq_true (.inl h)]
 ·rw [if_neg (by omega)]; congr 1; rw [Bool.eq_iff_iff, beq_iff_eq, decide_eq_true_iff]; omega
theorem eq_nat (a b : Nat) : ((a : Int) == (b : Int)) = decide (a = b) := by rw [Bool.eq_iff_iff, beq_iff_eq, decide_eq_true_iff]; omega
theorem sgn_zero {a : Nat} (h : U a) (hz : cls a = 0) : a = sg (sgn a) := by
 have h1 := a_parts a h
 have h2 := (key_cls a).2.2.2.1 hz
 omega
theorem sv_eq (a : Nat) : sv a = if sgn a then -(mg a : Int) else mg a := rfl
theorem RND_self (a mode : Nat) (h : U a) (hf : cls a ≤ 2) : RND (sgn a) (2 * mg a) false mode = (a, 0) := by
 unfold mg
 rw [RND_exact _ _ _ ((key_cls a).1.1 hf), ← a_parts a h]
theorem sAdd_fin {a b : Nat} (mode : Nat) (ca : cls a ≤ 2) (cb : cls b ≤ 2) :
  sAdd a b mode = if sv a + sv b = 0 then (sg (if sgn a = sgn b then sgn a else decide (mode = 2)), 0) else RND (decide (sv a + sv b < 0)) (2 * (sv a + sv b).natAbs) false mode := by
 have c1 : ¬ (cls a = 4 ∨ cls b = 4) := by omega
 have c2 : ¬ (cls a = 3 ∧ cls b = 3 ∧ sgn a ≠ sgn b) := fun h => by have := h.1; omega
 have c3 : ¬ cls a = 3 := by omega
 have c4 : ¬ cls b = 3 := by omega
 unfold sAdd
 rw [if_neg c1, if_neg c2, if_neg c3, if_neg c4]
theorem sAdd_zero_left (a b mode : Nat) (hb : U b) (ca : cls a = 0) (cb : cls b ≤ 2) (cb0 : cls b ≠ 0) : sAdd a b mode = (b, 0) := by
 have m0 : mg a = 0 := (mg_zero a).2 ca
 have mb : mg b ≠ 0 := fun h => cb0 ((mg_zero b).1 h)
 have ha0 : sv a = 0 := by rw [sv_eq, m0]; split <;> rfl
 rw [sAdd_fin mode (by omega) cb, ha0, Int.zero_add, if_neg (by rw [sv_eq]; split <;> omega)]
 rw [← RND_self b mode hb cb]
 have e1 : decide (sv b < 0) = sgn b := by
  rw [sv_eq]; cases sgn b
  ·rw [decide_eq_false]; simp
  ·rw [decide_eq_true]; simp; omega
 have e2 : (sv b).natAbs = mg b := by rw [sv_eq]; split <;> omega
 rw [e1, e2]
theorem sAdd_zero_right (a b mode : Nat) (ha : U a) (cb : cls b = 0) (ca : cls a ≤ 2) (ca0 : cls a ≠ 0) : sAdd a b mode = (a, 0) := by
 have m0 : mg b = 0 := (mg_zero b).2 cb
 have ma : mg a ≠ 0 := fun h => ca0 ((mg_zero a).1 h)
 have hb0 : sv b = 0 := by rw [sv_eq, m0]; split <;> rfl
 rw [sAdd_fin mode ca (by omega), hb0, Int.add_zero, if_neg (by rw [sv_eq]; split <;> omega)]
 rw [← RND_self a mode ha ca]
 have e1 : decide (sv a < 0) = sgn a := by
  rw [sv_eq]; cases sgn a
  ·rw [decide_eq_false]; simp
  ·rw [decide_eq_true]; simp; omega
 have e2 : (sv a).natAbs = mg a := by rw [sv_eq]; split <;> omega
 rw [e1, e2]
theorem big_small (a b mode : Nat) (ca : cls a ≤ 2) (ca0 : cls a ≠ 0) (cb : cls b ≤ 2) (cb0 : cls b ≠ 0) (he : spe b ≤ spe a) (hge : spm b ≤ spm a * 2 ^ (spe a - spe b).toNat) :
    (if sgn a = sgn b then pr (RND (sgn a) (2 * ((spm a * 2 ^ (spe a - spe b).toNat + spm b) * 2 ^ (spe b + 1074).toNat)) false mode)
       else if spm a * 2 ^ (spe a - spe b).toNat = spm b then ((sg (decide (mode = 2)) : Int), 0)
       else pr (RND (sgn a) (2 * ((spm a * 2 ^ (spe a - spe b).toNat - spm b) * 2 ^ (spe b + 1074).toNat)) false mode)) = pr (sAdd a b mode) ∧
    sAdd a b mode = sAdd b a mode := by
  have hb := spe_bd b
  have h1 := mg_split a ca
  have h2 := mg_split b cb
  have ma : mg a ≠ 0 := fun h => ca0 ((mg_zero a).1 h)
  have mb : mg b ≠ 0 := fun h => cb0 ((mg_zero b).1 h)
  have e1 : 2 ^ (spe a + 1074).toNat = 2 ^ (spe a - spe b).toNat * 2 ^ (spe b + 1074).toNat := by rw [← Nat.pow_add]; congr 1; omega
  have h3 : mg a = spm a * 2 ^ (spe a - spe b).toNat * 2 ^ (spe b + 1074).toNat := by rw [h1, e1, Nat.mul_assoc]
  have pp := two_pos (spe b + 1074).toNat
  generalize 2 ^ (spe b + 1074).toNat = P at *
  generalize spm a * 2 ^ (spe a - spe b).toNat = A at *
  generalize spm b = B at *
  have hle : mg b ≤ mg a := by rw [h2, h3]; exact Nat.mul_le_mul_right _ hge
  have hadd : (A + B) * P = mg a + mg b := by rw [Nat.add_mul, h2, h3]
  have hsub : (A - B) * P = mg a - mg b := by rw [Nat.sub_mul, h2, h3]
  have heq : A = B ↔ mg a = mg b := by
    rw [h2, h3]
    exact ⟨fun h => by rw [h], fun h => Nat.eq_of_mul_eq_mul_right pp h⟩
  have swap : sAdd a b mode = sAdd b a mode := by
    rw [sAdd_fin mode ca cb, sAdd_fin mode cb ca, Int.add_comm (sv b)]
    have : (if sgn a = sgn b then sgn a else decide (mode = 2)) = (if sgn b = sgn a then sgn b else decide (mode = 2)) := by
      by_cases h : sgn a = sgn b
      · rw [if_pos h, if_pos h.symm, h]
      · rw [if_neg h, if_neg (Ne.symm h)]
    rw [this]
  refine ⟨?_, swap⟩
  rw [hadd, hsub, sAdd_fin mode ca cb]
  by_cases hs : sgn a = sgn b
  · have hsv : sv a + sv b = if sgn a then -((mg a + mg b : Nat) : Int) else ((mg a + mg b : Nat) : Int) := by
      rw [sv_eq, sv_eq, ← hs]; split <;> omega
    have hne : ¬ sv a + sv b = 0 := by rw [hsv]; split <;> omega
    rw [if_pos hs, if_neg hne]
    have e1 : decide (sv a + sv b < 0) = sgn a := by
      rw [hsv]; cases sgn a
      · rw [decide_eq_false]; simp; omega
      · rw [decide_eq_true]; simp; omega
    have e2 : (sv a + sv b).natAbs = mg a + mg b := by rw [hsv]; split <;> omega
    rw [e1, e2]
  · have hb2 : sgn b = !sgn a := by revert hs; cases sgn a <;> cases sgn b <;> simp
    have hsv : sv a + sv b = if sgn a then -((mg a - mg b : Nat) : Int) else ((mg a - mg b : Nat) : Int) := by
      rw [sv_eq, sv_eq, hb2]; cases sgn a <;> simp <;> omega
    rw [if_neg hs]
    by_cases hz : A = B
    · have hz' := heq.1 hz
      rw [if_pos hz, if_pos (by rw [hsv, hz']; split <;> omega), if_neg hs]; rfl
    · have hz' : ¬ mg a = mg b := fun h => hz (heq.2 h)
      have hne : ¬ sv a + sv b = 0 := by rw [hsv]; split <;> omega
      rw [if_neg hz, if_neg hne]
      have e1 : decide (sv a + sv b < 0) = sgn a := by
        rw [hsv]; cases sgn a
        · rw [decide_eq_false]; simp
        · rw [decide_eq_true]; simp; omega
      have e2 : (sv a + sv b).natAbs = mg a - mg b := by rw [hsv]; split <;> omega
      rw [e1, e2]
theorem spe_cls (a : Nat) (h : cls a ≤ 2) (h2 : -1074 < spe a) (h0 : cls a ≠ 0) : 4503599627370496 ≤ spm a := by
 unfold spe at h2; unfold spm
 split
 ·omega
 ·rename_i c; rw [if_neg c] at h2; split at h2 <;> omega
theorem add_big (a b mode : Nat) (k0 : cls a ≤ 2) (ca0 : cls a ≠ 0) (cb : cls b ≤ 2) (cb0 : cls b ≠ 0) (h : spe b < spe a ∨ spe a = spe b ∧ spm b ≤ spm a) (fa fb xa xb : Int) :
  Ev (fun k => soft_num_add.f k fa xa (sgn a) (spm a : Int) (spe a) fb xb (sgn b) (spm b : Int) (spe b) (mode : Int)) (pr (sAdd a b mode)) ∧ sAdd a b mode = sAdd b a mode := by
 have ha := spe_bd a
 have hb := spe_bd b
 have ma : spm a ≠ 0 := fun h => ca0 ((spm_zero a k0).1 h)
 have mb : spm b ≠ 0 := fun h => cb0 ((spm_zero b cb).1 h)
 have N := num_add_ev fa fb xa xb (sgn a) (sgn b) (spm a) (spm b) (spe a) (spe b) mode (by omega) (spm_lt a) (by omega) (spm_lt b) hb.1 (by omega) ha.2 (by omega) (fun h => spe_cls a k0 h ca0)
 have B := big_small a b mode k0 ca0 cb cb0 (by omega) N.1
 rw [B.1] at N
 exact ⟨N.2, B.2⟩
theorem Add_ev (a b mode : Nat) (ha : U a) (hb : U b) : Ev (fun k => soft_Add.f k (a : Int) (b : Int) (mode : Int)) (pr (sAdd a b mode)) := by
 have la := cls_le a
 have lb := cls_le b
 have m2 : ((mode : Int) == 2) = decide (mode = 2) := eq_nat mode 2
 have ne : (sgn a != sgn b) = decide (sgn a ≠ sgn b) := by rw [Bool.eq_iff_iff, bne_iff_ne, decide_eq_true_iff]
 have za : ((spm a : Int) == 0) = decide (spm a = 0) := eq_nat _ 0
 have zb : ((spm b : Int) == 0) = decide (spm b = 0) := eq_nat _ 0
 unfold soft_Add.f
 refine Ev.b _ (of_ev a ha) (Ev.b _ (of_ev b hb) ?_)
 dsimp only
 have E4 := either_ok (a : Int) (cls a) (sgn a) (spm a : Int) (spe a) (b : Int) (cls b) (sgn b) (spm b : Int) (spe b) 4
 refine Ev.b _ (Ev.const E4) ?_
 by_cases c4 : cls a = 4 ∨ cls b = 4
 ·have hS : sAdd a b mode = (QN, 0) := by unfold sAdd; rw [if_pos c4]
  rw [hS, decide_eq_true c4]
  exact Ev.congr (fun k => by rw [if_pos rfl]) (Ev.b (f := fun _ x => some (x, (0 : Int))) _ (Ev.const (show pattern_Quiet.f = some (QN : Int) from rfl)) (Ev.now _))
 rw [decide_eq_false c4]
 have J2 : cls a ≤ 2 → cls b ≤ 2 → ¬ (cls a = 0 ∧ cls b = 0 ∧ sgn a = sgn b) → Ev (fun k => soft_Add.j2 k (a : Int) (b : Int) (mode : Int) (if spm a = 0 then decide (spm b = 0) else false) (a : Int) (cls a : Int) (sgn a) (spm a : Int) (spe a) (b : Int) (cls b : Int) (sgn b) (spm b : Int) (spe b)) (pr (sAdd a b mode)) := by
  intro ka kb hn
  have sa := spm_zero a ka
  have sb := spm_zero b kb
  refine Ev.next ?_
  simp only [soft_Add.j2]
  rw [m2]
  by_cases a0 : cls a = 0
  ·by_cases b0 : cls b = 0
   ·have hS : sAdd a b mode = (sg (decide (mode = 2)), 0) := by
     have m0 : mg a = 0 := (mg_zero a).2 a0
     have m1 : mg b = 0 := (mg_zero b).2 b0
     rw [sAdd_fin mode ka kb, if_pos (by rw [sv_eq, sv_eq, m0, m1]; split <;> split <;> rfl), if_neg (fun h => hn ⟨a0, b0, h⟩)]
    rw [hS, if_pos (sa.2 a0), decide_eq_true (sb.2 b0)]
    exact Ev.congr (fun k => by rw [if_pos rfl]) (Ev.b (f := fun _ x => some (x, (0 : Int))) _ (zero_ev _) (Ev.now _))
   ·have sb' : ¬ spm b = 0 := fun h => b0 (sb.1 h)
    rw [sAdd_zero_left a b mode hb a0 kb b0, if_pos (sa.2 a0), decide_eq_false sb']
    have : (spm a : Int) = 0 := by rw [sa.2 a0]; rfl
    exact Ev.all fun k => by rw [if_neg (by simp), if_pos this]; rfl
  ·have sa' : ¬ spm a = 0 := fun h => a0 (sa.1 h)
   have sa2 : ¬ (spm a : Int) = 0 := by omega
   rw [if_neg sa']
   by_cases b0 : cls b = 0
   ·have : (spm b : Int) = 0 := by rw [sb.2 b0]; rfl
    rw [sAdd_zero_right a b mode ha b0 ka a0]
    exact Ev.all fun k => by rw [if_neg (by simp), if_neg sa2, if_pos this]; rfl
   ·have sb2 : ¬ (spm b : Int) = 0 := by have : ¬ spm b = 0 := fun h => b0 (sb.1 h); omega
    by_cases h1 : spe a < spe b
    ·have A := add_big b a mode kb b0 ka a0 (.inl h1) (b : Int) (a : Int) (cls b : Int) (cls a : Int)
     rw [A.2] at A
     exact Ev.congr (fun k => by rw [if_neg (by simp), if_neg sa2, if_neg sb2, if_pos h1]) (Ev.b (f := fun _ x => some (x.1, x.2)) _ A.1 (Ev.now _))
    ·by_cases h2 : spe a = spe b
     ·by_cases h3 : (spm a : Int) < (spm b : Int)
      ·have A := add_big b a mode kb b0 ka a0 (.inr ⟨h2.symm, by omega⟩) (b : Int) (a : Int) (cls b : Int) (cls a : Int)
       rw [A.2] at A
       exact Ev.congr (fun k => by rw [if_neg (by simp), if_neg sa2, if_neg sb2, if_neg h1, if_pos h2, if_pos h3]) (Ev.b (f := fun _ x => some (x.1, x.2)) _ A.1 (Ev.now _))
      ·have A := add_big a b mode ka a0 kb b0 (.inr ⟨h2, by omega⟩) (a : Int) (b : Int) (cls a : Int) (cls b : Int)
       exact Ev.congr (fun k => by rw [if_neg (by simp), if_neg sa2, if_neg sb2, if_neg h1, if_pos h2, if_neg h3]) (Ev.b (f := fun _ x => some (x.1, x.2)) _ A.1 (Ev.now _))
     ·have A := add_big a b mode ka a0 kb b0 (.inl (by omega)) (a : Int) (b : Int) (cls a : Int) (cls b : Int)
      exact Ev.congr (fun k => by rw [if_neg (by simp), if_neg sa2, if_neg sb2, if_neg h1, if_neg h2]) (Ev.b (f := fun _ x => some (x.1, x.2)) _ A.1 (Ev.now _))
 have J1 : cls a ≤ 2 → cls b ≤ 2 → Ev (fun k => soft_Add.j1 k (a : Int) (b : Int) (mode : Int) (if spm a = 0 then (if spm b = 0 then sgn a == sgn b else false) else false) (a : Int) (cls a : Int) (sgn a) (spm a : Int) (spe a) (b : Int) (cls b : Int) (sgn b) (spm b : Int) (spe b)) (pr (sAdd a b mode)) := by
  intro ka kb
  have sa := spm_zero a ka
  have sb := spm_zero b kb
  refine Ev.next ?_
  simp only [soft_Add.j1]
  by_cases z : cls a = 0 ∧ cls b = 0 ∧ sgn a = sgn b
  ·obtain ⟨z1, z2, z3⟩ := z
   have hS : sAdd a b mode = (a, 0) := by
    have m0 : mg a = 0 := (mg_zero a).2 z1
    have m1 : mg b = 0 := (mg_zero b).2 z2
    rw [sAdd_fin mode ka kb, if_pos (by rw [sv_eq, sv_eq, m0, m1]; split <;> split <;> rfl), if_pos z3, ← sgn_zero ha z1]
   rw [hS, if_pos (sa.2 z1), if_pos (sb.2 z2), beq_iff_eq.2 z3]
   exact Ev.all fun k => by rw [if_pos rfl]; rfl
  ·have hb0 : (if spm a = 0 then (if spm b = 0 then sgn a == sgn b else false) else false) = false := by
    split
    ·split
     ·rw [beq_eq_false_iff_ne]; intro h; exact z ⟨sa.1 (by assumption), sb.1 (by assumption), h⟩
     ·rfl
    ·rfl
   rw [hb0]
   have J := J2 ka kb z
   rw [zb]
   by_cases a0 : spm a = 0
   ·rw [if_pos a0] at J
    exact Ev.congr (fun k => by rw [if_neg (by simp), if_pos (by omega)]) J
   ·rw [if_neg a0] at J
    exact Ev.congr (fun k => by rw [if_neg (by simp), if_neg (by omega)]) J
 have J0 : Ev (fun k => soft_Add.j0 k (a : Int) (b : Int) (mode : Int) (if cls a = 3 then (if cls b = 3 then sgn a != sgn b else false) else false) (a : Int) (cls a : Int) (sgn a) (spm a : Int) (spe a) (b : Int) (cls b : Int) (sgn b) (spm b : Int) (spe b)) (pr (sAdd a b mode)) := by
  refine Ev.next ?_
  simp only [soft_Add.j0]
  by_cases a3 : cls a = 3
  ·rw [if_pos a3]
   by_cases b3 : cls b = 3
   ·rw [if_pos b3, ne]
    by_cases hs : sgn a = sgn b
    ·have hS : sAdd a b mode = (a, 0) := by unfold sAdd; rw [if_neg c4, if_neg (by intro h; exact h.2.2 hs), if_pos a3]
     rw [hS, decide_eq_false (by intro h; exact h hs)]
     exact Ev.all fun k => by rw [if_neg (by simp), if_pos (by omega)]; rfl
    ·have hS : sAdd a b mode = (QN, 16) := by unfold sAdd; rw [if_neg c4, if_pos ⟨a3, b3, hs⟩]
     rw [hS, decide_eq_true hs]
     exact Ev.all fun k => by rw [if_pos rfl]; rfl
   ·have hS : sAdd a b mode = (a, 0) := by unfold sAdd; rw [if_neg c4, if_neg (by omega), if_pos a3]
    rw [hS, if_neg b3]
    exact Ev.all fun k => by rw [if_neg (by simp), if_pos (by omega)]; rfl
  ·rw [if_neg a3]
   by_cases b3 : cls b = 3
   ·have hS : sAdd a b mode = (b, 0) := by unfold sAdd; rw [if_neg c4, if_neg (by omega), if_neg a3, if_pos b3]
    rw [hS]
    exact Ev.all fun k => by rw [if_neg (by simp), if_neg (by omega), if_pos (by omega)]; rfl
   ·have J := J1 (by omega) (by omega)
    by_cases a0 : spm a = 0
    ·rw [if_pos a0] at J
     by_cases b0 : spm b = 0
     ·rw [if_pos b0] at J
      exact Ev.congr (fun k => by rw [if_neg (by simp), if_neg (by omega), if_neg (by omega), if_pos (by omega), if_pos (by omega)]) J
     ·rw [if_neg b0] at J
      exact Ev.congr (fun k => by rw [if_neg (by simp), if_neg (by omega), if_neg (by omega), if_pos (by omega), if_neg (by omega)]) J
    ·rw [if_neg a0] at J
     exact Ev.congr (fun k => by rw [if_neg (by simp), if_neg (by omega), if_neg (by omega), if_neg (by omega)]) J
 by_cases a3 : cls a = 3
 ·rw [if_pos a3] at J0
  by_cases b3 : cls b = 3
  ·rw [if_pos b3] at J0
   exact Ev.congr (fun k => by rw [if_neg (by simp), if_pos (by omega), if_pos (by omega)]) J0
  ·rw [if_neg b3] at J0
   exact Ev.congr (fun k => by rw [if_neg (by simp), if_pos (by omega), if_neg (by omega)]) J0
 ·rw [if_neg a3] at J0
  exact Ev.congr (fun k => by rw [if_neg (by simp), if_neg (by omega)]) J0
theorem Sub_ev (a b mode : Nat) (ha : U a) (hb : U b) : Ev (fun k => soft_Sub.f k (a : Int) (b : Int) (mode : Int)) (pr (sAdd a (ng b) mode)) := by
 unfold soft_Sub.f
 exact Ev.b _ (Neg_ev b hb) (Ev.b (f := fun _ x => some (x.1, x.2)) _ (Add_ev a (ng b) mode ha (ng_U b hb)) (Ev.now _))
end Go.Proofs.Ytmadjhmecfbcmaa.M
end
section
namespace Go.Proofs.Ytmadjhmecfbcmaa.M
def lim (d : Nat) : Nat := if d = 2 then 9218868437227405311 else 9218868437227405312
def cap (X : Nat) (s : Bool) (d : Nat) : Nat := if 9218868437227405312 ≤ kk X s d then lim d else kk X s d
theorem cap_over' {X : Nat} {s : Bool} {d : Nat} (h : 9218868437227405312 ≤ kk X s d) : cap X s d = lim d := by unfold cap; rw [if_pos h]
theorem cap_in {X : Nat} {s : Bool} {d : Nat} (h : ¬ 9218868437227405312 ≤ kk X s d) : cap X s d = kk X s d := by unfold cap; rw [if_neg h]
theorem cap_over {X : Nat} {s : Bool} {d : Nat} (h : 9218868437227405312 ≤ kk X s d) : cap X s d = if d = 2 then 9218868437227405311 else 9218868437227405312 := by rw [cap_over' h]; unfold lim; rfl
theorem RND_cap (neg : Bool) (X : Nat) (s : Bool) (m : Nat) : ∃ f, RND neg X s m = (sg neg + cap X s (dir neg m), f) := by
 by_cases c : 9218868437227405312 ≤ kk X s (dir neg m)
 ·exact ⟨_, by rw [RND_over c, cap_over c]⟩
 ·exact ⟨_, by rw [RND_in c, cap_in c]⟩
theorem cap_le (X : Nat) (s : Bool) (d : Nat) : cap X s d ≤ 9218868437227405312 := by
 by_cases c1 : 9218868437227405312 ≤ kk X s d
 ·rw [cap_over c1]; split <;> decide
 ·rw [cap_in c1]; omega
def ord (a : Nat) : Int := if sgn a then -(key a : Int) else key a
theorem sgn_sg (neg : Bool) (k : Nat) (h : k < 9223372036854775808) : sgn (sg neg + k) = neg := by
 unfold sgn sg; cases neg
 ·rw [if_neg (by decide)]; rw [show (0 + k) / 9223372036854775808 = 0 by omega]; rfl
 ·rw [if_pos rfl, show (9223372036854775808 + k) / 9223372036854775808 = 1 by omega]; rfl
theorem key_sg (neg : Bool) (k : Nat) (h : k < 9223372036854775808) : key (sg neg + k) = k := by
 unfold key sg; cases neg
 ·rw [if_neg (by decide)]; omega
 ·rw [if_pos rfl]; omega
theorem ord_sg (neg : Bool) (k : Nat) (h : k < 9223372036854775808) : ord (sg neg + k) = if neg then -(k : Int) else k := by
 unfold ord; rw [sgn_sg neg k h, key_sg neg k h]
theorem cls_sg (neg : Bool) (k : Nat) (h : k ≤ 9218868437227405312) : cls (sg neg + k) ≤ 3 := by
 have := (key_cls (sg neg + k)).2.2.1
 rw [key_sg neg k (by omega)] at this
 have h2 := cls_le (sg neg + k)
 omega
theorem RND_fst (neg : Bool) (X : Nat) (s : Bool) (m : Nat) : (RND neg X s m).1 = sg neg + cap X s (dir neg m) := by
 obtain ⟨f, h⟩ := RND_cap neg X s m
 rw [h]
theorem ord_RND (neg : Bool) (X : Nat) (s : Bool) (m : Nat) : ord (RND neg X s m).1 = if neg then -(cap X s (dir neg m) : Int) else cap X s (dir neg m) := by
 have := cap_le X s (dir neg m)
 rw [RND_fst, ord_sg _ _ (by omega)]
theorem cls_RND (neg : Bool) (X : Nat) (s : Bool) (m : Nat) : cls (RND neg X s m).1 ≤ 3 := by
 rw [RND_fst]; exact cls_sg _ _ (cap_le _ _ _)
theorem U_RND (neg : Bool) (X : Nat) (s : Bool) (m : Nat) : U (RND neg X s m).1 := by
 have := cap_le X s (dir neg m)
 rw [RND_fst]; unfold U sg; split <;> omega
theorem ord_pos_ge (a : Nat) (h : sgn a = false) : 0 ≤ ord a := by unfold ord; rw [h, if_neg (by decide)]; omega
theorem ord_bd (a : Nat) (h : cls a ≠ 4) : -9218868437227405312 ≤ ord a ∧ ord a ≤ 9218868437227405312 := by
 have h1 := (key_cls a).2.2.1
 have : ¬ 9218868437227405312 < key a := fun h2 => h (h1.2 h2)
 unfold ord; split <;> omega
theorem ord_inf (a : Nat) (h : cls a = 3) : ord a = if sgn a then -9218868437227405312 else 9218868437227405312 := by
 have h1 := (key_cls a).2.1.1 h
 unfold ord; rw [h1]; rfl
theorem ord_zero (a : Nat) : ord a = 0 ↔ cls a = 0 := by
 rw [(key_cls a).2.2.2]; unfold ord; split <;> omega
theorem ord_fin (a : Nat) (h : cls a ≤ 2) : -9218868437227405312 < ord a ∧ ord a < 9218868437227405312 := by
 have := (key_cls a).1.1 h
 unfold ord; split <;> omega
def ro (neg : Bool) (X : Nat) (s : Bool) (m : Nat) : Int := if neg then -(cap X s (dir neg m) : Int) else cap X s (dir neg m)
def rq (v : Int) (D m : Nat) : Int := ro (decide (v < 0)) (v.natAbs / D) (decide (v.natAbs % D ≠ 0)) m
theorem cap_zero (d : Nat) : cap 0 false d = 0 := by
 have h : sh 0 = 1 := rfl
 have hw : wd 0 = 0 := by unfold wd; simp
 have hfk : fk 0 = 0 := by unfold fk; rw [h, hw]
 have hh : hf 0 = false := by unfold hf; simp
 have hr : rs 0 false = false := by unfold rs; simp
 have hk : kk 0 false d = 0 := by unfold kk upw; rw [hfk, hh, hr]; simp
 rw [cap_in (by rw [hk]; decide), hk]
theorem rq_zero (D m : Nat) : rq 0 D m = 0 := by
 unfold rq ro
 simp [cap_zero]
theorem ite0 (p : Prop) [Decidable p] : (if p then -((0 : Nat) : Int) else ((0 : Nat) : Int)) = 0 := by split <;> rfl
theorem ord_sAdd (a b m : Nat) (ca : cls a ≤ 2) (cb : cls b ≤ 2) : ord (sAdd a b m).1 = rq (2 * (sv a + sv b)) 1 m := by
 rw [sAdd_fin m ca cb]
 split
 ·rename_i h
  rw [h, show (2 * 0 : Int) = 0 from rfl, rq_zero]
  have := ord_sg (if sgn a = sgn b then sgn a else decide (m = 2)) 0 (by decide)
  rw [Nat.add_zero] at this
  rw [this]; exact ite0 _
 ·rename_i h
  rw [ord_RND]
  unfold rq
  have e1 : (2 * (sv a + sv b)).natAbs = 2 * (sv a + sv b).natAbs := by omega
  have e2 : decide (2 * (sv a + sv b) < 0) = decide (sv a + sv b < 0) := by rw [decide_eq_decide]; omega
  rw [e1, e2, Nat.div_one, Nat.mod_one]
  rfl
theorem FX_mul (a b : Nat) (ca : cls a ≤ 2) (cb : cls b ≤ 2) : FX (spm a * spm b) 1 (spe a + spe b) = mg a * mg b / 2 ^ 1073 ∧ FS (spm a * spm b) 1 (spe a + spe b) false = decide (mg a * mg b % 2 ^ 1073 ≠ 0) := by
 have ha := spe_bd a
 have hb := spe_bd b
 obtain ⟨T, hT⟩ : ∃ T : Nat, T = (spe a + 1074).toNat + (spe b + 1074).toNat := ⟨_, rfl⟩
 have e1 : mg a * mg b = spm a * spm b * 2 ^ T := by
  rw [mg_split a ca, mg_split b cb, hT, Nat.pow_add]; grind
 have S := FXS_scale (spm a * spm b) 1 T (spe a + spe b) false
 have e2 : spe a + spe b - (T : Int) = -2148 := by omega
 rw [e2, ← e1] at S
 rw [← S.1, ← S.2, FX_one, FS_one]
 have e3 : ((-2148 : Int) + 1075).toNat = 0 := by decide
 have e4 : (-((-2148 : Int) + 1075)).toNat = 1073 := by decide
 rw [e3, e4, Nat.pow_zero, Nat.mul_one]
 exact ⟨rfl, rfl⟩
theorem sMul_fin {a b : Nat} (m : Nat) (ca : cls a ≤ 2) (cb : cls b ≤ 2) :
  sMul a b m = if mg a * mg b = 0 then (sg (sgn a != sgn b), 0) else RND (sgn a != sgn b) (mg a * mg b / 2 ^ 1073) (decide (mg a * mg b % 2 ^ 1073 ≠ 0)) m := by
 unfold sMul
 have c1 : ¬ (cls a = 4 ∨ cls b = 4) := by omega
 have c2 : ¬ (cls a = 3 ∧ cls b = 0 ∨ cls a = 0 ∧ cls b = 3) := by omega
 have c3 : ¬ (cls a = 3 ∨ cls b = 3) := by omega
 have F := FX_mul a b ca cb
 have z : spm a * spm b = 0 ↔ mg a * mg b = 0 := by
  rw [Nat.mul_eq_zero, Nat.mul_eq_zero, spm_zero a ca, spm_zero b cb, mg_zero, mg_zero]
 rw [if_neg c1, if_neg c2, if_neg c3, F.1, F.2]
 by_cases c : mg a * mg b = 0
 ·rw [if_pos c, if_pos (z.2 c)]
 ·rw [if_neg c, if_neg (fun h => c (z.1 h))]
end Go.Proofs.Ytmadjhmecfbcmaa.M
end
section
namespace Go.Proofs.Ytmadjhmecfbcmaa.M
open Go.RowKit Go.Proofs.YtmadjhmecfbcmaaW.PrintWords Go.Proofs.YtmadjhmecfbcmaaW.PrintLast Go.Proofs.YtmadjhmecfbcmaaW.PrintMore Go.Proofs.Ytmadjhmecfbcmaa.F
def cmpI (a b : Nat) : Int × Bool := if cls a = 4 ∨ cls b = 4 then (0, false) else (if ord a < ord b then -1 else if ord b < ord a then 1 else 0, true)
def less (a b : Nat) : Bool := decide (cls a ≠ 4 ∧ cls b ≠ 4 ∧ ord a < ord b)
theorem pkey_ok (a : Nat) (h : U a) : pattern_key.f (a : Int) = some (ord a) := by
 have hk := key_lt a
 unfold pattern_key.f
 rw [andNot_sign a h]
 have e0 : ((a % 9223372036854775808 : Nat) : Int) = (key a : Int) := rfl
 rw [e0, w64 (n := (key a : Int)) (by omega) (by omega), w64 (by omega) (by omega)]
 have es : ((a : Int) / 9223372036854775808 = 1) ↔ sgn a = true := by rw [← sgn_cast, beq_iff_eq]
 unfold ord
 by_cases c : sgn a = true
 ·rw [if_pos (es.2 c), if_pos c]
 ·rw [if_neg (fun h2 => c (es.1 h2)), if_neg c]
theorem Cmp_ev (a b : Nat) (ha : U a) (hb : U b) : Ev (fun k => pattern_Cmp.f k (a : Int) (b : Int)) (cmpI a b) := by
 have J1 : Ev (fun k => pattern_Cmp.j0 k (a : Int) (b : Int) true) (0, false) := by
  refine Ev.next ?_
  simp only [pattern_Cmp.j0]
  exact Ev.congr (fun k => by rw [if_pos trivial]) (Ev.now _)
 unfold pattern_Cmp.f
 refine Ev.b _ (nan_ev a ha) ?_
 by_cases c1 : cls a = 4
 ·have e : cmpI a b = (0, false) := by unfold cmpI; rw [if_pos (.inl c1)]
  rw [e]
  exact Ev.congr (fun k => by rw [decide_eq_true c1, if_pos rfl]) J1
 ·refine Ev.congr (fun k => by rw [decide_eq_false c1, if_neg (by decide)]) ?_
  refine Ev.b _ (nan_ev b hb) ?_
  by_cases c2 : cls b = 4
  ·have e : cmpI a b = (0, false) := by unfold cmpI; rw [if_pos (.inr c2)]
   rw [e]
   exact Ev.congr (fun k => by rw [decide_eq_true c2]) J1
  ·refine Ev.congr (fun k => by rw [decide_eq_false c2]) ?_
   refine Ev.next ?_
   simp only [pattern_Cmp.j0]
   refine Ev.congr (fun k => by rw [if_neg (by decide)]) ?_
   refine Ev.b _ (Ev.const (pkey_ok a ha)) (Ev.b _ (Ev.const (pkey_ok b hb)) (Ev.const ?_))
   unfold cmpI
   rw [if_neg (show ¬ (cls a = 4 ∨ cls b = 4) by omega)]
   by_cases c3 : ord a < ord b
   ·rw [if_pos c3, if_pos c3]
   ·rw [if_neg c3, if_neg c3]
    by_cases c4 : ord a > ord b
    ·rw [if_pos c4, if_pos c4]
    ·rw [if_neg c4, if_neg c4]
theorem Less_ev (a b : Nat) (ha : U a) (hb : U b) : Ev (fun k => pattern_Less.f k (a : Int) (b : Int)) (less a b) := by
 unfold pattern_Less.f
 refine Ev.b _ (Cmp_ev a b ha hb) (Ev.const ?_)
 unfold cmpI less
 by_cases c : cls a = 4 ∨ cls b = 4
 ·rw [if_pos c, if_neg (by decide)]
  congr 1; symm; rw [decide_eq_false_iff_not]; omega
 ·rw [if_neg c, if_pos rfl]
  congr 1; rw [decide_eq_decide]; dsimp only
  by_cases c3 : ord a < ord b
  ·rw [if_pos c3]
   exact ⟨fun _ => ⟨fun h => c (.inl h), fun h => c (.inr h), c3⟩, fun _ => by decide⟩
  ·rw [if_neg c3]
   refine ⟨fun h => ?_, fun h => absurd h.2.2 c3⟩
   split at h
   ·exact absurd h (by decide)
   ·exact absurd h (by decide)
end Go.Proofs.Ytmadjhmecfbcmaa.M
end
section
namespace Go.Proofs.Ytmadjhmecfbcmaa.M
open Go.RowKit Go.Proofs.YtmadjhmecfbcmaaW.PrintWords Go.Proofs.YtmadjhmecfbcmaaW.PrintLast Go.Proofs.YtmadjhmecfbcmaaW.PrintMore Go.Proofs.Ytmadjhmecfbcmaa.F
theorem Quiet_ok : pattern_Quiet.f = some (QN : Int) := rfl
theorem invalid_ok : soft_invalid.f = some ((QN : Int), 16) := rfl
theorem wMul_ok (x y : Nat) (hx : x < 18446744073709551616) (hy : y < 18446744073709551616) : wide_Mul.f (x : Int) (y : Int) = some ((tw (x * y)).1, (tw (x * y)).2) := by
 unfold wide_Mul.f bits_Mul64.f
 rw [if_pos (by omega)]
 unfold tw
 simp only [Option.bind_some]
 rw [← Int.natCast_mul]
 congr 1
theorem Mul_ev (a b mode : Nat) (ha : U a) (hb : U b) : Ev (fun k => soft_Mul.f k (a : Int) (b : Int) (mode : Int)) (pr (sMul a b mode)) := by
 unfold soft_Mul.f
 refine Ev.b _ (of_ev a ha) (Ev.b _ (of_ev b hb) ?_)
 dsimp only
 have E := fun c => either_ok (a : Int) (cls a) (sgn a) (spm a : Int) (spe a) (b : Int) (cls b) (sgn b) (spm b : Int) (spe b) c
 have E4 := E 4
 have E3 := E 3
 have E0 := E 0
 rw [show ((4 : Nat) : Int) = 4 from rfl] at E4
 rw [show ((3 : Nat) : Int) = 3 from rfl] at E3
 rw [show ((0 : Nat) : Int) = 0 from rfl] at E0
 refine Ev.b _ (Ev.const E4) ?_
 by_cases c4 : cls a = 4 ∨ cls b = 4
 ·have hS : sMul a b mode = (QN, 0) := by unfold sMul; rw [if_pos c4]
  rw [hS, decide_eq_true c4]
  exact Ev.congr (fun k => by rw [if_pos rfl]) (Ev.b (f := fun _ x => some (x, (0 : Int))) _ (Ev.const Quiet_ok) (Ev.now _))
 rw [decide_eq_false c4]
 have J : Ev (fun k => soft_Mul.j0 k (mode : Int) (sgn a != sgn b) (if cls a = 3 ∨ cls b = 3 then decide (cls a = 0 ∨ cls b = 0) else false) (a : Int) (cls a : Int) (sgn a) (spm a : Int) (spe a) (b : Int) (cls b : Int) (sgn b) (spm b : Int) (spe b)) (pr (sMul a b mode)) := by
  refine Ev.next ?_
  simp only [soft_Mul.j0]
  by_cases c3 : cls a = 3 ∨ cls b = 3
  ·rw [if_pos c3]
   by_cases c0 : cls a = 0 ∨ cls b = 0
   ·have hS : sMul a b mode = (QN, 16) := by unfold sMul; rw [if_neg c4, if_pos (show cls a = 3 ∧ cls b = 0 ∨ cls a = 0 ∧ cls b = 3 by omega)]
    rw [hS, decide_eq_true c0]
    exact Ev.congr (fun k => by rw [if_pos rfl]) (Ev.b (f := fun _ x => some (x.1, x.2)) _ (Ev.const invalid_ok) (Ev.now _))
   ·have hS : sMul a b mode = (sg (sgn a != sgn b) + INF, 0) := by unfold sMul; rw [if_neg c4, if_neg (show ¬ (cls a = 3 ∧ cls b = 0 ∨ cls a = 0 ∧ cls b = 3) by omega), if_pos c3]
    rw [hS, decide_eq_false c0]
    refine Ev.congr (fun k => by rw [if_neg (by simp)]) (Ev.b _ (Ev.const E3) ?_)
    rw [decide_eq_true c3]
    exact Ev.congr (fun k => by rw [if_pos rfl]) (Ev.b (f := fun _ x => some (x, (0 : Int))) _ (Inf_ev _) (Ev.now _))
  ·have c0 : ¬ (cls a = 3 ∧ cls b = 0 ∨ cls a = 0 ∧ cls b = 3) := by omega
   have la := spm_lt a
   have lb := spm_lt b
   have ea := spe_bd a
   have eb := spe_bd b
   have hM : spm a * spm b < 340282366920938463463374607431768211456 := by
    have h1 : spm a * spm b ≤ 9007199254740992 * spm b := Nat.mul_le_mul_right _ (by omega)
    have h2 : 9007199254740992 * spm b ≤ 9007199254740992 * 9007199254740992 := Nat.mul_le_mul_left _ (by omega)
    omega
   have R := Round_ev (sgn a != sgn b) (spm a * spm b) (spe a + spe b) false mode hM
   rw [cl_id (by omega) (by omega), Bool.false_and] at R
   have hS : (if spm a * spm b = 0 then ((sg (sgn a != sgn b) : Int), (0 : Int)) else pr (RND (sgn a != sgn b) (FX (spm a * spm b) 1 (spe a + spe b)) (FS (spm a * spm b) 1 (spe a + spe b) false) mode)) = pr (sMul a b mode) := by
    unfold sMul; rw [if_neg c4, if_neg c0, if_neg c3]
    by_cases z : spm a * spm b = 0
    ·rw [if_pos z, if_pos z]; rfl
    ·rw [if_neg z, if_neg z]
   rw [hS] at R
   have w1 : wrap64 (spe a + spe b) = spe a + spe b := w64 (by omega) (by omega)
   rw [if_neg c3]
   refine Ev.congr (fun k => by rw [if_neg (by simp)]) (Ev.b _ (Ev.const E3) ?_)
   rw [decide_eq_false c3]
   refine Ev.congr (fun k => by rw [if_neg (by simp)]) (Ev.b _ (Ev.const (wMul_ok _ _ (by omega) (by omega))) ?_)
   dsimp only
   rw [w1]
   exact Ev.b (f := fun _ x => some (x.1, x.2)) _ R (Ev.now _)
 refine Ev.congr (fun k => by rw [if_neg (by simp)]) (Ev.b _ (Ev.const E3) ?_)
 by_cases c3 : cls a = 3 ∨ cls b = 3
 ·rw [if_pos c3] at J
  rw [decide_eq_true c3]
  refine Ev.congr (fun k => by rw [if_pos rfl]) (Ev.b _ (Ev.const E0) ?_)
  exact J
 ·rw [if_neg c3] at J
  rw [decide_eq_false c3]
  exact Ev.congr (fun k => by rw [if_neg (by simp)]) J
theorem Div64_ok (x y z : Nat) (h1 : x < z) (h2 : z < 18446744073709551616) (h3 : y < 18446744073709551616) :
  bits_Div64.f (x : Int) (y : Int) (z : Int) = some ((((x * 18446744073709551616 + y) / z : Nat) : Int), (((x * 18446744073709551616 + y) % z : Nat) : Int)) := by
 unfold bits_Div64.f
 rw [if_pos (by omega), Int.natCast_ediv, Int.natCast_emod, Int.natCast_add, Int.natCast_mul]; rfl
theorem U128_Div (hi z : Nat) (h1 : hi < 18446744073709551616) (hz : 0 < z) (h2 : z < 18446744073709551616) :
  wide_U128_Div.f (hi : Int) 0 (z : Int) = some ((tw (hi * 18446744073709551616 / z)).1, (tw (hi * 18446744073709551616 / z)).2, ((hi * 18446744073709551616 % z : Nat) : Int)) := by
 have hm := Nat.mod_lt hi hz
 have hl : hi % z * 18446744073709551616 / z < 18446744073709551616 := by
  rw [Nat.div_lt_iff_lt_mul hz, Nat.mul_comm 18446744073709551616]
  exact Nat.mul_lt_mul_of_pos_right hm (by decide)
 have e : hi * 18446744073709551616 = hi % z * 18446744073709551616 + z * (hi / z * 18446744073709551616) := by
  have := Nat.div_add_mod hi z
  have h4 : hi * 18446744073709551616 = (z * (hi / z) + hi % z) * 18446744073709551616 := by rw [this]
  rw [h4, Nat.add_mul]; grind
 have eq : hi * 18446744073709551616 / z = hi / z * 18446744073709551616 + hi % z * 18446744073709551616 / z := by
  rw [e, Nat.add_mul_div_left _ _ hz, Nat.add_comm]
 have er : hi * 18446744073709551616 % z = hi % z * 18446744073709551616 % z := by
  rw [e, Nat.add_mul_mod_self_left]
 unfold wide_U128_Div.f
 have D1 := Div64_ok 0 hi z hz h2 h1
 rw [Nat.zero_mul, Nat.zero_add] at D1
 have D2 := Div64_ok (hi % z) 0 z hm h2 (by decide)
 rw [Nat.add_zero] at D2
 rw [if_neg (by omega), bind_of _ (show bits_Div64.f 0 (hi : Int) (z : Int) = _ from D1)]
 dsimp only
 rw [bind_of _ (show bits_Div64.f ((hi % z : Nat) : Int) 0 (z : Int) = _ from D2), eq, er, tw_join _ _ hl]
theorem dv1 {b x : Nat} (h1 : b < 9007199254740992) (h2 : 9223372036854775808 ≤ x) : 9007199254740992 * b ≤ x * 18446744073709551616 := by omega
theorem Div_ev (a b mode : Nat) (ha : U a) (hb : U b) : Ev (fun k => soft_Div.f k (a : Int) (b : Int) (mode : Int)) (pr (sDiv a b mode)) := by
 unfold soft_Div.f
 refine Ev.b _ (of_ev a ha) (Ev.b _ (of_ev b hb) ?_)
 dsimp only
 have E4 := either_ok (a : Int) (cls a) (sgn a) (spm a : Int) (spe a) (b : Int) (cls b) (sgn b) (spm b : Int) (spe b) 4
 rw [show ((4 : Nat) : Int) = 4 from rfl] at E4
 refine Ev.b _ (Ev.const E4) ?_
 have a0e : ((cls a : Int) == 0) = decide (cls a = 0) := eq_nat _ 0
 have b3e : ((cls b : Int) == 3) = decide (cls b = 3) := eq_nat _ 3
 by_cases c4 : cls a = 4 ∨ cls b = 4
 ·have hS : sDiv a b mode = (QN, 0) := by unfold sDiv; rw [if_pos c4]
  rw [hS, decide_eq_true c4]
  exact Ev.congr (fun k => by rw [if_pos rfl]) (Ev.b (f := fun _ x => some (x, (0 : Int))) _ (Ev.const Quiet_ok) (Ev.now _))
 rw [decide_eq_false c4, a0e]
 have J1 : ¬ (cls a = 3 ∧ cls b = 3 ∨ cls a = 0 ∧ cls b = 0) → ¬ cls a = 3 → ¬ cls b = 0 → Ev (fun k => soft_Div.j1 k (mode : Int) (sgn a != sgn b) (decide (cls a = 0 ∨ cls b = 3)) (a : Int) (cls a : Int) (sgn a) (spm a : Int) (spe a) (b : Int) (cls b : Int) (sgn b) (spm b : Int) (spe b)) (pr (sDiv a b mode)) := by
  intro n1 n2 n3
  refine Ev.next ?_
  simp only [soft_Div.j1]
  by_cases c : cls a = 0 ∨ cls b = 3
  ·have hS : sDiv a b mode = (sg (sgn a != sgn b), 0) := by unfold sDiv; rw [if_neg c4, if_neg n1, if_neg n2, if_neg n3, if_pos c]
   rw [hS, decide_eq_true c]
   exact Ev.congr (fun k => by rw [if_pos rfl]) (Ev.b (f := fun _ x => some (x, (0 : Int))) _ (zero_ev _) (Ev.now _))
  ·have ka : cls a ≤ 2 := by have := cls_le a; omega
   have kb : cls b ≤ 2 := by have := cls_le b; omega
   have za : spm a ≠ 0 := fun h => by have := (spm_zero a ka).1 h; omega
   have zb : spm b ≠ 0 := fun h => by have := (spm_zero b kb).1 h; omega
   have la := spm_lt a
   have lb := spm_lt b
   have ea := spe_bd a
   have eb := spe_bd b
   have hbl := bl_bd (spm a) za
   have hbl2 : bl (spm a) ≤ 53 := bl_le (n := 53) la
   have L : wide_U128_Len.f 0 (spm a : Int) = some (bl (spm a) : Int) := by
    have := Len_tw (spm a) (by omega)
    rw [tw_word (by omega)] at this; exact this
   obtain ⟨sh', hsh⟩ : ∃ n : Nat, n = 64 - bl (spm a) := ⟨_, rfl⟩
   have w1 : wrap64 (64 - (bl (spm a) : Int)) = (sh' : Int) := by rw [w64 (by omega) (by omega)]; omega
   have hx : spm a * 2 ^ sh' < 18446744073709551616 := by
    have : spm a * 2 ^ sh' < 2 ^ bl (spm a) * 2 ^ sh' := Nat.mul_lt_mul_of_pos_right hbl.2.2 (two_pos _)
    rw [← Nat.pow_add, show bl (spm a) + sh' = 64 by omega] at this; exact this
   have hx2 : 9223372036854775808 ≤ spm a * 2 ^ sh' := by
    have : 2 ^ (bl (spm a) - 1) * 2 ^ sh' ≤ spm a * 2 ^ sh' := Nat.mul_le_mul_right _ hbl.2.1
    rw [← Nat.pow_add, show bl (spm a) - 1 + sh' = 63 by omega] at this; exact this
   have S : shl .u64 (spm a : Int) (sh' : Int) = ((spm a * 2 ^ sh' : Nat) : Int) := by rw [shl_nat _ _ (by omega), Nat.mod_eq_of_lt hx]
   have D := U128_Div (spm a * 2 ^ sh') (spm b) hx (by omega) (by omega)
   have hA : spm a * 2 ^ sh' * 18446744073709551616 = spm a * 2 ^ (sh' + 64) := by rw [Nat.pow_add, Nat.mul_assoc]
   have hq1 : 9007199254740992 ≤ spm a * 2 ^ sh' * 18446744073709551616 / spm b := by
    rw [Nat.le_div_iff_mul_le (by omega)]
    exact dv1 lb hx2
   have hq2 : spm a * 2 ^ sh' * 18446744073709551616 / spm b < 340282366920938463463374607431768211456 := by
    exact Nat.lt_of_le_of_lt (Nat.div_le_self _ _) (Nat.mul_lt_mul_of_pos_right hx (by decide))
   obtain ⟨A, hAA⟩ : ∃ A, spm a * 2 ^ sh' * 18446744073709551616 = A := ⟨_, rfl⟩
   rw [hAA] at D hA hq1 hq2
   have w2 : wrap64 (wrap64 (wrap64 (spe a - (sh' : Int)) - 64) - spe b) = spe a - spe b - (sh' + 64 : Nat) := by
    rw [w64 (n := spe a - (sh' : Int)) (by omega) (by omega), w64 (n := spe a - (sh' : Int) - 64) (by omega) (by omega), w64 (by omega) (by omega)]; omega
   have hbl54 : 53 < bl (A / spm b) := by
    by_cases c9 : bl (A / spm b) ≤ 53
    ·have := bl_small c9; omega
    ·omega
   have hl : (((A % spm b : Nat) : Int) != 0) = decide (A % spm b ≠ 0) := by rw [Bool.eq_iff_iff, bne_iff_ne, decide_eq_true_iff]; omega
   have R := Round_ev (sgn a != sgn b) (A / spm b) (spe a - spe b - (sh' + 64 : Nat)) (decide (A % spm b ≠ 0)) mode hq2
   rw [if_neg (by omega), cl_id (by omega) (by omega), decide_eq_true hbl54, Bool.and_true] at R
   have T := two_step (sgn a != sgn b) A (spm b) (spe a - spe b - (sh' + 64 : Nat)) mode (by omega) (.inr hq1)
   have K := FXS_scale (spm a) (spm b) (sh' + 64) (spe a - spe b) false
   rw [← hA] at K
   rw [T, K.1, K.2] at R
   have hS : RND (sgn a != sgn b) (FX (spm a) (spm b) (spe a - spe b)) (FS (spm a) (spm b) (spe a - spe b) false) mode = sDiv a b mode := by
    unfold sDiv; rw [if_neg c4, if_neg n1, if_neg n2, if_neg n3, if_neg c]
   rw [hS] at R
   rw [decide_eq_false c]
   refine Ev.congr (fun k => by rw [if_neg (by simp)]) (Ev.b _ (Ev.const L) ?_)
   rw [w1, S]
   refine Ev.congr (fun k => by rw [if_pos (by omega)]) (Ev.b _ (Ev.const D) ?_)
   dsimp only
   rw [w2, hl]
   exact Ev.b (f := fun _ x => some (x.1, x.2)) _ R (Ev.now _)
 have J0 : Ev (fun k => soft_Div.j0 k (mode : Int) (sgn a != sgn b) (decide (cls a = 3 ∧ cls b = 3 ∨ cls a = 0 ∧ cls b = 0)) (a : Int) (cls a : Int) (sgn a) (spm a : Int) (spe a) (b : Int) (cls b : Int) (sgn b) (spm b : Int) (spe b)) (pr (sDiv a b mode)) := by
  refine Ev.next ?_
  simp only [soft_Div.j0]
  rw [a0e, b3e]
  by_cases n1 : cls a = 3 ∧ cls b = 3 ∨ cls a = 0 ∧ cls b = 0
  ·have hS : sDiv a b mode = (QN, 16) := by unfold sDiv; rw [if_neg c4, if_pos n1]
   rw [hS, decide_eq_true n1]
   exact Ev.congr (fun k => by rw [if_pos rfl]) (Ev.b (f := fun _ x => some (x.1, x.2)) _ (Ev.const invalid_ok) (Ev.now _))
  rw [decide_eq_false n1]
  by_cases n2 : cls a = 3
  ·have hS : sDiv a b mode = (sg (sgn a != sgn b) + INF, 0) := by unfold sDiv; rw [if_neg c4, if_neg n1, if_pos n2]
   rw [hS]
   exact Ev.congr (fun k => by rw [if_neg (by simp), if_pos (by omega)]) (Ev.b (f := fun _ x => some (x, (0 : Int))) _ (Inf_ev _) (Ev.now _))
  by_cases n3 : cls b = 0
  ·have hS : sDiv a b mode = (sg (sgn a != sgn b) + INF, 8) := by unfold sDiv; rw [if_neg c4, if_neg n1, if_neg n2, if_pos n3]
   rw [hS]
   exact Ev.congr (fun k => by rw [if_neg (by simp), if_neg (by omega), if_pos (by omega)]) (Ev.b (f := fun _ x => some (x, (8 : Int))) _ (Inf_ev _) (Ev.now _))
  have J := J1 n1 n2 n3
  by_cases a0 : cls a = 0
  ·rw [decide_eq_true (.inl a0)] at J
   rw [decide_eq_true a0]
   exact Ev.congr (fun k => by rw [if_neg (by simp), if_neg (by omega), if_neg (by omega), if_pos (by omega)]) J
  ·rw [show decide (cls a = 0 ∨ cls b = 3) = decide (cls b = 3) by rw [Bool.eq_iff_iff, decide_eq_true_iff, decide_eq_true_iff]; omega] at J
   exact Ev.congr (fun k => by rw [if_neg (by simp), if_neg (by omega), if_neg (by omega), if_neg (by omega)]) J
 by_cases h1 : cls a = cls b
 ·by_cases h2 : cls a = 3
  ·rw [decide_eq_true (show cls a = 3 ∧ cls b = 3 ∨ cls a = 0 ∧ cls b = 0 by omega)] at J0
   exact Ev.congr (fun k => by rw [if_neg (by simp), if_pos (by omega), if_pos (by omega)]) J0
  ·rw [show decide (cls a = 3 ∧ cls b = 3 ∨ cls a = 0 ∧ cls b = 0) = decide (cls a = 0) by rw [Bool.eq_iff_iff, decide_eq_true_iff, decide_eq_true_iff]; omega] at J0
   exact Ev.congr (fun k => by rw [if_neg (by simp), if_pos (by omega), if_neg (by omega)]) J0
 ·rw [decide_eq_false (show ¬ (cls a = 3 ∧ cls b = 3 ∨ cls a = 0 ∧ cls b = 0) by omega)] at J0
  exact Ev.congr (fun k => by rw [if_neg (by simp), if_neg (by omega)]) J0
end Go.Proofs.Ytmadjhmecfbcmaa.M
end
section
namespace Go.Proofs.Ytmadjhmecfbcmaa.M
open Go.RowKit Go.Proofs.YtmadjhmecfbcmaaW.PrintWords Go.Proofs.YtmadjhmecfbcmaaW.PrintLast Go.Proofs.YtmadjhmecfbcmaaW.PrintMore Go.Proofs.Ytmadjhmecfbcmaa.F
def sSum (mode : Nat) : Nat → List Nat → Nat
 | s, [] => s
 | s, f :: l => sSum mode (sAdd s f mode).1 l
theorem RND_U (neg : Bool) (X : Nat) (s : Bool) (mode : Nat) : U (RND neg X s mode).1 := by
 unfold U
 by_cases h : 9218868437227405312 ≤ kk X s (dir neg mode)
 ·rw [RND_over h]; unfold sg; dsimp only; (repeat' split) <;> omega
 ·rw [RND_in h]; unfold sg; dsimp only; split <;> omega
theorem sg_U (b : Bool) : U (sg b) := by unfold U sg; split <;> omega
theorem sAdd_U (a b mode : Nat) (ha : U a) (hb : U b) : U (sAdd a b mode).1 := by
 unfold sAdd
 (repeat' split) <;> first | assumption | exact RND_U _ _ _ _ | exact sg_U _ | (show QN < _; decide)
end Go.Proofs.Ytmadjhmecfbcmaa.M
end
section
namespace Go.Proofs.Ytmadjhmecfbcmaa.M
open Go.RowKit Go.Proofs.YtmadjhmecfbcmaaW.PrintWords Go.Proofs.YtmadjhmecfbcmaaW.PrintLast Go.Proofs.YtmadjhmecfbcmaaW.PrintMore Go.Proofs.Ytmadjhmecfbcmaa.F
def bn (b : Bool) : Nat := if b then 1 else 0
end Go.Proofs.Ytmadjhmecfbcmaa.M
end
section
namespace Go.Proofs.Ytmadjhmecfbcmaa.M
open Go.RowKit Go.Proofs.YtmadjhmecfbcmaaW.PrintWords Go.Proofs.YtmadjhmecfbcmaaW.PrintLast Go.Proofs.YtmadjhmecfbcmaaW.PrintMore Go.Proofs.Ytmadjhmecfbcmaa.F
theorem c1 : sAdd 4607182418800017408 4368491638549381120 0 = (4607182418800017408, 1) := by decide +kernel
theorem c2 : (sAdd 4607182418800017408 4368491638549381120 1).1 = 4607182418800017409 := by decide +kernel
theorem c3 : (sAdd 4607182418800017408 (ng 4607182418800017408) 0).1 = 0 := by decide +kernel
theorem c4' : (sAdd 4607182418800017408 (ng 4607182418800017408) 2).1 = 9223372036854775808 := by decide +kernel
theorem c5 : sDiv 13830554455654793216 0 0 = (18442240474082181120, 8) := by decide +kernel
theorem c7 : sMul 0 9218868437227405312 0 = (QN, 16) := by decide +kernel
theorem c8 : sSum 0 0 [4607182418800017408, 4607182418800017408, 4607182418800017408] = 4613937818241073152 := by decide +kernel
theorem wf_u64 {x : Int} (h : (Lit.int .u64 x).wf = true) : ∃ a : Nat, x = a ∧ U a := by
 have h2 := (Bool.and_eq_true _ _).mp h
 have h0 : (0 : Int) ≤ x := of_decide_eq_true h2.1
 have h1 : x ≤ 18446744073709551615 := of_decide_eq_true h2.2
 exact ⟨x.toNat, by omega, by unfold U; omega⟩
theorem Ev.ex {α : Type} {g : Nat → Option α} {r : α} (h : Ev g r) : ∃ k, g k = some r := by
 obtain ⟨k, hk⟩ := h; exact ⟨k, hk k (Nat.le_refl _)⟩
instance (a : Nat) : Decidable (U a) := by unfold U; infer_instance
theorem w1 : Ev (fun k => soft_Add.f k 4607182418800017408 4368491638549381120 0) (4607182418800017408, 1) := by
 have := Add_ev 4607182418800017408 4368491638549381120 0 (by decide) (by decide)
 rw [c1] at this; exact this
theorem w2 : ∃ y, Ev (fun k => soft_Add.f k 4607182418800017408 4368491638549381120 1) (4607182418800017409, y) := by
 have := Add_ev 4607182418800017408 4368491638549381120 1 (by decide) (by decide)
 unfold pr at this
 rw [c2] at this; exact ⟨_, this⟩
theorem w3 : ∃ y, Ev (fun k => soft_Sub.f k 4607182418800017408 4607182418800017408 0) (0, y) := by
 have := Sub_ev 4607182418800017408 4607182418800017408 0 (by decide) (by decide)
 unfold pr at this
 rw [c3] at this; exact ⟨_, this⟩
theorem w4 : ∃ y, Ev (fun k => soft_Sub.f k 4607182418800017408 4607182418800017408 2) (9223372036854775808, y) := by
 have := Sub_ev 4607182418800017408 4607182418800017408 2 (by decide) (by decide)
 unfold pr at this
 rw [c4'] at this; exact ⟨_, this⟩
theorem map_nat : ∀ (l : List Int), (∀ x ∈ l, (Lit.int .u64 x).wf = true) → ∃ l' : List Nat, l = l'.map Nat.cast ∧ ∀ x ∈ l', U x
 | [], _ => ⟨[], rfl, by simp⟩
 | x :: l, h => by
  obtain ⟨a, ha, hU⟩ := wf_u64 (h x (by simp))
  obtain ⟨l', h1, h2⟩ := map_nat l (fun y hy => h y (by simp [hy]))
  exact ⟨a :: l', by rw [h1, ha]; rfl, by intro y hy; rcases List.mem_cons.1 hy with rfl | hy; exact hU; exact h2 y hy⟩
end Go.Proofs.Ytmadjhmecfbcmaa.M
end
section
namespace Go.Proofs.Ytmadjhmecfbcmaa.M
open Go.RowKit Go.Proofs.YtmadjhmecfbcmaaW.PrintWords Go.Proofs.YtmadjhmecfbcmaaW.PrintLast Go.Proofs.YtmadjhmecfbcmaaW.PrintMore Go.Proofs.Ytmadjhmecfbcmaa.F
theorem inf_eq {a : Nat} (h : U a) (c : cls a = 3) : a = sg (sgn a) + INF := by
 have h1 := a_parts a h
 have h2 := (key_cls a).2.1.1 c
 unfold INF; omega
theorem sAdd_nan {a b : Nat} (m : Nat) (h : cls a = 4 ∨ cls b = 4) : sAdd a b m = (QN, 0) := by unfold sAdd; rw [if_pos h]
theorem sAdd_inv {a b : Nat} (m : Nat) (h : cls a = 3 ∧ cls b = 3 ∧ sgn a ≠ sgn b) : sAdd a b m = (QN, 16) := by
 unfold sAdd; rw [if_neg (show ¬ (cls a = 4 ∨ cls b = 4) by omega), if_pos h]
theorem sAdd_infl {a b : Nat} (m : Nat) (h : ¬ (cls a = 4 ∨ cls b = 4)) (h2 : ¬ (cls a = 3 ∧ cls b = 3 ∧ sgn a ≠ sgn b)) (c : cls a = 3) : sAdd a b m = (a, 0) := by
 unfold sAdd; rw [if_neg h, if_neg h2, if_pos c]
theorem sAdd_infr {a b : Nat} (m : Nat) (h : ¬ (cls a = 4 ∨ cls b = 4)) (c : cls a ≠ 3) (c2 : cls b = 3) : sAdd a b m = (b, 0) := by
 unfold sAdd; rw [if_neg h, if_neg (show ¬ (cls a = 3 ∧ cls b = 3 ∧ sgn a ≠ sgn b) from fun x => c x.1), if_neg c, if_pos c2]
theorem flip_parts (a : Nat) (h : U a) : sgn (flip a) = !sgn a ∧ key (flip a) = key a := by
 unfold U at h
 unfold flip sgn key
 by_cases c : a < 9223372036854775808
 ·rw [if_pos c, show (a + 9223372036854775808) / 9223372036854775808 = 1 by omega, show a / 9223372036854775808 = 0 by omega]
  exact ⟨rfl, by omega⟩
 ·rw [if_neg c, show (a - 9223372036854775808) / 9223372036854775808 = 0 by omega, show a / 9223372036854775808 = 1 by omega]
  exact ⟨rfl, by omega⟩
theorem cls_key {a b : Nat} (h : key a = key b) : cls a = cls b := by
 have h1 := key_parts' a
 have h2 := key_parts' b
 have a1 := fr_lt a
 have a2 := fr_lt b
 have e1 : ex a = ex b := by omega
 have e2 : fr a = fr b := by omega
 unfold cls; rw [e1, e2]
theorem ng_cls (a : Nat) (h : U a) : cls (ng a) = cls a := by
 unfold ng; split
 ·rfl
 ·exact cls_key (flip_parts a h).2
theorem ng_ord (a : Nat) (h : U a) (c : cls a ≠ 4) : ord (ng a) = -ord a := by
 unfold ng; rw [if_neg c]
 have := flip_parts a h
 unfold ord; rw [this.1, this.2]
 cases sgn a
 ·rfl
 ·simp
theorem QN_cls : cls QN = 4 := by decide
theorem cls_sg0 (n : Bool) : cls (sg n) = 0 := by cases n <;> decide
theorem cls_sAdd (a b m : Nat) : cls (sAdd a b m).1 = 4 ↔ cls a = 4 ∨ cls b = 4 ∨ (cls a = 3 ∧ cls b = 3 ∧ sgn a ≠ sgn b) := by
 have la := cls_le a
 have lb := cls_le b
 by_cases c4 : cls a = 4 ∨ cls b = 4
 ·rw [sAdd_nan m c4]; exact ⟨fun _ => by rcases c4 with h | h; exact .inl h; exact .inr (.inl h), fun _ => QN_cls⟩
 ·by_cases c1 : cls a = 3 ∧ cls b = 3 ∧ sgn a ≠ sgn b
  ·rw [sAdd_inv m c1]; exact ⟨fun _ => .inr (.inr c1), fun _ => QN_cls⟩
  ·refine ⟨fun h => ?_, fun h => ?_⟩
   ·exfalso
    by_cases c2 : cls a = 3
    ·rw [sAdd_infl m c4 c1 c2] at h; dsimp only at h; omega
    ·by_cases c3 : cls b = 3
     ·rw [sAdd_infr m c4 c2 c3] at h; dsimp only at h; omega
     ·rw [sAdd_fin m (by omega) (by omega)] at h
      split at h
      ·dsimp only at h; rw [cls_sg0] at h; omega
      ·have := cls_RND (decide (sv a + sv b < 0)) (2 * (sv a + sv b).natAbs) false m; omega
   ·rcases h with h | h | h
    ·exact absurd (.inl h) c4
    ·exact absurd (.inr h) c4
    ·exact absurd h c1
theorem sMul_U (a b m : Nat) : U (sMul a b m).1 := by
 unfold sMul
 (repeat' split)
 ·decide
 ·decide
 ·unfold U sg INF; split <;> omega
 ·unfold U sg; dsimp only; split <;> omega
 ·exact U_RND _ _ _ _
end Go.Proofs.Ytmadjhmecfbcmaa.M
end
section
namespace Go.Proofs.Ytmadjhmecfbcmaa.M
open Go.RowKit Go.Proofs.YtmadjhmecfbcmaaW.PrintWords Go.Proofs.YtmadjhmecfbcmaaW.PrintLast Go.Proofs.YtmadjhmecfbcmaaW.PrintMore Go.Proofs.Ytmadjhmecfbcmaa.F
theorem cls_inf (a : Nat) (c : cls a ≠ 4) (h : ord a = 9218868437227405312 ∨ ord a = -9218868437227405312) : cls a = 3 := by
 have la := cls_le a
 by_cases c3 : cls a = 3
 ·exact c3
 ·have := ord_fin a (by omega); omega
theorem sMul_inf {a b : Nat} (m : Nat) (h : ¬ (cls a = 4 ∨ cls b = 4)) (h2 : ¬ (cls a = 3 ∧ cls b = 0 ∨ cls a = 0 ∧ cls b = 3)) (c : cls a = 3 ∨ cls b = 3) : sMul a b m = (sg (sgn a != sgn b) + INF, 0) := by
 unfold sMul; rw [if_neg h, if_neg h2, if_pos c]
end Go.Proofs.Ytmadjhmecfbcmaa.M
end
section
namespace Go.Proofs.Ytmadjhmecfbcmaa.M
open Go.RowKit Go.Proofs.YtmadjhmecfbcmaaW.PrintWords Go.Proofs.YtmadjhmecfbcmaaW.PrintLast Go.Proofs.YtmadjhmecfbcmaaW.PrintMore Go.Proofs.Ytmadjhmecfbcmaa.F
def NINF : Nat := 18442240474082181120
def le (a b : Nat) : Bool := decide (cls a ≠ 4 ∧ cls b ≠ 4 ∧ ord a ≤ ord b)
abbrev Sp : Type := Option (Nat × Nat)
def enc : Sp → Bool × Int × Int
 | none => (true, 0, 0)
 | some p => (false, (p.1 : Int), (p.2 : Int))
def nz (a : Nat) : Nat := if cls a = 0 then 0 else a
def norm (e : Bool) (lo hi : Nat) : Sp := if e = true ∨ le lo hi = false ∨ lo = INF ∨ hi = NINF then none else some (nz lo, nz hi)
def WF : Sp → Prop
 | none => True
 | some p => U p.1 ∧ U p.2 ∧ le p.1 p.2 = true ∧ p.1 ≠ INF ∧ p.2 ≠ NINF ∧ nz p.1 = p.1 ∧ nz p.2 = p.2
theorem cls0 : cls 0 = 0 := by decide
theorem nz_cls (a : Nat) : cls (nz a) = cls a := by unfold nz; split; (rename_i h; rw [h]; exact cls0); rfl
theorem nz_ord (a : Nat) : ord (nz a) = ord a := by
 unfold nz; split
 ·rename_i h; rw [(ord_zero a).2 h]; exact (ord_zero 0).2 cls0
 ·rfl
theorem nz_U (a : Nat) (h : U a) : U (nz a) := by unfold nz; split; decide; exact h
theorem nz_nz (a : Nat) : nz (nz a) = nz a := by
 by_cases h : cls a = 0
 ·have e : nz a = 0 := by unfold nz; rw [if_pos h]
  rw [e]; unfold nz; rw [if_pos cls0]
 ·have e : nz a = a := by unfold nz; rw [if_neg h]
  rw [e, e]
theorem nz_le (a b : Nat) : le (nz a) (nz b) = le a b := by unfold le; rw [nz_cls, nz_cls, nz_ord, nz_ord]
theorem nz_ne {a x : Nat} (hx : cls x = 3) (h : a ≠ x) : nz a ≠ x := by
 unfold nz; split
 ·intro e; rw [← e, cls0] at hx; cases hx
 ·exact h
theorem INF_cls : cls INF = 3 := by decide
theorem NINF_cls : cls NINF = 3 := by decide
theorem norm_WF (e : Bool) (lo hi : Nat) (h1 : U lo) (h2 : U hi) : WF (norm e lo hi) := by
 unfold norm
 by_cases c : e = true ∨ le lo hi = false ∨ lo = INF ∨ hi = NINF
 ·rw [if_pos c]; trivial
 ·rw [if_neg c]
  refine ⟨nz_U lo h1, nz_U hi h2, ?_, nz_ne INF_cls (fun x => c (.inr (.inr (.inl x)))), nz_ne NINF_cls (fun x => c (.inr (.inr (.inr x)))), nz_nz _, nz_nz _⟩
  rw [nz_le]
  cases h : le lo hi
  ·exact absurd (.inr (.inl h)) c
  ·rfl
theorem norm_id {p : Nat × Nat} (h : WF (some p)) : norm false p.1 p.2 = some p := by
 obtain ⟨_, _, h3, h4, h5, h6, h7⟩ := h
 unfold norm
 rw [if_neg (by rintro (x | x | x | x); cases x; rw [h3] at x; cases x; exact h4 x; exact h5 x), h6, h7]
theorem le_cmp (a b : Nat) : le a b = ((cmpI a b).2 && decide ((cmpI a b).1 ≤ 0)) := by
 unfold le cmpI
 by_cases c : cls a = 4 ∨ cls b = 4
 ·rw [if_pos c, decide_eq_false (by omega)]; rfl
 ·rw [if_neg c]
  dsimp only
  rw [Bool.true_and, decide_eq_decide]
  by_cases c3 : ord a < ord b
  ·rw [if_pos c3]; exact ⟨fun _ => by decide, fun _ => ⟨fun h => c (.inl h), fun h => c (.inr h), by omega⟩⟩
  ·rw [if_neg c3]
   by_cases c4 : ord b < ord a
   ·rw [if_pos c4]; exact ⟨fun h => absurd h.2.2 (by omega), fun h => absurd h (by decide)⟩
   ·rw [if_neg c4]; exact ⟨fun _ => by decide, fun _ => ⟨fun h => c (.inl h), fun h => c (.inr h), by omega⟩⟩
theorem atMost_ev (a b : Nat) (ha : U a) (hb : U b) : Ev (fun k => span_atMost.f k (a : Int) (b : Int)) (le a b) := by
 unfold span_atMost.f
 refine Ev.b _ (Cmp_ev a b ha hb) (Ev.const ?_)
 rw [le_cmp]
 cases (cmpI a b).2
 ·rw [if_neg (by decide)]; rfl
 ·rw [if_pos rfl]; rfl
theorem sinf_ev : Ev (fun k => span_inf.f k) (INF : Int) := by unfold span_inf.f; exact Ev.b _ (Inf_ev false) (Ev.now _)
theorem sninf_ev : Ev (fun k => span_ninf.f k) (NINF : Int) := by unfold span_ninf.f; exact Ev.b _ (Inf_ev true) (Ev.now _)
theorem snorm_ev (e : Bool) (lo hi : Nat) (h1 : U lo) (h2 : U hi) : Ev (fun k => span_norm.f k e (lo : Int) (hi : Int)) (enc (norm e lo hi)) := by
 unfold span_norm.f
 by_cases c1 : e = true
 ·have n : norm e lo hi = none := by unfold norm; rw [if_pos (.inl c1)]
  rw [n]
  exact Ev.congr (fun k => by rw [if_pos c1]; rfl) (Ev.now _)
 ·refine Ev.congr (fun k => by rw [if_neg c1]) ?_
  refine Ev.b _ (atMost_ev lo hi h1 h2) ?_
  by_cases c2 : le lo hi = true
  ·refine Ev.congr (fun k => by rw [if_pos c2]) ?_
   refine Ev.b _ sinf_ev ?_
   by_cases c3 : lo = INF
   ·have n : norm e lo hi = none := by unfold norm; rw [if_pos (.inr (.inr (.inl c3)))]
    rw [n]
    exact Ev.congr (fun k => by rw [if_pos (by rw [c3])]; rfl) (Ev.now _)
   ·refine Ev.congr (fun k => by rw [if_neg (by omega)]) ?_
    refine Ev.b _ sninf_ev ?_
    by_cases c4 : hi = NINF
    ·have n : norm e lo hi = none := by unfold norm; rw [if_pos (.inr (.inr (.inr c4)))]
     rw [n]
     exact Ev.congr (fun k => by rw [if_pos (by rw [c4])]; rfl) (Ev.now _)
    ·refine Ev.congr (fun k => by rw [if_neg (by omega)]) ?_
     have n : norm e lo hi = some (nz lo, nz hi) := by
      unfold norm; rw [if_neg (by rintro (x | x | x | x); exact c1 x; rw [c2] at x; cases x; exact c3 x; exact c4 x)]
     rw [n]
     refine Ev.b _ (Class_ev lo h1) (Ev.b _ (Class_ev hi h2) (Ev.const ?_))
     have q : ∀ x : Nat, (if (cls x : Int) = 0 then (0 : Int) else (x : Int)) = ((nz x : Nat) : Int) := by
      intro x; unfold nz
      by_cases z : cls x = 0
      ·rw [if_pos (by omega), if_pos z]; rfl
      ·rw [if_neg (by omega), if_neg z]
     rw [q, q, Bool.eq_false_iff.2 c1]; rfl
  ·have n : norm e lo hi = none := by unfold norm; rw [if_pos (.inr (.inl (Bool.eq_false_iff.2 c2)))]
   rw [n]
   exact Ev.congr (fun k => by rw [if_neg c2]; rfl) (Ev.now _)
theorem sMake_ev (lo hi : Nat) (h1 : U lo) (h2 : U hi) : Ev (fun k => span_Make.f k (lo : Int) (hi : Int)) (enc (norm false lo hi)) := by
 unfold span_Make.f
 exact Ev.b _ (snorm_ev false lo hi h1 h2) (Ev.now _)
theorem sPoint_ev (f : Nat) (h : U f) : Ev (fun k => span_Point.f k (f : Int)) (enc (norm false f f)) := by
 unfold span_Point.f
 exact Ev.b _ (sMake_ev f f h h) (Ev.now _)
theorem sAll_ev : Ev (fun k => span_All.f k) (enc (norm false NINF INF)) := by
 unfold span_All.f
 exact Ev.b _ sninf_ev (Ev.b _ sinf_ev (Ev.b _ (sMake_ev NINF INF (by decide) (by decide)) (Ev.now _)))
def ins (a b : Sp) : Bool := match a, b with
 | none, _ => true
 | some _, none => false
 | some p, some q => le q.1 p.1 && le p.2 q.2
theorem sInside_ev (e1 : Bool) (l1 h1 : Nat) (e2 : Bool) (l2 h2 : Nat) (a1 : U l1) (a2 : U h1) (b1 : U l2) (b2 : U h2) :
  Ev (fun k => span_Inside.f k e1 (l1 : Int) (h1 : Int) e2 (l2 : Int) (h2 : Int)) (ins (norm e1 l1 h1) (norm e2 l2 h2)) := by
 have W1 := norm_WF e1 l1 h1 a1 a2
 have W2 := norm_WF e2 l2 h2 b1 b2
 unfold span_Inside.f
 refine Ev.b _ (snorm_ev e1 l1 h1 a1 a2) (Ev.b _ (snorm_ev e2 l2 h2 b1 b2) ?_)
 cases hp : norm e1 l1 h1 with
 | none => exact Ev.congr (fun k => by rw [if_pos (show (enc none).1 = true from rfl)]; rfl) (Ev.now _)
 | some p =>
  cases hq : norm e2 l2 h2 with
  | none => exact Ev.congr (fun k => by rw [if_neg (show ¬ (enc (some p)).1 = true by simp [enc]), if_pos (show (enc none).1 = true from rfl)]; rfl) (Ev.now _)
  | some q =>
   rw [hp] at W1
   rw [hq] at W2
   refine Ev.congr (fun k => by rw [if_neg (show ¬ (enc (some p)).1 = true by simp [enc]), if_neg (show ¬ (enc (some q)).1 = true by simp [enc])]) ?_
   refine Ev.b _ (atMost_ev q.1 p.1 W2.1 W1.1) ?_
   unfold ins
   dsimp only
   cases le q.1 p.1
   ·exact Ev.congr (fun k => by rw [if_neg (by decide)]; rfl) (Ev.now _)
   ·refine Ev.congr (fun k => by rw [if_pos rfl]) ?_
    exact Ev.b _ (atMost_ev p.2 q.2 W1.2.1 W2.2.1) (Ev.now _)
end Go.Proofs.Ytmadjhmecfbcmaa.M
end
section
namespace Go.Proofs.Ytmadjhmecfbcmaa.M
open Go.RowKit Go.Proofs.YtmadjhmecfbcmaaW.PrintWords Go.Proofs.YtmadjhmecfbcmaaW.PrintLast Go.Proofs.YtmadjhmecfbcmaaW.PrintMore Go.Proofs.Ytmadjhmecfbcmaa.F
theorem oINF : ord INF = 9218868437227405312 := by decide +kernel
theorem oNINF : ord NINF = -9218868437227405312 := by decide +kernel
theorem le_iff {a b : Nat} (na : cls a ≠ 4) (nb : cls b ≠ 4) : le a b = true ↔ ord a ≤ ord b := by
 unfold le; rw [decide_eq_true_iff]; exact ⟨fun h => h.2.2, fun h => ⟨na, nb, h⟩⟩
theorem le_no {a b : Nat} (na : cls a ≠ 4) (nb : cls b ≠ 4) : le a b = false ↔ ord b < ord a := by
 unfold le; rw [decide_eq_false_iff_not]
 exact ⟨fun h => by by_cases c : ord a ≤ ord b; exact absurd ⟨na, nb, c⟩ h; omega, fun h x => absurd x.2.2 (by omega)⟩
theorem eq_INF {a : Nat} (ha : U a) (na : cls a ≠ 4) : a = INF ↔ ord a = 9218868437227405312 := by
 constructor
 ·intro h; rw [h]; exact oINF
 ·intro h
  have c := cls_inf a na (.inl h)
  have o := ord_inf a c
  have e := inf_eq ha c
  cases s : sgn a
  ·rw [s] at e; rw [e]; decide
  ·rw [s, if_pos rfl] at o; omega
theorem eq_NINF {a : Nat} (ha : U a) (na : cls a ≠ 4) : a = NINF ↔ ord a = -9218868437227405312 := by
 constructor
 ·intro h; rw [h]; exact oNINF
 ·intro h
  have c := cls_inf a na (.inr h)
  have o := ord_inf a c
  have e := inf_eq ha c
  cases s : sgn a
  ·rw [s, if_neg (by decide)] at o; omega
  ·rw [s] at e; rw [e]; decide
structure W2 (p : Nat × Nat) : Prop where
 u1 : U p.1
 u2 : U p.2
 n1 : cls p.1 ≠ 4
 n2 : cls p.2 ≠ 4
 o : ord p.1 ≤ ord p.2
 l : ord p.1 < 9218868437227405312
 g : -9218868437227405312 < ord p.2
 z1 : nz p.1 = p.1
 z2 : nz p.2 = p.2
theorem le_nan {a b : Nat} (h : le a b = true) : cls a ≠ 4 ∧ cls b ≠ 4 ∧ ord a ≤ ord b := by
 unfold le at h; rw [decide_eq_true_iff] at h; exact h
theorem W2.of {p : Nat × Nat} (h : WF (some p)) : W2 p := by
 obtain ⟨h1, h2, h3, h4, h5, h6, h7⟩ := h
 obtain ⟨n1, n2, o⟩ := le_nan h3
 have b1 := ord_bd p.1 n1
 have b2 := ord_bd p.2 n2
 have e1 : ord p.1 ≠ 9218868437227405312 := fun x => h4 ((eq_INF h1 n1).2 x)
 have e2 : ord p.2 ≠ -9218868437227405312 := fun x => h5 ((eq_NINF h2 n2).2 x)
 exact ⟨h1, h2, n1, n2, o, by omega, by omega, h6, h7⟩
theorem W2.wf {p : Nat × Nat} (h : W2 p) : WF (some p) := by
 refine ⟨h.u1, h.u2, (le_iff h.n1 h.n2).2 h.o, fun e => ?_, fun e => ?_, h.z1, h.z2⟩
 ·have := h.l; rw [e, oINF] at this; omega
 ·have := h.g; rw [e, oNINF] at this; omega
structure Fl (a : Nat) : Prop where
 u : U a
 n : cls a ≠ 4
theorem Fl.bd {a : Nat} (h : Fl a) : -9218868437227405312 ≤ ord a ∧ ord a ≤ 9218868437227405312 := ord_bd a h.n
theorem W2.f1 {p : Nat × Nat} (h : W2 p) : Fl p.1 := ⟨h.u1, h.n1⟩
theorem W2.f2 {p : Nat × Nat} (h : W2 p) : Fl p.2 := ⟨h.u2, h.n2⟩
theorem Fl.nz {a : Nat} (h : Fl a) : Fl (nz a) := ⟨nz_U a h.u, by rw [nz_cls]; exact h.n⟩
theorem Fl0 : Fl 0 := ⟨by decide, by decide⟩
theorem FlINF : Fl INF := ⟨by decide, by decide⟩
theorem ord0 : ord 0 = 0 := by decide
theorem norm_some {a b : Nat} (ha : Fl a) (hb : Fl b) (o : ord a ≤ ord b) (l : ord a < 9218868437227405312) (g : -9218868437227405312 < ord b) :
  norm false a b = some (nz a, nz b) ∧ W2 (nz a, nz b) := by
 refine ⟨?_, ha.nz.u, hb.nz.u, ha.nz.n, hb.nz.n, by rw [nz_ord, nz_ord]; exact o, by rw [nz_ord]; exact l, by rw [nz_ord]; exact g, nz_nz a, nz_nz b⟩
 unfold norm
 rw [if_neg]
 rintro (x | x | x | x)
 ·cases x
 ·rw [le_no ha.n hb.n] at x; omega
 ·rw [x, oINF] at l; omega
 ·rw [x, oNINF] at g; omega
theorem W2.norm {p : Nat × Nat} (h : W2 p) : M.norm false p.1 p.2 = some p := norm_id h.wf
def lw (a b : Nat) : Nat := if ord b < ord a then b else a
def hr (a b : Nat) : Nat := if ord a < ord b then b else a
theorem lw_spec (a b : Nat) : (ord (lw a b) = ord a ∨ ord (lw a b) = ord b) ∧ ord (lw a b) ≤ ord a ∧ ord (lw a b) ≤ ord b := by unfold lw; split <;> omega
theorem hr_spec (a b : Nat) : (ord (hr a b) = ord a ∨ ord (hr a b) = ord b) ∧ ord a ≤ ord (hr a b) ∧ ord b ≤ ord (hr a b) := by unfold hr; split <;> omega
theorem lw_p {P : Nat → Prop} {a b : Nat} (h : P a) (k : P b) : P (lw a b) := by unfold lw; split; exact k; exact h
theorem hr_p {P : Nat → Prop} {a b : Nat} (h : P a) (k : P b) : P (hr a b) := by unfold hr; split; exact k; exact h
def join : Sp → Sp → Sp
 | none, s => s
 | some p, none => some p
 | some p, some q => some (lw p.1 q.1, hr p.2 q.2)
theorem W2.join {p q : Nat × Nat} (h : W2 p) (k : W2 q) : W2 (lw p.1 q.1, hr p.2 q.2) := by
 have s1 := lw_spec p.1 q.1
 have s2 := hr_spec p.2 q.2
 have a1 := h.o
 have a2 := h.l
 have a3 := h.g
 exact ⟨lw_p (P := U) h.u1 k.u1, hr_p (P := U) h.u2 k.u2, lw_p (P := fun x => cls x ≠ 4) h.n1 k.n1, hr_p (P := fun x => cls x ≠ 4) h.n2 k.n2,
  by dsimp only; omega, by dsimp only; omega, by dsimp only; omega, lw_p (P := fun x => nz x = x) h.z1 k.z1, hr_p (P := fun x => nz x = x) h.z2 k.z2⟩
theorem join_none (s : Sp) : join s none = s := by cases s <;> rfl
theorem Fl.ng {a : Nat} (h : Fl a) : Fl (ng a) := ⟨ng_U a h.u, by rw [ng_cls a h.u]; exact h.n⟩
theorem Fl.ng_ord {a : Nat} (h : Fl a) : ord (M.ng a) = -ord a := M.ng_ord a h.u h.n
def neg : Sp → Sp
 | none => none
 | some p => norm false (ng p.2) (ng p.1)
theorem W2.neg {p : Nat × Nat} (h : W2 p) : M.neg (some p) = some (nz (ng p.2), nz (ng p.1)) ∧ W2 (nz (ng p.2), nz (ng p.1)) := by
 have o := h.o
 have l := h.l
 have g := h.g
 exact norm_some h.f2.ng h.f1.ng (by rw [h.f1.ng_ord, h.f2.ng_ord]; omega) (by rw [h.f2.ng_ord]; omega) (by rw [h.f1.ng_ord]; omega)
def absS : Sp → Sp
 | none => none
 | some p => if 0 ≤ ord p.1 then some p else if ord p.2 ≤ 0 then neg (some p) else norm false 0 (hr (ng p.1) p.2)
theorem W2.abs3 {p : Nat × Nat} (h : W2 p) (h1 : ord p.1 < 0) (h2 : 0 < ord p.2) : M.norm false 0 (hr (M.ng p.1) p.2) = some (0, nz (hr (M.ng p.1) p.2)) ∧ W2 (0, nz (hr (M.ng p.1) p.2)) := by
 have F : Fl (hr (M.ng p.1) p.2) := hr_p h.f1.ng h.f2
 have s := hr_spec (M.ng p.1) p.2
 have e0 : nz 0 = 0 := by decide
 have := norm_some Fl0 F (by rw [ord0]; omega) (by rw [ord0]; omega) (by omega)
 rw [e0] at this; exact this
def mostS (s : Sp) : Nat := match absS s with | none => 0 | some p => p.2
def outer (lo hi : Nat) : Sp := if lo = INF then norm false 9218868437227405311 hi else if hi = NINF then norm false lo 18442240474082181119 else norm false lo hi
def cornP (l1 h1 l2 h2 l3 h3 l4 h4 : Nat) : Sp := join (join (join (join none (outer l1 h1)) (outer l2 h2)) (outer l3 h3)) (outer l4 h4)
end Go.Proofs.Ytmadjhmecfbcmaa.M
end
section
namespace Go.Proofs.Ytmadjhmecfbcmaa.M
open Go.RowKit Go.Proofs.YtmadjhmecfbcmaaW.PrintWords Go.Proofs.YtmadjhmecfbcmaaW.PrintLast Go.Proofs.YtmadjhmecfbcmaaW.PrintMore Go.Proofs.Ytmadjhmecfbcmaa.F
theorem cap_le2 (X : Nat) (s : Bool) : cap X s 2 ≤ 9218868437227405311 := by
 by_cases c1 : 9218868437227405312 ≤ kk X s 2
 ·rw [cap_over c1, if_pos rfl]; exact Nat.le_refl _
 ·rw [cap_in c1]; omega
theorem ro_lt (n : Bool) (X : Nat) (s : Bool) : ro n X s 2 < 9218868437227405312 := by
 unfold ro; cases n
 ·rw [if_neg (by decide), show dir false 2 = 2 from rfl]; have := cap_le2 X s; omega
 ·rw [if_pos rfl]; omega
theorem rq_lt (v : Int) (D : Nat) : rq v D 2 < 9218868437227405312 := ro_lt _ _ _
theorem fin_iff {a : Nat} (h : Fl a) : cls a ≤ 2 ↔ -9218868437227405312 < ord a ∧ ord a < 9218868437227405312 := by
 have l := cls_le a
 have n := h.n
 constructor
 ·exact ord_fin a
 ·intro k
  by_cases c : cls a = 3
  ·have := ord_inf a c; split at this <;> omega
  ·omega
theorem inf_iff {a : Nat} (h : Fl a) : cls a = 3 ↔ ord a = 9218868437227405312 ∨ ord a = -9218868437227405312 := by
 constructor
 ·intro c; have := ord_inf a c; split at this <;> omega
 ·exact cls_inf a h.n
theorem sgn_neg {a : Nat} (h : ord a < 0) : sgn a = true := by
 cases s : sgn a
 ·have := ord_pos_ge a s; omega
 ·rfl
theorem add_lo {a b : Nat} (ha : Fl a) (hb : Fl b) (la : ord a < 9218868437227405312) (lb : ord b < 9218868437227405312) :
  Fl (sAdd a b 2).1 ∧ ord (sAdd a b 2).1 < 9218868437227405312 ∧ (ord a = -9218868437227405312 ∨ ord b = -9218868437227405312 → ord (sAdd a b 2).1 = -9218868437227405312) ∧
  (-9218868437227405312 < ord a → -9218868437227405312 < ord b → ord (sAdd a b 2).1 = rq (2 * (sv a + sv b)) 1 2) := by
 have n4 : ¬ (cls a = 4 ∨ cls b = 4) := by have := ha.n; have := hb.n; omega
 have ia := inf_iff ha
 have ib := inf_iff hb
 have ba := ha.bd
 have bb := hb.bd
 have n3 : ¬ (cls a = 3 ∧ cls b = 3 ∧ sgn a ≠ sgn b) := by
  rintro ⟨x, y, z⟩
  apply z
  rw [sgn_neg (a := a) (by omega), sgn_neg (a := b) (by omega)]
 have F : Fl (sAdd a b 2).1 := ⟨sAdd_U a b 2 ha.u hb.u, fun x => by
  rcases (cls_sAdd a b 2).1 x with h | h | h
  ·exact n4 (.inl h)
  ·exact n4 (.inr h)
  ·exact n3 h⟩
 refine ⟨F, ?_⟩
 by_cases c1 : cls a = 3
 ·rw [sAdd_infl 2 n4 n3 c1]; dsimp only; omega
 ·by_cases c2 : cls b = 3
  ·rw [sAdd_infr 2 n4 c1 c2]; dsimp only; omega
  ·have fa := (fin_iff ha).2 (by omega)
   have fb := (fin_iff hb).2 (by omega)
   have e := ord_sAdd a b 2 fa fb
   have := rq_lt (2 * (sv a + sv b)) 1
   omega
def tms (a b m : Nat) : Nat := if cls a = 0 ∨ cls b = 0 then 0 else (sMul a b m).1
theorem tms_fl {a b : Nat} (ha : Fl a) (hb : Fl b) (m : Nat) : Fl (tms a b m) := by
 unfold tms
 by_cases c : cls a = 0 ∨ cls b = 0
 ·rw [if_pos c]; exact Fl0
 ·rw [if_neg c]
  have n4 : ¬ (cls a = 4 ∨ cls b = 4) := by have := ha.n; have := hb.n; omega
  have n0 : ¬ (cls a = 3 ∧ cls b = 0 ∨ cls a = 0 ∧ cls b = 3) := by omega
  refine ⟨sMul_U a b m, ?_⟩
  by_cases c3 : cls a = 3 ∨ cls b = 3
  ·rw [sMul_inf m n4 n0 c3]
   have := cls_sg (sgn a != sgn b) INF (by decide)
   dsimp only; omega
  ·have la := cls_le a
   have lb := cls_le b
   rw [sMul_fin m (by omega) (by omega)]
   split
   ·dsimp only; rw [cls_sg0]; decide
   ·have := cls_RND (sgn a != sgn b) (mg a * mg b / 2 ^ 1073) (decide (mg a * mg b % 2 ^ 1073 ≠ 0)) m
    omega
def ov (a b m : Nat) : Nat := if cls a = 0 then 0 else if cls a = 3 ∨ cls b = 0 then (if sgn a then NINF else INF) else if cls b = 3 then 0 else (sDiv a b m).1
theorem sDiv_U (a b m : Nat) : U (sDiv a b m).1 := by
 unfold sDiv
 (repeat' split)
 ·decide
 ·decide
 ·unfold U sg INF; split <;> omega
 ·unfold U sg INF; split <;> omega
 ·unfold U sg; dsimp only; split <;> omega
 ·exact U_RND _ _ _ _
def abv (p : Nat × Nat) (lo hi : Nat) : Sp := cornP (ov p.1 lo 2) (ov p.1 lo 1) (ov p.1 hi 2) (ov p.1 hi 1) (ov p.2 lo 2) (ov p.2 lo 1) (ov p.2 hi 2) (ov p.2 hi 1)
def divS : Sp → Sp → Sp
 | some p, some q => join (if 0 < ord q.2 then abv p (hr q.1 0) q.2 else none) (if ord q.1 < 0 then neg (abv p (nz (ng (lw q.2 0))) (nz (ng q.1))) else none)
 | _, _ => none
end Go.Proofs.Ytmadjhmecfbcmaa.M
end
section
namespace Go.Proofs.Ytmadjhmecfbcmaa.M
open Go.RowKit Go.Proofs.YtmadjhmecfbcmaaW.PrintWords Go.Proofs.YtmadjhmecfbcmaaW.PrintLast Go.Proofs.YtmadjhmecfbcmaaW.PrintMore Go.Proofs.Ytmadjhmecfbcmaa.F
theorem abs_ok {p : Nat × Nat} (h : W2 p) : ∃ r, absS (some p) = some r ∧ W2 r ∧ 0 ≤ ord r.1 ∧ (0 ≤ ord p.1 → ord r.1 = ord p.1 ∧ ord r.2 = ord p.2) ∧ (ord p.1 < 0 → ord p.2 ≤ 0 → ord r.1 = -ord p.2 ∧ ord r.2 = -ord p.1) ∧
  (ord p.1 < 0 → 0 < ord p.2 → ord r.1 = 0 ∧ (ord r.2 = -ord p.1 ∨ ord r.2 = ord p.2) ∧ -ord p.1 ≤ ord r.2 ∧ ord p.2 ≤ ord r.2) := by
 unfold absS
 dsimp only
 by_cases c1 : 0 ≤ ord p.1
 ·rw [if_pos c1]; exact ⟨p, rfl, h, c1, fun _ => ⟨rfl, rfl⟩, fun x => by omega, fun x => by omega⟩
 ·rw [if_neg c1]
  by_cases c2 : ord p.2 ≤ 0
  ·rw [if_pos c2]
   obtain ⟨e, w⟩ := h.neg
   refine ⟨_, e, w, ?_, fun x => by omega, fun _ _ => ?_, fun _ x => by omega⟩
   ·dsimp only; rw [nz_ord, h.f2.ng_ord]; omega
   ·dsimp only; rw [nz_ord, h.f2.ng_ord, nz_ord, h.f1.ng_ord]; exact ⟨rfl, rfl⟩
  ·rw [if_neg c2]
   obtain ⟨e, w⟩ := h.abs3 (by omega) (by omega)
   have s := hr_spec (ng p.1) p.2
   rw [h.f1.ng_ord] at s
   refine ⟨_, e, w, ?_, fun x => by omega, fun _ x => by omega, fun _ _ => ?_⟩
   ·dsimp only; rw [ord0]; omega
   ·dsimp only; rw [ord0, nz_ord]; exact ⟨rfl, by omega, by omega, by omega⟩
end Go.Proofs.Ytmadjhmecfbcmaa.M
end
section
namespace Go.Proofs.Ytmadjhmecfbcmaa.M
open Go.RowKit Go.Proofs.YtmadjhmecfbcmaaW.PrintWords Go.Proofs.YtmadjhmecfbcmaaW.PrintLast Go.Proofs.YtmadjhmecfbcmaaW.PrintMore Go.Proofs.Ytmadjhmecfbcmaa.F
theorem Ev.ift {α : Type} {c : Prop} [Decidable c] {g f : Nat → Option α} {r : α} (h : c) (k : Ev g r) : Ev (fun n => if c then g n else f n) r := Ev.congr (fun _ => if_pos h) k
theorem Ev.iff {α : Type} {c : Prop} [Decidable c] {g f : Nat → Option α} {r : α} (h : ¬ c) (k : Ev f r) : Ev (fun n => if c then g n else f n) r := Ev.congr (fun _ => if_neg h) k
theorem e_none : (enc none).1 = true := rfl
theorem e_some (p : Nat × Nat) : ¬ (enc (some p)).1 = true := by show ¬ false = true; decide
def Is (e : Bool) (a b : Int) (s : Sp) : Prop := ∃ lo hi : Nat, U lo ∧ U hi ∧ a = lo ∧ b = hi ∧ norm e lo hi = s
theorem Is.wf {e : Bool} {a b : Int} {s : Sp} (h : Is e a b s) : WF s := by
 obtain ⟨lo, hi, h1, h2, _, _, rfl⟩ := h; exact norm_WF e lo hi h1 h2
theorem Is.enc {s : Sp} (h : WF s) : Is (enc s).1 (enc s).2.1 (enc s).2.2 s := by
 cases s with
 | none => exact ⟨0, 0, by decide, by decide, rfl, rfl, by unfold norm; rw [if_pos (.inl rfl)]⟩
 | some p => exact ⟨p.1, p.2, h.1, h.2.1, rfl, rfl, norm_id h⟩
theorem sn_ev {e : Bool} {a b : Int} {s : Sp} (h : Is e a b s) : Ev (fun k => span_norm.f k e a b) (enc s) := by
 obtain ⟨lo, hi, h1, h2, rfl, rfl, rfl⟩ := h; exact snorm_ev e lo hi h1 h2
theorem less_m {a b : Nat} (ha : Fl a) (hb : Fl b) : less a b = decide (ord a < ord b) := by
 unfold less; rw [decide_eq_decide]; exact ⟨fun h => h.2.2, fun h => ⟨ha.n, hb.n, h⟩⟩
theorem Max_ev {a b : Nat} (ha : Fl a) (hb : Fl b) : Ev (fun k => pattern_Max.f k [(a : Int), (b : Int)]) ((hr a b : Nat) : Int) := by
 unfold pattern_Max.f
 dsimp only
 refine Ev.b _ (nan_ev a ha.u) (Ev.iff (by rw [decide_eq_true_iff]; exact ha.n) ?_)
 refine Ev.b _ (Less_ev a a ha.u ha.u) (Ev.b _ (nan_ev b hb.u) (Ev.iff (by rw [decide_eq_true_iff]; exact hb.n) ?_))
 refine Ev.b _ (Less_ev a b ha.u hb.u) (Ev.const ?_)
 rw [less_m ha hb]
 unfold hr
 by_cases c : ord a < ord b
 ·rw [decide_eq_true c, if_pos rfl, if_pos c]
 ·rw [decide_eq_false c, if_neg (by decide), if_neg c]
theorem Min_ev {a b : Nat} (ha : Fl a) (hb : Fl b) : Ev (fun k => pattern_Min.f k [(a : Int), (b : Int)]) ((lw a b : Nat) : Int) := by
 unfold pattern_Min.f
 dsimp only
 refine Ev.b _ (nan_ev a ha.u) (Ev.iff (by rw [decide_eq_true_iff]; exact ha.n) ?_)
 refine Ev.b _ (Less_ev a a ha.u ha.u) (Ev.b _ (nan_ev b hb.u) (Ev.iff (by rw [decide_eq_true_iff]; exact hb.n) ?_))
 refine Ev.b _ (Less_ev b a hb.u ha.u) (Ev.const ?_)
 rw [less_m hb ha]
 unfold lw
 by_cases c : ord b < ord a
 ·rw [decide_eq_true c, if_pos rfl, if_pos c]
 ·rw [decide_eq_false c, if_neg (by decide), if_neg c]
theorem sMake_W2 {p : Nat × Nat} (h : W2 p) : Ev (fun k => span_Make.f k (p.1 : Int) (p.2 : Int)) (enc (some p)) := by
 have := sMake_ev p.1 p.2 h.u1 h.u2
 rw [h.norm] at this; exact this
theorem Join_step {L : List S43} {n i : Int} {e : Bool} {a b : Int} {s t : Sp} {r : Bool × Int × Int} (hs : WF s) (h0 : i < n) (h1 : 0 ≤ i) (h2 : i < (L.length : Int)) (hi : i < 1000) (ge : (rd_T43 L i).f0 = e) (ga : (rd_T43 L i).f1 = a) (gb : (rd_T43 L i).f2 = b) (h : Is e a b t)
  (K : Ev (fun k => span_Join.l0 k L n (i + 1) (enc (join s t)).1 (enc (join s t)).2.1 (enc (join s t)).2.2) r) :
  Ev (fun k => span_Join.l0 k L n i (enc s).1 (enc s).2.1 (enc s).2.2) r := by
 have w := h.wf
 have wi : wrap64 (i + 1) = i + 1 := w64 (by omega) (by omega)
 refine Ev.next ?_
 simp only [span_Join.l0]
 refine Ev.ift h0 (Ev.ift h1 (Ev.ift h2 ?_))
 rw [ge, ga, gb, wi]
 refine Ev.b _ (sn_ev h) ?_
 cases t with
 | none =>
  refine Ev.ift e_none ?_
  rw [join_none] at K
  exact K
 | some q =>
  refine Ev.iff (e_some q) ?_
  cases s with
  | none => exact Ev.ift e_none K
  | some p =>
   refine Ev.iff (e_some p) ?_
   have hp := W2.of hs
   have hq := W2.of w
   refine Ev.b _ (Min_ev hp.f1 hq.f1) (Ev.b _ (Max_ev hp.f2 hq.f2) ?_)
   have M := sMake_W2 (hp.join hq)
   have ej : join (some p) (some q) = some (lw p.1 q.1, hr p.2 q.2) := rfl
   rw [ej] at K
   dsimp only at M
   exact Ev.b _ M K
theorem Join_end {L : List S43} {n i : Int} {s : Sp} (h : ¬ i < n) : Ev (fun k => span_Join.l0 k L n i (enc s).1 (enc s).2.1 (enc s).2.2) (enc s) := by
 refine Ev.next ?_
 simp only [span_Join.l0]
 exact Ev.iff h (Ev.now _)
theorem Join1_ev {e : Bool} {a b : Int} {s : Sp} (h : Is e a b s) : Ev (fun k => span_Join.f k [⟨e, a, b⟩]) (enc s) := by
 unfold span_Join.f
 refine Ev.b (enc none) (Ev.now _) ?_
 refine Join_step (s := none) trivial (by simp) (by decide) (by simp) (by decide) rfl rfl rfl h ?_
 exact Join_end (by simp)
theorem sNeg_ev {e : Bool} {a b : Int} {s : Sp} (h : Is e a b s) : Ev (fun k => span_Neg.f k e a b) (enc (neg s)) := by
 have w := h.wf
 unfold span_Neg.f
 refine Ev.b _ (sn_ev h) ?_
 cases s with
 | none => exact Ev.ift e_none (Ev.now _)
 | some p =>
  have w := W2.of w
  refine Ev.iff (e_some p) ?_
  exact Ev.b _ (Neg_ev p.2 w.u2) (Ev.b _ (Neg_ev p.1 w.u1) (Ev.b _ (sMake_ev _ _ (ng_U _ w.u2) (ng_U _ w.u1)) (Ev.now _)))
theorem sAbs_ev {e : Bool} {a b : Int} {s : Sp} (h : Is e a b s) : Ev (fun k => span_Abs.f k e a b) (enc (absS s)) := by
 have w := h.wf
 unfold span_Abs.f
 refine Ev.b _ (sn_ev h) ?_
 cases s with
 | none =>
  refine Ev.ift e_none (Ev.next ?_)
  simp only [span_Abs.j0]
  exact Ev.ift e_none (Ev.now _)
 | some p =>
  have v := W2.of w
  refine Ev.iff (e_some p) ?_
  refine Ev.b _ (atMost_ev 0 p.1 (by decide) v.u1) (Ev.next ?_)
  simp only [span_Abs.j0]
  have l0 := le_iff Fl0.n v.n1
  have l1 := le_iff v.n2 Fl0.n
  rw [ord0] at l0 l1
  unfold absS
  dsimp only
  by_cases c1 : 0 ≤ ord p.1
  ·rw [if_pos c1]
   exact Ev.ift (l0.2 c1) (Ev.now _)
  ·rw [if_neg c1]
   refine Ev.iff (fun x => c1 (l0.1 x)) ?_
   refine Ev.b _ (atMost_ev p.2 0 v.u2 (by decide)) ?_
   by_cases c2 : ord p.2 ≤ 0
   ·rw [if_pos c2]
    exact Ev.ift (l1.2 c2) (Ev.b _ (sNeg_ev (Is.enc w)) (Ev.now _))
   ·rw [if_neg c2]
    refine Ev.iff (fun x => c2 (l1.1 x)) ?_
    refine Ev.b _ (Neg_ev p.1 v.u1) (Ev.b _ (Max_ev v.f1.ng v.f2) ?_)
    exact Ev.b _ (sMake_ev 0 _ (by decide) (hr_p (P := U) v.f1.ng.u v.u2)) (Ev.now _)
theorem sMost_ev {e : Bool} {a b : Int} {s : Sp} (h : Is e a b s) : Ev (fun k => span_Most.f k e a b) ((mostS s : Nat) : Int) := by
 unfold span_Most.f
 refine Ev.b _ (sAbs_ev h) (Ev.const ?_)
 unfold mostS
 cases absS s <;> rfl
theorem sIn_ev {e : Bool} {a b : Int} {s : Sp} {e' : Bool} {a' b' : Int} {t : Sp} (h : Is e a b s) (k : Is e' a' b' t) : Ev (fun k => span_Inside.f k e a b e' a' b') (ins s t) := by
 obtain ⟨l1, h1, a1, a2, rfl, rfl, rfl⟩ := h
 obtain ⟨l2, h2, b1, b2, rfl, rfl, rfl⟩ := k
 exact sInside_ev e l1 h1 e' l2 h2 a1 a2 b1 b2
def hasS (s : Sp) (f : Nat) : Bool := match s with | none => false | some p => decide (cls f ≠ 3) && (le p.1 f && le f p.2)
theorem norm_nan {f : Nat} (h : cls f = 4) : norm false f f = none := by
 unfold norm; rw [if_pos]; right; left; unfold le; rw [decide_eq_false_iff_not]; exact fun x => x.1 h
theorem sHas_ev {e : Bool} {a b : Int} {s : Sp} (h : Is e a b s) (f : Nat) (hf : U f) : Ev (fun k => span_Has.f k e a b (f : Int)) (hasS s f) := by
 have w := h.wf
 have lf := cls_le f
 unfold span_Has.f
 refine Ev.b _ (Class_ev f hf) ?_
 by_cases c3 : cls f = 3
 ·refine Ev.ift (by omega) (Ev.const ?_)
  unfold hasS
  cases s
  ·rfl
  ·rw [decide_eq_false (fun x => x c3)]; rfl
 ·refine Ev.iff (by omega) ?_
  refine Ev.b _ (sPoint_ev f hf) ?_
  by_cases c4 : cls f = 4
  ·rw [norm_nan c4]
   refine Ev.ift e_none (Ev.const ?_)
   unfold hasS
   cases s with
   | none => rfl
   | some p =>
    have : le p.1 f = false := by unfold le; rw [decide_eq_false_iff_not]; exact fun x => x.2.1 c4
    dsimp only
    rw [this, Bool.false_and, Bool.and_false]
  ·have F : Fl f := ⟨hf, c4⟩
   have fb := (fin_iff F).1 (by omega)
   obtain ⟨en, wn⟩ := norm_some F F (Int.le_refl _) fb.2 fb.1
   refine Ev.iff (by rw [en]; exact e_some _) ?_
   refine Ev.b _ (sPoint_ev f hf) ?_
   rw [en]
   refine Ev.b _ (sIn_ev (Is.enc wn.wf) h) (Ev.const ?_)
   unfold hasS ins
   cases s with
   | none => rfl
   | some p =>
    dsimp only
    rw [decide_eq_true c3, Bool.true_and]
    have e1 : le p.1 (nz f) = le p.1 f := by unfold le; rw [nz_cls, nz_ord]
    have e2 : le (nz f) p.2 = le f p.2 := by unfold le; rw [nz_cls, nz_ord]
    rw [e1, e2]
end Go.Proofs.Ytmadjhmecfbcmaa.M
end
section
namespace Go.Proofs.Ytmadjhmecfbcmaa.M
open Go.RowKit Go.Proofs.YtmadjhmecfbcmaaW.PrintWords Go.Proofs.YtmadjhmecfbcmaaW.PrintLast Go.Proofs.YtmadjhmecfbcmaaW.PrintMore Go.Proofs.Ytmadjhmecfbcmaa.F
theorem mk_ev (lo hi : Nat) (v : Sp) (h1 : U lo) (h2 : U hi) (e : norm false lo hi = v) : Ev (fun k => span_Make.f k (lo : Int) (hi : Int)) (enc v) := by
 have := sMake_ev lo hi h1 h2
 rw [e] at this; exact this
theorem pt_ev (f : Nat) (v : Sp) (h : U f) (e : norm false f f = v) : Ev (fun k => span_Point.f k (f : Int)) (enc v) := by
 have := sPoint_ev f h
 rw [e] at this; exact this
theorem n11 : norm false 4607182418800017408 4607182418800017408 = some (4607182418800017408, 4607182418800017408) := by decide +kernel
theorem nall : norm false NINF INF = some (NINF, INF) := by decide +kernel
theorem n02 : norm false 0 4611686018427387904 = some (0, 4611686018427387904) := by decide +kernel
theorem n01 : norm false 0 4607182418800017408 = some (0, 4607182418800017408) := by decide +kernel
theorem v2 : divS (some (4607182418800017408, 4607182418800017408)) (some (13830554455654793216, 4611686018427387904)) = some (NINF, INF) := by decide +kernel
theorem wf_of {lo hi : Nat} {v : Sp} (h1 : U lo) (h2 : U hi) (e : norm false lo hi = v) : WF v := by rw [← e]; exact norm_WF _ _ _ h1 h2
end Go.Proofs.Ytmadjhmecfbcmaa.M
end
section
namespace Go.Proofs.Ytmadjhmecfbcmaa.M
open Go.RowKit Go.Proofs.YtmadjhmecfbcmaaW.PrintWords Go.Proofs.YtmadjhmecfbcmaaW.PrintLast Go.Proofs.YtmadjhmecfbcmaaW.PrintMore Go.Proofs.Ytmadjhmecfbcmaa.F
theorem rkey_ok (a : Nat) (h : U a) : flyballref04_Key.f (a : Int) = some (ord a) := by
 have e := ex_lt a
 have f := fr_lt a
 have k := key_parts' a
 unfold flyballref04_Key.f
 rw [ref_Parts_ok a h, Option.bind_some]
 dsimp only
 rw [w64 (n := (ex a : Int) * 4503599627370496) (by omega) (by omega), w64 (n := (fr a : Int)) (by omega) (by omega), w64 (n := (ex a : Int) * 4503599627370496 + (fr a : Int)) (by omega) (by omega)]
 unfold ord
 by_cases s : sgn a = true
 ·rw [if_pos s, if_pos s, w64 (by omega) (by omega)]
  congr 1; omega
 ·rw [if_neg s, if_neg s]
  congr 1; omega
theorem refCmp_ev (a b : Nat) (ha : U a) (hb : U b) : Ev (fun k => flyballref04_Cmp.f k (a : Int) (b : Int)) (cmpI a b) := by
 have la := cls_le a
 have lb := cls_le b
 unfold flyballref04_Cmp.f
 refine Ev.b _ (ref_Class_ev a ha) ?_
 by_cases c1 : cls a = 4
 ·have e : cmpI a b = (0, false) := by unfold cmpI; rw [if_pos (.inl c1)]
  rw [e]
  refine Ev.ift (by omega) (Ev.next ?_)
  simp only [flyballref04_Cmp.j0]
  exact Ev.ift trivial (Ev.now _)
 ·refine Ev.iff (by omega) (Ev.b _ (ref_Class_ev b hb) (Ev.next ?_))
  simp only [flyballref04_Cmp.j0]
  by_cases c2 : cls b = 4
  ·have e : cmpI a b = (0, false) := by unfold cmpI; rw [if_pos (.inr c2)]
   rw [e]
   exact Ev.ift (by rw [c2]; rfl) (Ev.now _)
  ·refine Ev.iff (by rw [beq_iff_eq]; omega) ?_
   refine Ev.b _ (Ev.const (rkey_ok a ha)) (Ev.b _ (Ev.const (rkey_ok b hb)) (Ev.const ?_))
   unfold cmpI
   rw [if_neg (show ¬ (cls a = 4 ∨ cls b = 4) by omega)]
   by_cases c3 : ord a < ord b
   ·rw [if_pos c3, if_pos c3]
   ·rw [if_neg c3, if_neg c3]
    by_cases c4 : ord a > ord b
    ·rw [if_pos c4, if_pos c4]
    ·rw [if_neg c4, if_neg c4]
end Go.Proofs.Ytmadjhmecfbcmaa.M
end
section
namespace Go.Proofs.Ytmadjhmecfbcmaa.M
open Go.RowKit Go.Proofs.YtmadjhmecfbcmaaW.PrintWords Go.Proofs.YtmadjhmecfbcmaaW.PrintLast Go.Proofs.YtmadjhmecfbcmaaW.PrintMore Go.Proofs.Ytmadjhmecfbcmaa.F
theorem rd_map (l : List Nat) (i : Nat) (h : i < l.length) : rd (l.map Nat.cast) (i : Int) = ((l[i] : Nat) : Int) := by
 unfold rd; rw [Int.toNat_natCast, List.getD_eq_getElem?_getD, List.getElem?_map, List.getElem?_eq_getElem h]; rfl
end Go.Proofs.Ytmadjhmecfbcmaa.M
end
section
namespace Go.Proofs.Ytmadjhmecfbcmaa.M
open Go.RowKit Go.Proofs.YtmadjhmecfbcmaaW.PrintWords Go.Proofs.YtmadjhmecfbcmaaW.PrintLast Go.Proofs.YtmadjhmecfbcmaaW.PrintMore Go.Proofs.Ytmadjhmecfbcmaa.F
def gd (e : Nat) : Nat := if cls e = 0 then 0 else if cls e = 4 ∨ sgn e = true then INF else e
structure G (x : Nat) : Prop where
 fl : Fl x
 p : 0 ≤ ord x
 z : nz x = x
theorem G0 : G 0 := ⟨Fl0, by decide, by decide⟩
theorem GINF : G INF := ⟨FlINF, by decide +kernel, by decide⟩
theorem G1 : G 1 := ⟨⟨by decide, by decide⟩, by decide +kernel, by decide⟩
theorem gd_G {e : Nat} (h : U e) : G (gd e) := by
 unfold gd
 split
 ·exact G0
 ·rename_i c0
  split
  ·exact GINF
  ·rename_i c
   have s : sgn e = false := by
    cases s : sgn e
    ·rfl
    ·exact absurd (.inr s) c
   exact ⟨⟨h, fun x => c (.inl x)⟩, ord_pos_ge e s, by unfold nz; rw [if_neg c0]⟩
theorem gd_ev (e : Nat) (h : U e) : Ev (fun k => slip_Good.f k (e : Int)) ((gd e : Nat) : Int) := by
 have es : ((e : Int) / 9223372036854775808 = 1) ↔ sgn e = true := by rw [← sgn_cast, beq_iff_eq]
 have I : Ev (fun k => slip_inf.f k) (INF : Int) := by unfold slip_inf.f; exact Ev.b _ (Inf_ev false) (Ev.now _)
 have Z : Ev (fun k => slip_zero.f k (e : Int)) (decide (cls e = 0)) := by
  unfold slip_zero.f
  refine Ev.b _ (Class_ev e h) (Ev.const ?_)
  congr 1
  by_cases c : cls e = 0
  ·rw [decide_eq_true c, c]; rfl
  ·rw [decide_eq_false c, beq_eq_false_iff_ne]; omega
 unfold slip_Good.f gd
 refine Ev.b _ Z ?_
 by_cases c0 : cls e = 0
 ·rw [if_pos c0]; exact Ev.ift (decide_eq_true c0) (Ev.now _)
 ·rw [if_neg c0]
  refine Ev.iff (by rw [decide_eq_true_iff]; exact c0) (Ev.b _ (Class_ev e h) ?_)
  by_cases c4 : cls e = 4
  ·rw [if_pos (.inl c4)]
   exact Ev.ift (by omega) (Ev.b _ I (Ev.now _))
  ·refine Ev.iff (by omega) ?_
   by_cases s : sgn e = true
   ·rw [if_pos (.inr s)]
    exact Ev.ift (es.2 s) (Ev.b _ I (Ev.now _))
   ·have n : ¬ (cls e = 4 ∨ sgn e = true) := by rintro (x | x); exact c4 x; exact s x
    rw [if_neg n]
    exact Ev.iff (fun x => s (es.1 x)) (Ev.now _)
theorem sinf19_ev : Ev (fun k => slip_inf.f k) (INF : Int) := by unfold slip_inf.f; exact Ev.b _ (Inf_ev false) (Ev.now _)
theorem szero19_ev (e : Nat) (h : U e) : Ev (fun k => slip_zero.f k (e : Int)) (decide (cls e = 0)) := by
 unfold slip_zero.f
 refine Ev.b _ (Class_ev e h) (Ev.const ?_)
 congr 1
 by_cases c : cls e = 0
 ·rw [decide_eq_true c, c]; rfl
 ·rw [decide_eq_false c, beq_eq_false_iff_ne]; omega
theorem rgd_ev (e : Nat) (h : U e) : Ev (fun k => flyballref19_Good.f k (e : Int)) ((gd e : Nat) : Int) := by
 have es : ((e : Int) / 9223372036854775808 = 1) ↔ sgn e = true := by rw [← sgn_cast, beq_iff_eq]
 unfold flyballref19_Good.f gd
 refine Ev.b _ (ref_Class_ev e h) ?_
 by_cases c0 : cls e = 0
 ·rw [if_pos c0]; exact Ev.ift (by omega) (Ev.now _)
 ·rw [if_neg c0]
  refine Ev.iff (by omega) (Ev.b _ (ref_Class_ev e h) ?_)
  by_cases c4 : cls e = 4
  ·refine Ev.ift (by omega) ?_
   rw [if_pos (.inl c4)]
   exact Ev.now (INF : Int)
  ·refine Ev.iff (by omega) ?_
   by_cases s : sgn e = true
   ·refine Ev.ift (es.2 s) ?_
    rw [if_pos (.inr s)]
    exact Ev.now (INF : Int)
   ·have n : ¬ (cls e = 4 ∨ sgn e = true) := by rintro (x | x); exact c4 x; exact s x
    rw [if_neg n]
    exact Ev.iff (fun x => s (es.1 x)) (Ev.now _)
def ad (a b : Nat) : Nat := gd (sAdd a b 1).1
def mu (a b : Nat) : Nat := gd (tms a b 1)
def dv (a b : Nat) : Nat := gd (sDiv a b 1).1
theorem ad_ev (a b : Nat) (ha : U a) (hb : U b) : Ev (fun k => slip_add.f k (a : Int) (b : Int)) ((ad a b : Nat) : Int) := by
 have A := Add_ev a b 1 ha hb
 have u := sAdd_U a b 1 ha hb
 unfold slip_add.f ad
 unfold pr at A
 generalize sAdd a b 1 = x at A u ⊢
 exact Ev.b _ A (Ev.b _ (gd_ev x.1 u) (Ev.now _))
theorem dv_ev (a b : Nat) (ha : U a) (hb : U b) : Ev (fun k => slip_div.f k (a : Int) (b : Int)) ((dv a b : Nat) : Int) := by
 have A := Div_ev a b 1 ha hb
 have u := sDiv_U a b 1
 unfold slip_div.f dv
 unfold pr at A
 generalize sDiv a b 1 = x at A u ⊢
 exact Ev.b _ A (Ev.b _ (gd_ev x.1 u) (Ev.now _))
theorem mu_ev (a b : Nat) (ha : U a) (hb : U b) : Ev (fun k => slip_mul.f k (a : Int) (b : Int)) ((mu a b : Nat) : Int) := by
 have g0 : gd 0 = 0 := by decide
 unfold slip_mul.f mu tms
 refine Ev.b _ (szero19_ev a ha) ?_
 by_cases c1 : cls a = 0
 ·rw [if_pos (.inl c1), g0]
  refine Ev.ift (decide_eq_true c1) (Ev.next ?_)
  simp only [slip_mul.j0]
  exact Ev.ift trivial (Ev.now _)
 ·refine Ev.iff (by rw [decide_eq_true_iff]; exact c1) (Ev.b _ (szero19_ev b hb) (Ev.next ?_))
  simp only [slip_mul.j0]
  by_cases c2 : cls b = 0
  ·rw [if_pos (.inr c2), g0]
   exact Ev.ift (decide_eq_true c2) (Ev.now _)
  ·have n : ¬ (cls a = 0 ∨ cls b = 0) := by rintro (x | x); exact c1 x; exact c2 x
   rw [if_neg n]
   refine Ev.iff (by rw [decide_eq_true_iff]; exact c2) ?_
   have A := Mul_ev a b 1 ha hb
   have u := sMul_U a b 1
   unfold pr at A
   generalize sMul a b 1 = x at A u ⊢
   exact Ev.b _ A (Ev.b _ (gd_ev x.1 u) (Ev.now _))
theorem ad_G {a b : Nat} (ha : G a) (hb : G b) : G (ad a b) := gd_G (sAdd_U _ _ _ ha.fl.u hb.fl.u)
theorem mu_G {a b : Nat} (ha : G a) (hb : G b) : G (mu a b) := gd_G (tms_fl ha.fl hb.fl 1).u
theorem dv_G (a b : Nat) : G (dv a b) := gd_G (sDiv_U _ _ _)
def rnu (m : Nat) : Nat := if gd m = 0 then 0 else if gd m = INF then INF else hr (mu (gd m) 4368491638549381120) 1
theorem Gun : G 4368491638549381120 := ⟨⟨by decide, by decide⟩, by decide +kernel, by decide⟩
theorem hr_G {a b : Nat} (ha : G a) (hb : G b) : G (hr a b) := by
 have s := hr_spec a b
 have p := ha.p
 exact ⟨hr_p ha.fl hb.fl, by omega, hr_p (P := fun x => nz x = x) ha.z hb.z⟩
theorem rnu_G {m : Nat} (h : U m) : G (rnu m) := by
 unfold rnu
 split
 ·exact G0
 ·split
  ·exact GINF
  ·exact hr_G (mu_G (gd_G h) Gun) G1
theorem rnu_ev (m : Nat) (h : U m) : Ev (fun k => slip_Round.f k (m : Int)) ((rnu m : Nat) : Int) := by
 have g := gd_G h
 unfold slip_Round.f rnu
 refine Ev.b _ (gd_ev m h) ?_
 generalize gd m = x at g ⊢
 by_cases c0 : x = 0
 ·rw [if_pos c0]; exact Ev.ift (by omega) (Ev.now _)
 ·rw [if_neg c0]
  refine Ev.iff (by omega) (Ev.b _ sinf19_ev ?_)
  by_cases c1 : x = INF
  ·rw [if_pos c1, ← c1]; exact Ev.ift rfl (Ev.now _)
  ·rw [if_neg c1]
   refine Ev.iff (by omega) (Ev.b _ (mu_ev x 4368491638549381120 g.fl.u (by decide)) ?_)
   exact Ev.b _ (Max_ev (mu_G g Gun).fl G1.fl) (Ev.now _)
def jn : Nat → List Nat → Nat
 | j, [] => j
 | j, e :: l => jn (hr j (gd e)) l
theorem jn_l0 (l : List Nat) (hl : l.length < 1000000) (hU : ∀ x ∈ l, U x) : ∀ (d i j : Nat), l.length - i = d → i ≤ l.length → G j →
  Ev (fun k => slip_Join.l0 k (j : Int) (l.map Nat.cast) ((l.map Nat.cast : List Int).length : Int) (i : Int)) ((jn j (l.drop i) : Nat) : Int)
 | 0, i, j, hd, hi, g => by
  rw [List.drop_eq_nil_of_le (by omega)]
  refine Ev.next ?_
  simp only [slip_Join.l0]
  exact Ev.iff (by rw [List.length_map]; omega) (Ev.now _)
 | d + 1, i, j, hd, hi, g => by
  have hlt : i < l.length := by omega
  have uf := hU l[i] (List.getElem_mem hlt)
  rw [List.drop_eq_getElem_cons hlt]
  refine Ev.next ?_
  simp only [slip_Join.l0]
  refine Ev.ift (by rw [List.length_map]; omega) (Ev.ift (by omega) (Ev.ift (by rw [List.length_map]; omega) ?_))
  rw [rd_map l i hlt]
  have wr : wrap64 ((i : Int) + 1) = ((i + 1 : Nat) : Int) := by rw [w64 (by omega) (by omega)]; omega
  rw [wr]
  refine Ev.b _ (gd_ev _ uf) (Ev.b _ (Max_ev g.fl (gd_G uf).fl) ?_)
  exact jn_l0 l hl hU d (i + 1) _ (by omega) (by omega) (hr_G g (gd_G uf))
theorem jn_ev (l : List Nat) (hl : l.length < 1000000) (hU : ∀ x ∈ l, U x) : Ev (fun k => slip_Join.f k (l.map Nat.cast)) ((jn 0 l : Nat) : Int) := by
 unfold slip_Join.f
 exact jn_l0 l hl hU l.length 0 0 (by omega) (by omega) G0
def wdl (y : Nat) : Nat → List Nat → Nat
 | b, [] => b
 | b, f :: l => wdl y (if le y f = true ∧ less f b = true then f else b) l
def wds (o n : Nat) (l : List Nat) : Nat := if less (gd o) (gd n) = true then wdl (gd n) INF l else gd o
theorem wdl_U (y : Nat) : ∀ (l : List Nat) (b : Nat), U b → (∀ x ∈ l, U x) → U (wdl y b l)
 | [], b, h, _ => h
 | f :: l, b, h, k => by
  refine wdl_U y l _ ?_ (fun x hx => k x (List.mem_cons_of_mem _ hx))
  split
  ·exact k f (List.mem_cons_self ..)
  ·exact h
theorem wdl_le (y : Nat) : ∀ (l : List Nat) (b : Nat), le y b = true → le y (wdl y b l) = true
 | [], b, h => h
 | f :: l, b, h => by
  refine wdl_le y l _ ?_
  split
  ·rename_i c; exact c.1
  ·exact h
theorem cmp_le (a b : Nat) : (cmpI a b).2 = true ∧ (cmpI a b).1 ≤ 0 ↔ le a b = true := by
 rw [le_cmp, Bool.and_eq_true, decide_eq_true_iff]
theorem sWd_l0 (y : Nat) (uy : U y) (l : List Nat) (hl : l.length < 1000000) (hU : ∀ x ∈ l, U x) : ∀ (d i b : Nat), l.length - i = d → i ≤ l.length → U b →
  Ev (fun k => slip_Widen.l0 k (y : Int) (b : Int) (l.map Nat.cast) ((l.map Nat.cast : List Int).length : Int) (i : Int)) ((wdl y b (l.drop i) : Nat) : Int)
 | 0, i, b, hd, hi, g => by
  rw [List.drop_eq_nil_of_le (by omega)]
  refine Ev.next ?_
  simp only [slip_Widen.l0]
  exact Ev.iff (by rw [List.length_map]; omega) (Ev.now _)
 | d + 1, i, b, hd, hi, g => by
  have hlt : i < l.length := by omega
  have uf := hU l[i] (List.getElem_mem hlt)
  rw [List.drop_eq_getElem_cons hlt]
  refine Ev.next ?_
  simp only [slip_Widen.l0]
  refine Ev.ift (by rw [List.length_map]; omega) (Ev.ift (by omega) (Ev.ift (by rw [List.length_map]; omega) ?_))
  rw [rd_map l i hlt]
  have wr : wrap64 ((i : Int) + 1) = ((i + 1 : Nat) : Int) := by rw [w64 (by omega) (by omega)]; omega
  rw [wr]
  have e2 : wdl y b (l[i] :: l.drop (i + 1)) = wdl y (if le y l[i] = true ∧ less l[i] b = true then l[i] else b) (l.drop (i + 1)) := rfl
  rw [e2]
  refine Ev.b _ (Cmp_ev y l[i] uy uf) ?_
  have cl := cmp_le y l[i]
  by_cases c1 : le y l[i] = true
  ·refine Ev.ift (cl.2 c1).1 (Ev.ift (cl.2 c1).2 (Ev.b _ (Less_ev l[i] b uf g) ?_))
   by_cases c2 : less l[i] b = true
   ·rw [if_pos (show le y l[i] = true ∧ less l[i] b = true from ⟨c1, c2⟩)]
    exact Ev.ift c2 (sWd_l0 y uy l hl hU d (i + 1) _ (by omega) (by omega) uf)
   ·rw [if_neg (show ¬ (le y l[i] = true ∧ less l[i] b = true) from fun x => c2 x.2)]
    exact Ev.iff c2 (sWd_l0 y uy l hl hU d (i + 1) _ (by omega) (by omega) g)
  ·rw [if_neg (show ¬ (le y l[i] = true ∧ less l[i] b = true) from fun x => c1 x.1)]
   by_cases c2 : (cmpI y l[i]).2 = true
   ·exact Ev.ift c2 (Ev.iff (fun x => c1 (cl.1 ⟨c2, x⟩)) (sWd_l0 y uy l hl hU d (i + 1) _ (by omega) (by omega) g))
   ·exact Ev.iff c2 (sWd_l0 y uy l hl hU d (i + 1) _ (by omega) (by omega) g)
theorem sWds_ev (o n : Nat) (uo : U o) (un : U n) (l : List Nat) (hl : l.length < 1000000) (hU : ∀ x ∈ l, U x) : Ev (fun k => slip_Widen.f k (o : Int) (n : Int) (l.map Nat.cast)) ((wds o n l : Nat) : Int) := by
 have go := gd_G uo
 have gn := gd_G un
 unfold slip_Widen.f wds
 refine Ev.b _ (gd_ev o uo) (Ev.b _ (gd_ev n un) (Ev.b _ (Less_ev _ _ go.fl.u gn.fl.u) ?_))
 by_cases c : less (gd o) (gd n) = true
 ·rw [if_pos c]
  exact Ev.ift c (Ev.b _ sinf19_ev (sWd_l0 (gd n) gn.fl.u l hl hU l.length 0 INF (by omega) (by omega) (by decide)))
 ·rw [if_neg c]
  exact Ev.iff c (Ev.now _)
theorem rWd_l0 (y : Nat) (uy : U y) (l : List Nat) (hl : l.length < 1000000) (hU : ∀ x ∈ l, U x) (ny : cls y ≠ 4) : ∀ (d i b : Nat), l.length - i = d → i ≤ l.length → Fl b →
  Ev (fun k => flyballref19_Widen.l0 k (l.map Nat.cast) (y : Int) (b : Int) (i : Int)) ((wdl y b (l.drop i) : Nat) : Int)
 | 0, i, b, hd, hi, g => by
  rw [List.drop_eq_nil_of_le (by omega)]
  refine Ev.next ?_
  simp only [flyballref19_Widen.l0]
  exact Ev.iff (by rw [List.length_map]; omega) (Ev.now _)
 | d + 1, i, b, hd, hi, g => by
  have hlt : i < l.length := by omega
  have uf := hU l[i] (List.getElem_mem hlt)
  rw [List.drop_eq_getElem_cons hlt]
  refine Ev.next ?_
  simp only [flyballref19_Widen.l0]
  refine Ev.ift (by rw [List.length_map]; omega) (Ev.ift (by omega) ?_)
  rw [rd_map l i hlt]
  have wr : wrap64 ((i : Int) + 1) = ((i + 1 : Nat) : Int) := by rw [w64 (by omega) (by omega)]; omega
  rw [wr]
  have e2 : wdl y b (l[i] :: l.drop (i + 1)) = wdl y (if le y l[i] = true ∧ less l[i] b = true then l[i] else b) (l.drop (i + 1)) := rfl
  rw [e2]
  refine Ev.b _ (refCmp_ev y l[i] uy uf) (Ev.b _ (refCmp_ev l[i] b uf g.u) ?_)
  have cl := cmp_le y l[i]
  have R := rWd_l0 y uy l hl hU ny d (i + 1)
  by_cases c1 : le y l[i] = true
  ·have F : Fl l[i] := ⟨uf, (le_nan c1).2.1⟩
   have ec : (cmpI l[i] b).1 < 0 ↔ less l[i] b = true := by
    rw [less_m F g, decide_eq_true_iff]
    unfold cmpI
    rw [if_neg (by rintro (z | z); exact F.n z; exact g.n z)]
    dsimp only
    split
    ·rename_i z; exact ⟨fun _ => z, fun _ => by decide⟩
    ·rename_i z; split <;> exact ⟨fun h => absurd h (by decide), fun h => absurd h z⟩
   refine Ev.ift (cl.2 c1).1 (Ev.ift (cl.2 c1).2 ?_)
   by_cases c2 : less l[i] b = true
   ·rw [if_pos (show le y l[i] = true ∧ less l[i] b = true from ⟨c1, c2⟩)]
    exact Ev.ift (ec.2 c2) (R _ (by omega) (by omega) F)
   ·rw [if_neg (show ¬ (le y l[i] = true ∧ less l[i] b = true) from fun x => c2 x.2)]
    exact Ev.iff (fun x => c2 (ec.1 x)) (R _ (by omega) (by omega) g)
  ·rw [if_neg (show ¬ (le y l[i] = true ∧ less l[i] b = true) from fun x => c1 x.1)]
   by_cases c2 : (cmpI y l[i]).2 = true
   ·exact Ev.ift c2 (Ev.iff (fun x => c1 (cl.1 ⟨c2, x⟩)) (R _ (by omega) (by omega) g))
   ·exact Ev.iff c2 (R _ (by omega) (by omega) g)
theorem cmp_fl {a b : Nat} (ha : Fl a) (hb : Fl b) : ((cmpI a b).1 ≤ 0 ↔ ord a ≤ ord b) ∧ ((cmpI a b).1 > 0 ↔ ord b < ord a) := by
 have n : ¬ (cls a = 4 ∨ cls b = 4) := by rintro (z | z); exact ha.n z; exact hb.n z
 unfold cmpI
 rw [if_neg n]
 dsimp only
 refine ⟨?_, ?_⟩ <;> (split <;> (try split) <;> omega)
theorem rWds_ev (o n : Nat) (uo : U o) (un : U n) (l : List Nat) (hl : l.length < 1000000) (hU : ∀ x ∈ l, U x) : Ev (fun k => flyballref19_Widen.f k (o : Int) (n : Int) (l.map Nat.cast)) ((wds o n l : Nat) : Int) := by
 have go := gd_G uo
 have gn := gd_G un
 unfold flyballref19_Widen.f wds
 refine Ev.b _ (rgd_ev o uo) (Ev.b _ (rgd_ev n un) (Ev.b _ (refCmp_ev _ _ gn.fl.u go.fl.u) ?_))
 obtain ⟨c1, _⟩ := cmp_fl gn.fl go.fl
 have lm := less_m go.fl gn.fl
 by_cases c : ord (gd o) < ord (gd n)
 ·rw [lm, decide_eq_true c, if_pos rfl]
  exact Ev.iff (fun x => by have := c1.1 x; omega) (rWd_l0 (gd n) gn.fl.u l hl hU gn.fl.n l.length 0 INF (by omega) (by omega) FlINF)
 ·rw [lm, decide_eq_false c, if_neg (by decide)]
  exact Ev.ift (c1.2 (by omega)) (Ev.now _)
def fad (op : Int) (s t : Sp) : Bool := if op = 7 then (if mostS s = 0 then false else decide (mostS t ≠ 0)) else if op = 8 then decide (mostS s ≠ 0) else false
def quo (s t : Sp) (p q r : Nat) : Nat :=
 if hasS t 0 = true then INF
 else match absS t with
  | none => INF
  | some n => if less 0 (sAdd n.1 (ng q) 2).1 = true then ad (dv (ad (mu (dv (mostS s) n.1) q) p) (sAdd n.1 (ng q) 2).1) r else INF
def doR (op : Int) (s t : Sp) (p q r : Nat) : Nat :=
 if op = 5 ∨ op = 6 then ad (ad p q) r
 else if op = 7 then (if p = INF ∨ q = INF then INF else ad (ad (ad (mu (mostS s) q) (mu (mostS t) p)) (mu p q)) r)
 else if op = 8 then quo s t p q r
 else if op = 17 ∨ op = 21 then p
 else if op = 20 then 0
 else INF
def rOf (op : Int) (s t u : Sp) : Nat := if fad op s t = true ∧ rnu (mostS u) = 0 then 1 else rnu (mostS u)
end Go.Proofs.Ytmadjhmecfbcmaa.M
end
section
namespace Go.Proofs.Ytmadjhmecfbcmaa.M
open Go.RowKit Go.Proofs.YtmadjhmecfbcmaaW.PrintWords Go.Proofs.YtmadjhmecfbcmaaW.PrintLast Go.Proofs.YtmadjhmecfbcmaaW.PrintMore Go.Proofs.Ytmadjhmecfbcmaa.F
theorem most_G {s : Sp} (h : WF s) : G (mostS s) := by
 cases s with
 | none => exact G0
 | some p =>
  obtain ⟨r, e, w, p0, _⟩ := abs_ok (W2.of h)
  have o := w.o
  unfold mostS; rw [e]
  exact ⟨w.f2, by dsimp only; omega, w.z2⟩
theorem fad_ev (op : Int) {s t : Sp} (u : Bool × Int × Int) (p q : Int) (hs : WF s) (ht : WF t) :
  Ev (fun k => slip_sides_fades.f k (enc s).1 (enc s).2.1 (enc s).2.2 (enc t).1 (enc t).2.1 (enc t).2.2 u.1 u.2.1 u.2.2 p q op) (fad op s t) := by
 have m1 := sMost_ev (Is.enc hs)
 have m2 := sMost_ev (Is.enc ht)
 unfold slip_sides_fades.f fad
 have ne : ∀ x : Nat, ((x : Int) != 0) = decide (x ≠ 0) := by
  intro x
  by_cases c : x = 0
  ·rw [c]; rfl
  ·rw [decide_eq_true c, bne_iff_ne]; omega
 by_cases c7 : op = 7
 ·rw [if_pos c7]
  refine Ev.ift c7 (Ev.b _ m1 ?_)
  by_cases c : mostS s = 0
  ·rw [if_pos c]; exact Ev.ift (by omega) (Ev.now _)
  ·rw [if_neg c, ← ne]
   exact Ev.iff (by omega) (Ev.b _ m2 (Ev.now _))
 ·rw [if_neg c7]
  refine Ev.iff c7 ?_
  by_cases c8 : op = 8
  ·rw [if_pos c8, ← ne]
   exact Ev.ift c8 (Ev.b _ m1 (Ev.now _))
  ·rw [if_neg c8]
   exact Ev.iff c8 (Ev.now _)
theorem sSub_ev (a b m : Nat) (ha : U a) (hb : U b) : Ev (fun k => soft_Sub.f k (a : Int) (b : Int) (m : Int)) (pr (sAdd a (ng b) m)) := Sub_ev a b m ha hb
theorem quo_ev {s t : Sp} (u : Bool × Int × Int) {p q r : Nat} (hs : WF s) (ht : WF t) (tn : t ≠ none) (gp : G p) (gq : G q) (gr : G r) :
  Ev (fun k => slip_sides_quotient.f k (enc s).1 (enc s).2.1 (enc s).2.2 (enc t).1 (enc t).2.1 (enc t).2.2 u.1 u.2.1 u.2.2 (p : Int) (q : Int) (r : Int)) ((quo s t p q r : Nat) : Int) := by
 unfold slip_sides_quotient.f quo
 refine Ev.b _ (sHas_ev (Is.enc ht) 0 (by decide)) ?_
 by_cases c : hasS t 0 = true
 ·rw [if_pos c]
  exact Ev.ift c (Ev.b _ sinf19_ev (Ev.now _))
 ·rw [if_neg c]
  refine Ev.iff c (Ev.b _ (sAbs_ev (Is.enc ht)) ?_)
  have hn : ∃ n, absS t = some n ∧ W2 n := by
   cases t with
   | none => exact absurd rfl tn
   | some y => obtain ⟨n, e, w, _⟩ := abs_ok (W2.of ht); exact ⟨n, e, w⟩
  obtain ⟨n, en, wn⟩ := hn
  rw [en]
  dsimp only
  have S := sSub_ev n.1 q 2 wn.u1 gq.fl.u
  have us := sAdd_U n.1 (ng q) 2 wn.u1 (ng_U q gq.fl.u)
  unfold pr at S
  generalize sAdd n.1 (ng q) 2 = d at S us ⊢
  refine Ev.b _ S (Ev.b _ (Less_ev 0 d.1 (by decide) us) ?_)
  by_cases l : less 0 d.1 = true
  ·rw [if_pos l]
   have gm := most_G hs
   have g1 := dv_G (mostS s) n.1
   have g2 := mu_G g1 gq
   have g3 := ad_G g2 gp
   have g4 := dv_G (ad (mu (dv (mostS s) n.1) q) p) d.1
   refine Ev.ift l (Ev.b _ (sMost_ev (Is.enc hs)) ?_)
   refine Ev.b _ (dv_ev _ _ gm.fl.u wn.u1) (Ev.b _ (mu_ev _ _ g1.fl.u gq.fl.u) (Ev.b _ (ad_ev _ _ g2.fl.u gp.fl.u) ?_))
   exact Ev.b _ (dv_ev _ _ g3.fl.u us) (Ev.b _ (ad_ev _ _ g4.fl.u gr.fl.u) (Ev.now _))
  ·rw [if_neg l]
   exact Ev.iff l (Ev.b _ sinf19_ev (Ev.now _))
def doS (op : Int) (s t u : Sp) (p q : Nat) : Nat :=
 if s = none ∨ u = none ∨ (5 ≤ op ∧ op ≤ 16 ∧ t = none) then 0 else doR op s t p q (rOf op s t u)
theorem doR_ev (op : Int) {s t : Sp} (u : Bool × Int × Int) {p q r : Nat} (hs : WF s) (ht : WF t) (tn : op = 8 → t ≠ none) (gp : G p) (gq : G q) (gr : G r) :
  Ev (fun k => slip_Do.j2 k op (r : Int) (enc s).1 (enc s).2.1 (enc s).2.2 (enc t).1 (enc t).2.1 (enc t).2.2 u.1 u.2.1 u.2.2 (p : Int) (q : Int)) ((doR op s t p q r : Nat) : Int) := by
 have g1 := ad_G gp gq
 have ms := most_G hs
 have mt := most_G ht
 have J5 : ∀ X : Bool, (X = true ↔ op = 17 ∨ op = 21) → Ev (fun k => slip_Do.j5 k op X (enc s).1 (enc s).2.1 (enc s).2.2 (enc t).1 (enc t).2.1 (enc t).2.2 u.1 u.2.1 u.2.2 (p : Int) (q : Int)) (((if op = 17 ∨ op = 21 then p else if op = 20 then 0 else INF : Nat)) : Int) := by
  intro X hX
  refine Ev.next ?_
  simp only [slip_Do.j5]
  by_cases c : op = 17 ∨ op = 21
  ·rw [if_pos c]; exact Ev.ift (hX.2 c) (Ev.now _)
  ·rw [if_neg c]
   refine Ev.iff (fun x => c (hX.1 x)) ?_
   by_cases c2 : op = 20
   ·rw [if_pos c2]; exact Ev.ift c2 (Ev.now _)
   ·rw [if_neg c2]; exact Ev.iff c2 (Ev.b _ sinf19_ev (Ev.now _))
 have J4 : ∀ X : Bool, (X = true ↔ p = INF ∨ q = INF) → Ev (fun k => slip_Do.j4 k (r : Int) X (enc s).1 (enc s).2.1 (enc s).2.2 (enc t).1 (enc t).2.1 (enc t).2.2 u.1 u.2.1 u.2.2 (p : Int) (q : Int)) (((if p = INF ∨ q = INF then INF else ad (ad (ad (mu (mostS s) q) (mu (mostS t) p)) (mu p q)) r : Nat)) : Int) := by
  intro X hX
  refine Ev.next ?_
  simp only [slip_Do.j4]
  by_cases c : p = INF ∨ q = INF
  ·rw [if_pos c]; exact Ev.ift (hX.2 c) (Ev.b _ sinf19_ev (Ev.now _))
  ·rw [if_neg c]
   have a1 := mu_G ms gq
   have a2 := mu_G mt gp
   have a3 := ad_G a1 a2
   have a4 := mu_G gp gq
   have a5 := ad_G a3 a4
   refine Ev.iff (fun x => c (hX.1 x)) ?_
   refine Ev.b _ (sMost_ev (Is.enc hs)) (Ev.b _ (mu_ev _ _ ms.fl.u gq.fl.u) (Ev.b _ (sMost_ev (Is.enc ht)) (Ev.b _ (mu_ev _ _ mt.fl.u gp.fl.u) ?_)))
   refine Ev.b _ (ad_ev _ _ a1.fl.u a2.fl.u) (Ev.b _ (mu_ev _ _ gp.fl.u gq.fl.u) (Ev.b _ (ad_ev _ _ a3.fl.u a4.fl.u) ?_))
   exact Ev.b _ (ad_ev _ _ a5.fl.u gr.fl.u) (Ev.now _)
 have J3 : ∀ X : Bool, (X = true ↔ op = 5 ∨ op = 6) → Ev (fun k => slip_Do.j3 k (r : Int) op X (enc s).1 (enc s).2.1 (enc s).2.2 (enc t).1 (enc t).2.1 (enc t).2.2 u.1 u.2.1 u.2.2 (p : Int) (q : Int)) ((doR op s t p q r : Nat) : Int) := by
  intro X hX
  refine Ev.next ?_
  simp only [slip_Do.j3]
  unfold doR
  by_cases c : op = 5 ∨ op = 6
  ·rw [if_pos c]
   exact Ev.ift (hX.2 c) (Ev.b _ (ad_ev _ _ gp.fl.u gq.fl.u) (Ev.b _ (ad_ev _ _ g1.fl.u gr.fl.u) (Ev.now _)))
  ·rw [if_neg c]
   refine Ev.iff (fun x => c (hX.1 x)) ?_
   by_cases c7 : op = 7
   ·rw [if_pos c7]
    refine Ev.ift c7 (Ev.b _ sinf19_ev ?_)
    by_cases pi : p = INF
    ·exact Ev.ift (by rw [pi]) (J4 true ⟨fun _ => .inl pi, fun _ => rfl⟩)
    ·refine Ev.iff (by omega) (Ev.b _ sinf19_ev (J4 _ ?_))
     rw [beq_iff_eq]
     constructor
     ·intro x; exact .inr (by omega)
     ·rintro (x | x)
      ·exact absurd x pi
      ·rw [x]
   ·rw [if_neg c7]
    refine Ev.iff c7 ?_
    by_cases c8 : op = 8
    ·rw [if_pos c8]
     exact Ev.ift c8 (Ev.b _ (quo_ev u hs ht (tn c8) gp gq gr) (Ev.now _))
    ·rw [if_neg c8]
     refine Ev.iff c8 ?_
     by_cases c17 : op = 17
     ·exact Ev.ift c17 (J5 _ (by rw [beq_iff_eq]; exact ⟨fun x => .inl x, fun _ => c17⟩))
     ·refine Ev.iff c17 (J5 _ ?_)
      rw [beq_iff_eq]
      constructor
      ·intro x; exact .inr x
      ·rintro (x | x)
       ·exact absurd x c17
       ·exact x
 refine Ev.next ?_
 simp only [slip_Do.j2]
 by_cases c5 : op = 5
 ·exact Ev.ift c5 (J3 _ (by rw [beq_iff_eq]; exact ⟨fun x => .inl x, fun _ => c5⟩))
 ·refine Ev.iff c5 (J3 _ ?_)
  rw [beq_iff_eq]
  constructor
  ·intro x; exact .inr x
  ·rintro (x | x)
   ·exact absurd x c5
   ·exact x
theorem sDo_ev (op : Int) {e1 : Bool} {a1 b1 : Int} {s : Sp} {e2 : Bool} {a2 b2 : Int} {t : Sp} {e3 : Bool} {a3 b3 : Int} {u : Sp} (h1 : Is e1 a1 b1 s) (h2 : Is e2 a2 b2 t) (h3 : Is e3 a3 b3 u) (ea eb : Nat) (ua : U ea) (ub : U eb) :
  Ev (fun k => slip_Do.f k op e1 a1 b1 e2 a2 b2 e3 a3 b3 (ea : Int) (eb : Int)) ((doS op s t u (gd ea) (gd eb) : Nat) : Int) := by
 have gp := gd_G ua
 have gq := gd_G ub
 have ws := h1.wf
 have wt := h2.wf
 have wu := h3.wf
 unfold slip_Do.f
 refine Ev.b _ (Join1_ev h1) (Ev.b _ (Join1_ev h2) (Ev.b _ (Join1_ev h3) (Ev.b _ (gd_ev ea ua) (Ev.b _ (gd_ev eb ub) ?_))))
 have J0 : ∀ X : Bool, (X = true ↔ s = none ∨ u = none ∨ (5 ≤ op ∧ op ≤ 16 ∧ t = none)) → Ev (fun k => slip_Do.j0 k op X (enc s).1 (enc s).2.1 (enc s).2.2 (enc t).1 (enc t).2.1 (enc t).2.2 (enc u).1 (enc u).2.1 (enc u).2.2 ((gd ea : Nat) : Int) ((gd eb : Nat) : Int)) ((doS op s t u (gd ea) (gd eb) : Nat) : Int) := by
  intro X hX
  refine Ev.next ?_
  simp only [slip_Do.j0]
  unfold doS
  by_cases c : s = none ∨ u = none ∨ (5 ≤ op ∧ op ≤ 16 ∧ t = none)
  ·rw [if_pos c]
   exact Ev.ift (hX.2 c) (Ev.now _)
  ·rw [if_neg c]
   have tn : op = 8 → t ≠ none := fun x y => c (.inr (.inr ⟨by omega, by omega, y⟩))
   have mG := most_G wu
   have rG := rnu_G mG.fl.u
   refine Ev.iff (fun x => c (hX.1 x)) ?_
   refine Ev.b _ (sMost_ev (Is.enc wu)) (Ev.b _ (rnu_ev _ mG.fl.u) (Ev.b _ (fad_ev op (enc u) _ _ ws wt) ?_))
   have J1 : ∀ Y : Bool, (Y = true ↔ fad op s t = true ∧ rnu (mostS u) = 0) → Ev (fun k => slip_Do.j1 k op ((rnu (mostS u) : Nat) : Int) Y (enc s).1 (enc s).2.1 (enc s).2.2 (enc t).1 (enc t).2.1 (enc t).2.2 (enc u).1 (enc u).2.1 (enc u).2.2 ((gd ea : Nat) : Int) ((gd eb : Nat) : Int)) ((doR op s t (gd ea) (gd eb) (rOf op s t u) : Nat) : Int) := by
    intro Y hY
    refine Ev.next ?_
    simp only [slip_Do.j1]
    unfold rOf
    by_cases y : fad op s t = true ∧ rnu (mostS u) = 0
    ·rw [if_pos y]
     exact Ev.ift (hY.2 y) (doR_ev op (enc u) ws wt tn gp gq G1)
    ·rw [if_neg y]
     exact Ev.iff (fun x => y (hY.1 x)) (doR_ev op (enc u) ws wt tn gp gq rG)
   by_cases f : fad op s t = true
   ·refine Ev.ift f (J1 _ ?_)
    rw [beq_iff_eq]
    constructor
    ·intro x; exact ⟨f, by omega⟩
    ·intro x; rw [x.2]; rfl
   ·refine Ev.iff f (J1 false ?_)
    constructor
    ·intro x; cases x
    ·intro x; exact absurd x.1 f
 cases s with
 | none => exact Ev.ift e_none (J0 true ⟨fun _ => .inl rfl, fun _ => rfl⟩)
 | some p =>
  refine Ev.iff (e_some p) ?_
  cases u with
  | none => exact Ev.ift e_none (J0 true ⟨fun _ => .inr (.inl rfl), fun _ => rfl⟩)
  | some w =>
   refine Ev.iff (e_some w) ?_
   by_cases l1 : 5 ≤ op
   ·refine Ev.ift l1 ?_
    by_cases l2 : op ≤ 16
    ·refine Ev.ift l2 (J0 _ ?_)
     cases t with
     | none => exact ⟨fun _ => .inr (.inr ⟨l1, l2, rfl⟩), fun _ => rfl⟩
     | some q =>
      constructor
      ·intro x; exact absurd x (e_some q)
      ·rintro (x | x | x)
       ·cases x
       ·cases x
       ·cases x.2.2
    ·refine Ev.iff l2 (J0 false ?_)
     constructor
     ·intro x; cases x
     ·rintro (x | x | x)
      ·cases x
      ·cases x
      ·exact absurd x.2.1 l2
   ·refine Ev.iff l1 (J0 false ?_)
    constructor
    ·intro x; cases x
    ·rintro (x | x | x)
     ·cases x
     ·cases x
     ·exact absurd x.1 l1
theorem d1 : doS 5 (some (0, 4607182418800017408)) (some (0, 4607182418800017408)) (some (0, 4611686018427387904)) (gd 0) (gd 0) = 4372995238176751616 := by decide +kernel
theorem d2 : doS 8 (some (4607182418800017408, 4607182418800017408)) (some (0, 4611686018427387904)) (some (NINF, INF)) (gd 0) (gd 0) = INF := by decide +kernel
theorem d3 : rnu 4607182418800017408 = 4368491638549381120 := by decide +kernel
theorem d4 : rnu 0 = 0 := by decide +kernel
theorem d5 : jn 0 [4607182418800017408, 4611686018427387904, 0] = 4611686018427387904 := by decide +kernel
theorem d6 : wds 4607182418800017408 4611686018427387904 [4616189618054758400] = 4616189618054758400 := by decide +kernel
theorem d7 : wds 4611686018427387904 4607182418800017408 [] = 4611686018427387904 := by decide +kernel
theorem d8 : gd 13830554455654793216 = INF := by decide +kernel
theorem d9 : gd 9223372036854775808 = 0 := by decide +kernel
theorem works19_ev : Ev (fun k => flyballlaw19_works.f k) true := by
 have W01 := wf_of (by decide) (by decide) n01
 have W02 := wf_of (by decide) (by decide) n02
 have W11 := wf_of (by decide) (by decide) n11
 have Wall := wf_of (by decide) (by decide) nall
 have D1 := sDo_ev 5 (Is.enc W01) (Is.enc W01) (Is.enc W02) 0 0 (by decide) (by decide)
 have D2 := sDo_ev 8 (Is.enc W11) (Is.enc W02) (Is.enc Wall) 0 0 (by decide) (by decide)
 have D3 := rnu_ev 4607182418800017408 (by decide)
 have D4 := rnu_ev 0 (by decide)
 have D5 := jn_ev [4607182418800017408, 4611686018427387904, 0] (by decide) (by decide)
 have D5' := jn_ev [] (by decide) (by intro x hx; cases hx)
 have D6 := sWds_ev 4607182418800017408 4611686018427387904 (by decide) (by decide) [4616189618054758400] (by decide) (by decide)
 have D7 := sWds_ev 4611686018427387904 4607182418800017408 (by decide) (by decide) [] (by decide) (by intro x hx; cases hx)
 have D8 := gd_ev 13830554455654793216 (by decide)
 have D9 := gd_ev 9223372036854775808 (by decide)
 rw [d1] at D1
 rw [d2] at D2
 rw [d3] at D3
 rw [d4] at D4
 rw [d5] at D5
 rw [d6] at D6
 rw [d7] at D7
 rw [d8] at D8
 rw [d9] at D9
 unfold flyballlaw19_works.f
 refine Ev.b _ (mk_ev 0 _ _ (by decide) (by decide) n01) (Ev.b _ (mk_ev 0 _ _ (by decide) (by decide) n02) ?_)
 refine Ev.b _ D3 (Ev.ift rfl ?_)
 refine Ev.b _ D1 (Ev.ift rfl ?_)
 refine Ev.b _ (pt_ev _ _ (by decide) n11) ?_
 refine Ev.b (enc (some (NINF, INF))) (by have := sAll_ev; rw [nall] at this; exact this) ?_
 refine Ev.b _ D2 (Ev.b _ (Inf_ev false) (Ev.ift rfl ?_))
 refine Ev.b _ D4 (Ev.ift rfl ?_)
 refine Ev.b _ D5 (Ev.ift rfl ?_)
 refine Ev.b _ D5' (Ev.ift rfl ?_)
 refine Ev.b _ D6 (Ev.ift rfl ?_)
 refine Ev.b _ D7 (Ev.ift rfl ?_)
 refine Ev.b _ D8 (Ev.b _ (Inf_ev false) (Ev.ift rfl ?_))
 exact Ev.b _ D9 (Ev.now _)
theorem SW_l0 (o n : Nat) (uo : U o) (un : U n) (l : List Nat) (hl : l.length < 1000000) (hU : ∀ x ∈ l, U x) : ∀ (d i j : Nat), l.length - i = d → i ≤ l.length → G j → jn j (l.drop i) = jn 0 l →
  Ev (fun k => flyballlaw19_SlipWidens.l0 k (o : Int) (n : Int) (l.map Nat.cast) true (j : Int) (i : Int)) true
 | 0, i, j, hd, hi, g, he => by
  rw [List.drop_eq_nil_of_le (by omega)] at he
  have he : j = jn 0 l := he
  have go := gd_G uo
  have gn := gd_G un
  have W := sWds_ev o n uo un l hl hU
  have R := rWds_ev o n uo un l hl hU
  have uw : U (wds o n l) ∧ less (wds o n l) (gd n) = false ∧ less (wds o n l) (gd o) = false := by
   have lm := less_m go.fl gn.fl
   have bn := gn.fl.bd
   unfold wds
   by_cases c : less (gd o) (gd n) = true
   ·rw [if_pos c]
    have u := wdl_U (gd n) l INF (by decide) hU
    have q := le_nan (wdl_le (gd n) l INF ((le_iff gn.fl.n (by decide)).2 (by rw [oINF]; omega)))
    generalize wdl (gd n) INF l = x at u q ⊢
    have F : Fl x := ⟨u, q.2.1⟩
    rw [lm, decide_eq_true_iff] at c
    rw [less_m F gn.fl, less_m F go.fl, decide_eq_false_iff_not, decide_eq_false_iff_not]
    exact ⟨u, by omega, by omega⟩
   ·rw [if_neg c]
    rw [lm, decide_eq_true_iff] at c
    rw [lm, less_m go.fl go.fl, decide_eq_false_iff_not, decide_eq_false_iff_not]
    exact ⟨go.fl.u, c, by omega⟩
  obtain ⟨u, l1, l2⟩ := uw
  refine Ev.next ?_
  simp only [flyballlaw19_SlipWidens.l0]
  refine Ev.iff (by rw [List.length_map]; omega) ?_
  refine Ev.b _ W (Ev.b _ (gd_ev n un) (Ev.b _ (Less_ev _ _ u gn.fl.u) ?_))
  refine Ev.iff (by rw [l1]; decide) (Ev.b _ (gd_ev o uo) (Ev.b _ (Less_ev _ _ u go.fl.u) (Ev.ift trivial (Ev.b _ R (Ev.ift rfl ?_)))))
  refine Ev.iff (by rw [l2]; decide) (Ev.b _ (jn_ev l hl hU) (Ev.const ?_))
  rw [he, beq_self_eq_true]
 | d + 1, i, j, hd, hi, g, he => by
  have hlt : i < l.length := by omega
  have uf := hU l[i] (List.getElem_mem hlt)
  have gf := gd_G uf
  rw [List.drop_eq_getElem_cons hlt] at he
  have he : jn (hr j (gd l[i])) (l.drop (i + 1)) = jn 0 l := he
  refine Ev.next ?_
  simp only [flyballlaw19_SlipWidens.l0]
  refine Ev.ift (by rw [List.length_map]; omega) (Ev.ift (by omega) ?_)
  rw [rd_map l i hlt]
  have wr : wrap64 ((i : Int) + 1) = ((i + 1 : Nat) : Int) := by rw [w64 (by omega) (by omega)]; omega
  rw [wr]
  refine Ev.b _ (rgd_ev _ uf) (Ev.b _ (refCmp_ev _ _ gf.fl.u g.fl.u) ?_)
  obtain ⟨_, c2⟩ := cmp_fl gf.fl g.fl
  unfold hr at he
  by_cases c : ord j < ord (gd l[i])
  ·rw [if_pos c] at he
   exact Ev.ift (c2.2 c) (SW_l0 o n uo un l hl hU d (i + 1) _ (by omega) (by omega) gf he)
  ·rw [if_neg c] at he
   exact Ev.iff (fun x => c (c2.1 x)) (SW_l0 o n uo un l hl hU d (i + 1) _ (by omega) (by omega) g he)
theorem SlipWidens : flyballlaw19_SlipWidens.Pure := by
 intro a0 a1 l2 h0 h1 _ _ h5
 obtain ⟨o, rfl, uo⟩ := wf_u64 h0
 obtain ⟨n, rfl, un⟩ := wf_u64 h1
 obtain ⟨l, rfl, hU⟩ := map_nat l2 h5
 refine Ev.ex (r := true) ?_
 unfold flyballlaw19_SlipWidens.f
 refine Ev.b _ works19_ev (Ev.ift rfl ?_)
 by_cases c : ((l.map Nat.cast : List Int).length : Int) > 200
 ·exact Ev.ift c (Ev.now _)
 ·have hl : l.length ≤ 200 := by rw [List.length_map] at c; omega
  exact Ev.iff c (SW_l0 o n uo un l (by omega) hU l.length 0 0 (by omega) (by omega) G0 rfl)
end Go.Proofs.Ytmadjhmecfbcmaa.M
end
