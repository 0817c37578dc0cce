/- The walk of the law SlipWidens and what it computes, part 4 of 6: no conditions. -/
import Derived.Test.YtmadjhmecfbcmaaASlipWidens3
set_option linter.unusedVariables false
set_option linter.unusedSimpArgs false
section
namespace Go.Proofs.Ytmadjhmecfbcmaa.F
open Go.RowKit Go.Proofs.YtmadjhmecfbcmaaW.PrintWords Go.Proofs.YtmadjhmecfbcmaaW.PrintLast Go.Proofs.YtmadjhmecfbcmaaW.PrintMore
attribute [local go_sem] max2_int min2_int max_two min_two max_three min_three max_four min_four
set_option linter.unusedVariables false
set_option linter.unusedSimpArgs false
set_option maxHeartbeats 8000000
set_option maxRecDepth 100000
theorem bits_Div64q.walk (k : Nat) (a0 : Int) (a1 : Int) (a2 : Int) (r1 : Int) (r2 : Int) (w : World) (c00b0 : (a2 == 0) = false) (c01b0 : decide (a2 ≤ a0) = false) (h : bits_Div64q.f k a0 a1 a2 = some (r1, r2)) :
  Calls Try.prog 162 #[.int .u64 a0, .int .u64 a1, .int .u64 a2] w fun e w' => e = .returned (.tuple #[.int .u64 r1, .int .u64 r2]) ∧ Drawn0 w w' := by
 have H := h
 unfold bits_Div64q.f at H
 clear h
 by_cases c4 : a0 = 0
 ·rw [if_pos c4] at H
  have c4b0 : (a0 == 0) = true := beq_iff_eq.mpr c4
  have c4b1 : (a0 != 0) = false := bne_eq_false_iff_eq.mpr c4
  clear c4
  by_cases c5 : a2 = 0
  ·rw [if_pos c5] at H
   exact absurd H (by simp)
  rw [if_neg c5] at H
  have c5b0 : (a2 == 0) = false := beq_eq_false_iff_ne.mpr c5
  have c5b1 : (a2 != 0) = true := bne_iff_ne.mpr c5
  simp only [Option.some.injEq, Prod.mk.injEq] at H
  obtain ⟨rfl, rfl⟩ := H
  go_enter Try.func162, Try.ntmps162
  go_wp2
  repeat (go_quiet (fail); try go_wp2)
  go_ret2
  exact ⟨by first | rfl | (simp; done) | (simp [*]; done), by repeat (first | exact Drawn0.refl _ | apply Drawn0.step)⟩
 rw [if_neg c4] at H
 have c4b0 : (a0 == 0) = false := beq_eq_false_iff_ne.mpr c4
 have c4b1 : (a0 != 0) = true := bne_iff_ne.mpr c4
 obtain ⟨t256, A6, H⟩ := zbs H
 try dsimp only at H
 obtain ⟨ji7, hji7⟩ : ∃ j_ : Int, (IntKind.u64.wrap (t256)) = j_ := ⟨_, rfl⟩
 replace H : (if 0 ≤ (ji7) then (if 0 ≤ (IntKind.u64.wrap (64 - (ji7))) then (if ((shl .u64 a2 (ji7)) / 4294967296) = 0 then (none) else (bits_Div64q.l0 k (shl .u64 a2 (ji7)) ji7 ((shl .u64 a2 (ji7)) / 4294967296) (Go.bits .and .u64 (shl .u64 a2 (ji7)) 4294967295) (Go.bits .or .u64 (shl .u64 a0 (ji7)) (shr .u64 a1 (IntKind.u64.wrap (64 - (ji7))))) ((shl .u64 a1 (ji7)) / 4294967296) (Go.bits .and .u64 (shl .u64 a1 (ji7)) 4294967295) (IntKind.u64.wrap (Int.tdiv (Go.bits .or .u64 (shl .u64 a0 (ji7)) (shr .u64 a1 (IntKind.u64.wrap (64 - (ji7))))) ((shl .u64 a2 (ji7)) / 4294967296))) (IntKind.u64.wrap ((Go.bits .or .u64 (shl .u64 a0 (ji7)) (shr .u64 a1 (IntKind.u64.wrap (64 - (ji7))))) - (IntKind.u64.wrap ((IntKind.u64.wrap (Int.tdiv (Go.bits .or .u64 (shl .u64 a0 (ji7)) (shr .u64 a1 (IntKind.u64.wrap (64 - (ji7))))) ((shl .u64 a2 (ji7)) / 4294967296))) * ((shl .u64 a2 (ji7)) / 4294967296))))))) else (none)) else (none)) = some (r1, r2) := by first | (rw [hji7] at H; exact H) | (simp only [hji7] at H ⊢; exact H)
 (try rw [hji7] at A6)
 by_cases c8 : 0 ≤ (ji7)
 ·rw [if_pos c8] at H
  have c8b0 := eq_true c8
  have c8b1 : decide (0 ≤ (ji7)) = true := decide_eq_true c8
  clear c8
  obtain ⟨ji9, hji9⟩ : ∃ j_ : Int, (shl .u64 a2 (ji7)) = j_ := ⟨_, rfl⟩
  replace H : (if 0 ≤ (IntKind.u64.wrap (64 - (ji7))) then (if ((ji9) / 4294967296) = 0 then (none) else (bits_Div64q.l0 k ji9 ji7 ((ji9) / 4294967296) (Go.bits .and .u64 (ji9) 4294967295) (Go.bits .or .u64 (shl .u64 a0 (ji7)) (shr .u64 a1 (IntKind.u64.wrap (64 - (ji7))))) ((shl .u64 a1 (ji7)) / 4294967296) (Go.bits .and .u64 (shl .u64 a1 (ji7)) 4294967295) (IntKind.u64.wrap (Int.tdiv (Go.bits .or .u64 (shl .u64 a0 (ji7)) (shr .u64 a1 (IntKind.u64.wrap (64 - (ji7))))) ((ji9) / 4294967296))) (IntKind.u64.wrap ((Go.bits .or .u64 (shl .u64 a0 (ji7)) (shr .u64 a1 (IntKind.u64.wrap (64 - (ji7))))) - (IntKind.u64.wrap ((IntKind.u64.wrap (Int.tdiv (Go.bits .or .u64 (shl .u64 a0 (ji7)) (shr .u64 a1 (IntKind.u64.wrap (64 - (ji7))))) ((ji9) / 4294967296))) * ((ji9) / 4294967296))))))) else (none)) = some (r1, r2) := by first | (rw [hji9] at H; exact H) | (simp only [hji9] at H ⊢; exact H)
  (try rw [hji9] at A6)
  have hji9_ : (IntKind.u64.wrap (a2 * 2 ^ min (ji7).toNat 64)) = ji9 := hji9
  have hji9z : (ji7) ≤ 64 → (IntKind.u64.wrap (a2 * 2 ^ (ji7).toNat)) = ji9 := shl_small hji9
  have c10b0 := eq_true (of_decide_eq_true (by first | (with_reducible assumption) | assumption) : 0 ≤ (ji7))
  obtain ⟨ji11, hji11⟩ : ∃ j_ : Int, (shl .u64 a0 (ji7)) = j_ := ⟨_, rfl⟩
  replace H : (if 0 ≤ (IntKind.u64.wrap (64 - (ji7))) then (if ((ji9) / 4294967296) = 0 then (none) else (bits_Div64q.l0 k ji9 ji7 ((ji9) / 4294967296) (Go.bits .and .u64 (ji9) 4294967295) (Go.bits .or .u64 (ji11) (shr .u64 a1 (IntKind.u64.wrap (64 - (ji7))))) ((shl .u64 a1 (ji7)) / 4294967296) (Go.bits .and .u64 (shl .u64 a1 (ji7)) 4294967295) (IntKind.u64.wrap (Int.tdiv (Go.bits .or .u64 (ji11) (shr .u64 a1 (IntKind.u64.wrap (64 - (ji7))))) ((ji9) / 4294967296))) (IntKind.u64.wrap ((Go.bits .or .u64 (ji11) (shr .u64 a1 (IntKind.u64.wrap (64 - (ji7))))) - (IntKind.u64.wrap ((IntKind.u64.wrap (Int.tdiv (Go.bits .or .u64 (ji11) (shr .u64 a1 (IntKind.u64.wrap (64 - (ji7))))) ((ji9) / 4294967296))) * ((ji9) / 4294967296))))))) else (none)) = some (r1, r2) := by first | (rw [hji11] at H; exact H) | (simp only [hji11] at H ⊢; exact H)
  (try rw [hji11] at A6)
  have hji11_ : (IntKind.u64.wrap (a0 * 2 ^ min (ji7).toNat 64)) = ji11 := hji11
  have hji11z : (ji7) ≤ 64 → (IntKind.u64.wrap (a0 * 2 ^ (ji7).toNat)) = ji11 := shl_small hji11
  obtain ⟨ji12, hji12⟩ : ∃ j_ : Int, (IntKind.u64.wrap (64 - (ji7))) = j_ := ⟨_, rfl⟩
  replace H : (if 0 ≤ (ji12) then (if ((ji9) / 4294967296) = 0 then (none) else (bits_Div64q.l0 k ji9 ji7 ((ji9) / 4294967296) (Go.bits .and .u64 (ji9) 4294967295) (Go.bits .or .u64 (ji11) (shr .u64 a1 (ji12))) ((shl .u64 a1 (ji7)) / 4294967296) (Go.bits .and .u64 (shl .u64 a1 (ji7)) 4294967295) (IntKind.u64.wrap (Int.tdiv (Go.bits .or .u64 (ji11) (shr .u64 a1 (ji12))) ((ji9) / 4294967296))) (IntKind.u64.wrap ((Go.bits .or .u64 (ji11) (shr .u64 a1 (ji12))) - (IntKind.u64.wrap ((IntKind.u64.wrap (Int.tdiv (Go.bits .or .u64 (ji11) (shr .u64 a1 (ji12))) ((ji9) / 4294967296))) * ((ji9) / 4294967296))))))) else (none)) = some (r1, r2) := by first | (rw [hji12] at H; exact H) | (simp only [hji12] at H ⊢; exact H)
  (try rw [hji12] at A6)
  by_cases c13 : 0 ≤ (ji12)
  ·rw [if_pos c13] at H
   have c13b0 := eq_true c13
   have c13b1 : decide (0 ≤ (ji12)) = true := decide_eq_true c13
   clear c13
   obtain ⟨ji14, hji14⟩ : ∃ j_ : Int, (shr .u64 a1 (ji12)) = j_ := ⟨_, rfl⟩
   replace H : (if ((ji9) / 4294967296) = 0 then (none) else (bits_Div64q.l0 k ji9 ji7 ((ji9) / 4294967296) (Go.bits .and .u64 (ji9) 4294967295) (Go.bits .or .u64 (ji11) (ji14)) ((shl .u64 a1 (ji7)) / 4294967296) (Go.bits .and .u64 (shl .u64 a1 (ji7)) 4294967295) (IntKind.u64.wrap (Int.tdiv (Go.bits .or .u64 (ji11) (ji14)) ((ji9) / 4294967296))) (IntKind.u64.wrap ((Go.bits .or .u64 (ji11) (ji14)) - (IntKind.u64.wrap ((IntKind.u64.wrap (Int.tdiv (Go.bits .or .u64 (ji11) (ji14)) ((ji9) / 4294967296))) * ((ji9) / 4294967296))))))) = some (r1, r2) := by first | (rw [hji14] at H; exact H) | (simp only [hji14] at H ⊢; exact H)
   (try rw [hji14] at A6)
   have hji14_ : (a1 / 2 ^ min (ji12).toNat 64) = ji14 := hji14
   have hji14z : (ji12) ≤ 64 → (a1 / 2 ^ (ji12).toNat) = ji14 := shr_small hji14
   have c15b0 := eq_true (of_decide_eq_true (by first | (with_reducible assumption) | assumption) : 0 ≤ (ji7))
   obtain ⟨ji16, hji16⟩ : ∃ j_ : Int, (shl .u64 a1 (ji7)) = j_ := ⟨_, rfl⟩
   replace H : (if ((ji9) / 4294967296) = 0 then (none) else (bits_Div64q.l0 k ji9 ji7 ((ji9) / 4294967296) (Go.bits .and .u64 (ji9) 4294967295) (Go.bits .or .u64 (ji11) (ji14)) ((ji16) / 4294967296) (Go.bits .and .u64 (ji16) 4294967295) (IntKind.u64.wrap (Int.tdiv (Go.bits .or .u64 (ji11) (ji14)) ((ji9) / 4294967296))) (IntKind.u64.wrap ((Go.bits .or .u64 (ji11) (ji14)) - (IntKind.u64.wrap ((IntKind.u64.wrap (Int.tdiv (Go.bits .or .u64 (ji11) (ji14)) ((ji9) / 4294967296))) * ((ji9) / 4294967296))))))) = some (r1, r2) := by first | (rw [hji16] at H; exact H) | (simp only [hji16] at H ⊢; exact H)
   (try rw [hji16] at A6)
   have hji16_ : (IntKind.u64.wrap (a1 * 2 ^ min (ji7).toNat 64)) = ji16 := hji16
   have hji16z : (ji7) ≤ 64 → (IntKind.u64.wrap (a1 * 2 ^ (ji7).toNat)) = ji16 := shl_small hji16
   by_cases c17 : ((ji9) / 4294967296) = 0
   ·rw [if_pos c17] at H
    exact absurd H (by simp)
   rw [if_neg c17] at H
   have c17b0 : (((ji9) / 4294967296) == 0) = false := beq_eq_false_iff_ne.mpr c17
   have c17b1 : (((ji9) / 4294967296) != 0) = true := bne_iff_ne.mpr c17
   have HC18 := Aside0.mk H
   clear H
   go_enter Try.func162, Try.ntmps162
   go_upto_block 0 with (first | (go_at_call 186; (with_reducible refine (bits_LeadingZeros64.calls a2 t256 _ A6.out).mono ?_); rintro e w' ⟨rfl, ⟨nd, rfl⟩⟩; (try first | exact ⟨rfl, _, World.drewN_drewN _ _ _⟩ | exact ⟨rfl, _, Eq.trans (World.drewN_drewN _ _ _) (congrArg (World.drewN _) (Nat.add_assoc _ _ _))⟩)))
   repeat (go_quiet (first | (go_at_call 186; (with_reducible refine (bits_LeadingZeros64.calls a2 t256 _ A6.out).mono ?_); rintro e w' ⟨rfl, ⟨nd, rfl⟩⟩; (try first | exact ⟨rfl, _, World.drewN_drewN _ _ _⟩ | exact ⟨rfl, _, Eq.trans (World.drewN_drewN _ _ _) (congrArg (World.drewN _) (Nat.add_assoc _ _ _))⟩))); go_upto_block 0 with (first | (go_at_call 186; (with_reducible refine (bits_LeadingZeros64.calls a2 t256 _ A6.out).mono ?_); rintro e w' ⟨rfl, ⟨nd, rfl⟩⟩; (try first | exact ⟨rfl, _, World.drewN_drewN _ _ _⟩ | exact ⟨rfl, _, Eq.trans (World.drewN_drewN _ _ _) (congrArg (World.drewN _) (Nat.add_assoc _ _ _))⟩))))
   (try simp only [Act.put, List.setIfInBounds_toArray, List.set_cons_zero, List.set_cons_succ])
   go_cut [15] (fun v15 wc => ∃ (kq : Nat) (x15_17 : Int), v15 = .int .u64 x15_17 ∧ Aside0 (bits_Div64q.j2 kq ji9 ji7 ((ji9) / 4294967296) (Go.bits .and .u64 (ji9) 4294967295) (Go.bits .or .u64 (ji11) (ji14)) ((ji16) / 4294967296) (Go.bits .and .u64 (ji16) 4294967295) x15_17 = some (r1, r2)) ∧ Aside0 (kq ≤ k) ∧ Drawn0 w wc)
   case first =>
    have H := HC18.out
    clear HC18
    have H' := Aside0.mk H
    clear H
    go_wp2
    repeat (go_quiet (fail); try go_wp2)
    (try simp only [Act.put, List.setIfInBounds_toArray, List.set_cons_zero, List.set_cons_succ])
    go_loopg [15, 16] k (fun kq v15 v16 w' => ∃ (x15_1 : Int) (x16_1 : Int), v15 = .int .u64 x15_1 ∧ v16 = .int .u64 x16_1 ∧ Aside0 (bits_Div64q.l0 kq ji9 ji7 ((ji9) / 4294967296) (Go.bits .and .u64 (ji9) 4294967295) (Go.bits .or .u64 (ji11) (ji14)) ((ji16) / 4294967296) (Go.bits .and .u64 (ji16) 4294967295) x15_1 x16_1 = some (r1, r2)) ∧ Aside0 (kq ≤ k) ∧ Drawn0 w w')
    case atStart => exact ⟨(IntKind.u64.wrap (Int.tdiv (Go.bits .or .u64 (ji11) (ji14)) ((ji9) / 4294967296))), (IntKind.u64.wrap ((Go.bits .or .u64 (ji11) (ji14)) - (IntKind.u64.wrap ((IntKind.u64.wrap (Int.tdiv (Go.bits .or .u64 (ji11) (ji14)) ((ji9) / 4294967296))) * ((ji9) / 4294967296))))), (by first | rfl | (simp; done) | (simp only [← hji9, ← hji11, ← hji14] <;> (first | rfl | simp)) | (simp [*]; done)), (by first | rfl | (simp; done) | (simp only [← hji9, ← hji11, ← hji14] <;> (first | rfl | simp)) | (simp [*]; done)), H', ⟨Nat.le_refl _⟩, by repeat (first | exact Drawn0.refl _ | apply Drawn0.step)⟩
    case round =>
     clear H'
     try clear c4b0
     try clear c4b1
     try clear c5b0
     try clear c5b1
     try clear c8b0
     try clear c8b1
     try clear c10b0
     try clear c13b0
     try clear c13b1
     try clear c15b0
     try clear c17b0
     try clear c17b1
     obtain ⟨x15_1, x16_1, rfl, rfl, HA, HK1, ⟨m1, rfl⟩⟩ := hrel
     cases gk with
     | zero => exact absurd HA.out (by simp [bits_Div64q.l0])
     | succ k1 =>
      have H := HA.out
      clear HA
      simp only [bits_Div64q.l0] at H
      have HC19 := Aside0.mk H
      clear H
      go_upto_region 17 with (fail)
      repeat (go_quiet (fail); go_upto_region 17 with (fail))
      go_cut [78] (fun v78 wc => ∃ (kq : Nat) (x78_18 : Bool), v78 = .bool x78_18 ∧ Aside0 (bits_Div64q.j1 kq ji9 ji7 ((ji9) / 4294967296) (Go.bits .and .u64 (ji9) 4294967295) (Go.bits .or .u64 (ji11) (ji14)) ((ji16) / 4294967296) (Go.bits .and .u64 (ji16) 4294967295) x15_1 x16_1 x78_18 = some (r1, r2)) ∧ Aside0 (kq ≤ k1) ∧ Drawn0 w wc)
      case first =>
       have H := HC19.out
       clear HC19
       by_cases c20 : x15_1 ≥ 4294967296
       ·rw [if_pos c20] at H
        have c20b0 : decide (4294967296 ≤ x15_1) = true := decide_eq_true c20
        clear c20
        (first | rw [c20b0] | (simp only [i64_w, i32_w]; rw [c20b0]) | skip)
        have H' := Aside0.mk H
        clear H
        go_wp2
        repeat (go_quiet (fail); try go_wp2)
        go_meet
        case rel => exact ⟨_, (true), zrl, H', ⟨by have := HK1.out; first | omega | exact Nat.le_refl _⟩, by repeat (first | exact Drawn0.refl _ | apply Drawn0.step)⟩
       rw [if_neg c20] at H
       have c20b0 : decide (4294967296 ≤ x15_1) = false := decide_eq_false c20
       clear c20
       (first | rw [c20b0] | (simp only [i64_w, i32_w]; rw [c20b0]) | skip)
       have H' := Aside0.mk H
       clear H
       go_wp2
       repeat (go_quiet (fail); try go_wp2)
       go_meet
       case rel => exact ⟨_, (decide ((IntKind.u64.wrap (x15_1 * (Go.bits .and .u64 (ji9) 4294967295))) > (IntKind.u64.wrap ((IntKind.u64.wrap (4294967296 * x16_1)) + ((ji16) / 4294967296))))), (by first | rfl | (simp; done) | (simp only [← hji9, ← hji16] <;> (first | rfl | simp)) | (simp [*]; done)), H', ⟨by have := HK1.out; first | omega | exact Nat.le_refl _⟩, by repeat (first | exact Drawn0.refl _ | apply Drawn0.step)⟩
      case rest =>
       clear HC19
       try clear c4b0
       try clear c4b1
       try clear c5b0
       try clear c5b1
       try clear c8b0
       try clear c8b1
       try clear c10b0
       try clear c13b0
       try clear c13b1
       try clear c15b0
       try clear c17b0
       try clear c17b1
       try clear c20b0
       obtain ⟨kq, x78_18, rfl, HA, HJ18, ⟨mc18, rfl⟩⟩ := hcut
       cases kq with
       | zero => exact absurd HA.out (by simp [bits_Div64q.j1])
       | succ kj18 =>
        have H := HA.out
        clear HA
        simp only [bits_Div64q.j1] at H
        by_cases c21 : x78_18 = true
        ·subst c21
         replace H := zit H
         by_cases c22 : (IntKind.u64.wrap (x16_1 + ((ji9) / 4294967296))) ≥ 4294967296
         ·rw [if_pos c22] at H
          have c22b0 : decide (4294967296 ≤ (IntKind.u64.wrap (x16_1 + ((ji9) / 4294967296)))) = true := decide_eq_true c22
          clear c22
          have H' := Aside0.mk H
          clear H
          go_wp2
          repeat (go_quiet (fail); try go_wp2)
          go_meet
          case rel => exact ⟨_, (IntKind.u64.wrap (x15_1 - 1)), zrl, H', ⟨by have := HK1.out; have := HJ18.out; first | omega | exact Nat.le_refl _⟩, by repeat (first | exact Drawn0.refl _ | apply Drawn0.step)⟩
         rw [if_neg c22] at H
         have c22b0 : decide (4294967296 ≤ (IntKind.u64.wrap (x16_1 + ((ji9) / 4294967296)))) = false := decide_eq_false c22
         clear c22
         have H' := Aside0.mk H
         clear H
         go_wp2
         repeat (go_quiet (fail); try go_wp2)
         go_roundg kj18
         case measure => have := HK1.out; have := HJ18.out; omega
         case rel => exact ⟨(IntKind.u64.wrap (x15_1 - 1)), (IntKind.u64.wrap (x16_1 + ((ji9) / 4294967296))), zrl, (by first | rfl | (simp; done) | (simp only [← hji9] <;> (first | rfl | simp)) | (simp [*]; done)), H', ⟨by have := HK1.out; have := HJ18.out; omega⟩, by repeat (first | exact Drawn0.refl _ | apply Drawn0.step)⟩
        replace c21 := Bool.eq_false_iff.mpr c21
        subst c21
        replace H := zif H
        have H' := Aside0.mk H
        clear H
        go_wp2
        repeat (go_quiet (fail); try go_wp2)
        go_meet
        case rel => exact ⟨_, (x15_1), zrl, H', ⟨by have := HK1.out; have := HJ18.out; first | omega | exact Nat.le_refl _⟩, by repeat (first | exact Drawn0.refl _ | apply Drawn0.step)⟩
   case rest =>
    clear HC18
    try clear c4b0
    try clear c4b1
    try clear c5b0
    try clear c5b1
    try clear c8b0
    try clear c8b1
    try clear c10b0
    try clear c13b0
    try clear c13b1
    try clear c15b0
    try clear c17b0
    try clear c17b1
    try clear c20b0
    try clear c22b0
    obtain ⟨kq, x15_17, rfl, HA, HJ17, ⟨mc17, rfl⟩⟩ := hcut
    cases kq with
    | zero => exact absurd HA.out (by simp [bits_Div64q.j2])
    | succ kj17 =>
     have H := HA.out
     clear HA
     simp only [bits_Div64q.j2] at H
     by_cases c23 : ((ji9) / 4294967296) = 0
     ·rw [if_pos c23] at H
      exact absurd H (by simp)
     rw [if_neg c23] at H
     have c23b0 : (((ji9) / 4294967296) == 0) = false := beq_eq_false_iff_ne.mpr c23
     have c23b1 : (((ji9) / 4294967296) != 0) = true := bne_iff_ne.mpr c23
     have H' := Aside0.mk H
     clear H
     go_wp2
     repeat (go_quiet (fail); try go_wp2)
     (try simp only [Act.put, List.setIfInBounds_toArray, List.set_cons_zero, List.set_cons_succ])
     go_loopg [16, 18] kj17 (fun kq v16 v18 w' => ∃ (x16_2 : Int) (x18_2 : Int), v16 = .int .u64 x16_2 ∧ v18 = .int .u64 x18_2 ∧ Aside0 (bits_Div64q.l1 kq ji9 ji7 ((ji9) / 4294967296) (Go.bits .and .u64 (ji9) 4294967295) (Go.bits .and .u64 (ji16) 4294967295) x15_17 x16_2 (IntKind.u64.wrap ((IntKind.u64.wrap ((IntKind.u64.wrap ((Go.bits .or .u64 (ji11) (ji14)) * 4294967296)) + ((ji16) / 4294967296))) - (IntKind.u64.wrap (x15_17 * ji9)))) x18_2 = some (r1, r2)) ∧ Aside0 (kq ≤ kj17) ∧ Drawn0 w w')
     case atStart => exact ⟨(IntKind.u64.wrap ((IntKind.u64.wrap ((IntKind.u64.wrap ((IntKind.u64.wrap ((Go.bits .or .u64 (ji11) (ji14)) * 4294967296)) + ((ji16) / 4294967296))) - (IntKind.u64.wrap (x15_17 * ji9)))) - (IntKind.u64.wrap ((IntKind.u64.wrap (Int.tdiv (IntKind.u64.wrap ((IntKind.u64.wrap ((IntKind.u64.wrap ((Go.bits .or .u64 (ji11) (ji14)) * 4294967296)) + ((ji16) / 4294967296))) - (IntKind.u64.wrap (x15_17 * ji9)))) ((ji9) / 4294967296))) * ((ji9) / 4294967296))))), (IntKind.u64.wrap (Int.tdiv (IntKind.u64.wrap ((IntKind.u64.wrap ((IntKind.u64.wrap ((Go.bits .or .u64 (ji11) (ji14)) * 4294967296)) + ((ji16) / 4294967296))) - (IntKind.u64.wrap (x15_17 * ji9)))) ((ji9) / 4294967296))), (by first | rfl | (simp; done) | (simp only [← hji9, ← hji11, ← hji14, ← hji16] <;> (first | rfl | simp)) | (simp [*]; done)), (by first | rfl | (simp; done) | (simp only [← hji9, ← hji11, ← hji14, ← hji16] <;> (first | rfl | simp)) | (simp [*]; done)), H', ⟨Nat.le_refl _⟩, by repeat (first | exact Drawn0.refl _ | apply Drawn0.step)⟩
     case round =>
      clear H'
      try clear c4b0
      try clear c4b1
      try clear c5b0
      try clear c5b1
      try clear c8b0
      try clear c8b1
      try clear c10b0
      try clear c13b0
      try clear c13b1
      try clear c15b0
      try clear c17b0
      try clear c17b1
      try clear c20b0
      try clear c22b0
      try clear c23b0
      try clear c23b1
      obtain ⟨x16_2, x18_2, rfl, rfl, HA, HK2, ⟨m2, rfl⟩⟩ := hrel
      cases gk with
      | zero => exact absurd HA.out (by simp [bits_Div64q.l1])
      | succ k2 =>
       have H := HA.out
       clear HA
       simp only [bits_Div64q.l1] at H
       have HC24 := Aside0.mk H
       clear H
       go_upto_region 24 with (fail)
       repeat (go_quiet (fail); go_upto_region 24 with (fail))
       go_cut [113] (fun v113 wc => ∃ (kq : Nat) (x113_23 : Bool), v113 = .bool x113_23 ∧ Aside0 (bits_Div64q.j4 kq ji9 ji7 ((ji9) / 4294967296) (Go.bits .and .u64 (ji9) 4294967295) (Go.bits .and .u64 (ji16) 4294967295) x15_17 x16_2 (IntKind.u64.wrap ((IntKind.u64.wrap ((IntKind.u64.wrap ((Go.bits .or .u64 (ji11) (ji14)) * 4294967296)) + ((ji16) / 4294967296))) - (IntKind.u64.wrap (x15_17 * ji9)))) x18_2 x113_23 = some (r1, r2)) ∧ Aside0 (kq ≤ k2) ∧ Drawn0 w wc)
       case first =>
        have H := HC24.out
        clear HC24
        by_cases c25 : x18_2 ≥ 4294967296
        ·rw [if_pos c25] at H
         have c25b0 : decide (4294967296 ≤ x18_2) = true := decide_eq_true c25
         clear c25
         (first | rw [c25b0] | (simp only [i64_w, i32_w]; rw [c25b0]) | skip)
         have H' := Aside0.mk H
         clear H
         go_wp2
         repeat (go_quiet (fail); try go_wp2)
         go_meet
         case rel => exact ⟨_, (true), zrl, H', ⟨by have := HJ17.out; have := HK2.out; first | omega | exact Nat.le_refl _⟩, by repeat (first | exact Drawn0.refl _ | apply Drawn0.step)⟩
        rw [if_neg c25] at H
        have c25b0 : decide (4294967296 ≤ x18_2) = false := decide_eq_false c25
        clear c25
        (first | rw [c25b0] | (simp only [i64_w, i32_w]; rw [c25b0]) | skip)
        have H' := Aside0.mk H
        clear H
        go_wp2
        repeat (go_quiet (fail); try go_wp2)
        go_meet
        case rel => exact ⟨_, (decide ((IntKind.u64.wrap (x18_2 * (Go.bits .and .u64 (ji9) 4294967295))) > (IntKind.u64.wrap ((IntKind.u64.wrap (4294967296 * x16_2)) + (Go.bits .and .u64 (ji16) 4294967295))))), (by first | rfl | (simp; done) | (simp only [← hji9, ← hji16] <;> (first | rfl | simp)) | (simp [*]; done)), H', ⟨by have := HJ17.out; have := HK2.out; first | omega | exact Nat.le_refl _⟩, by repeat (first | exact Drawn0.refl _ | apply Drawn0.step)⟩
       case rest =>
        clear HC24
        try clear c4b0
        try clear c4b1
        try clear c5b0
        try clear c5b1
        try clear c8b0
        try clear c8b1
        try clear c10b0
        try clear c13b0
        try clear c13b1
        try clear c15b0
        try clear c17b0
        try clear c17b1
        try clear c20b0
        try clear c22b0
        try clear c23b0
        try clear c23b1
        try clear c25b0
        obtain ⟨kq, x113_23, rfl, HA, HJ23, ⟨mc23, rfl⟩⟩ := hcut
        cases kq with
        | zero => exact absurd HA.out (by simp [bits_Div64q.j4])
        | succ kj23 =>
         have H := HA.out
         clear HA
         simp only [bits_Div64q.j4] at H
         by_cases c26 : x113_23 = true
         ·subst c26
          replace H := zit H
          by_cases c27 : (IntKind.u64.wrap (x16_2 + ((ji9) / 4294967296))) ≥ 4294967296
          ·rw [if_pos c27] at H
           have c27b0 : decide (4294967296 ≤ (IntKind.u64.wrap (x16_2 + ((ji9) / 4294967296)))) = true := decide_eq_true c27
           clear c27
           by_cases c28 : 0 ≤ ji7
           ·rw [if_pos c28] at H
            have c28b0 := eq_true c28
            have c28b1 : decide (0 ≤ ji7) = true := decide_eq_true c28
            clear c28
            obtain ⟨ji29, hji29⟩ : ∃ j_ : Int, (shr .u64 (IntKind.u64.wrap ((IntKind.u64.wrap ((IntKind.u64.wrap ((IntKind.u64.wrap ((IntKind.u64.wrap ((IntKind.u64.wrap ((Go.bits .or .u64 (ji11) (ji14)) * 4294967296)) + ((ji16) / 4294967296))) - (IntKind.u64.wrap (x15_17 * ji9)))) * 4294967296)) + (Go.bits .and .u64 (ji16) 4294967295))) - (IntKind.u64.wrap ((IntKind.u64.wrap (x18_2 - 1)) * ji9)))) ji7) = j_ := ⟨_, rfl⟩
            replace H : (some (IntKind.u64.wrap ((IntKind.u64.wrap (x15_17 * 4294967296)) + (IntKind.u64.wrap (x18_2 - 1))), ji29)) = some (r1, r2) := by first | (rw [hji29] at H; exact H) | (simp only [hji29] at H ⊢; exact H)
            have hji29_ : ((IntKind.u64.wrap ((IntKind.u64.wrap ((IntKind.u64.wrap ((IntKind.u64.wrap ((IntKind.u64.wrap ((IntKind.u64.wrap ((Go.bits .or .u64 (ji11) (ji14)) * 4294967296)) + ((ji16) / 4294967296))) - (IntKind.u64.wrap (x15_17 * ji9)))) * 4294967296)) + (Go.bits .and .u64 (ji16) 4294967295))) - (IntKind.u64.wrap ((IntKind.u64.wrap (x18_2 - 1)) * ji9)))) / 2 ^ min ji7.toNat 64) = ji29 := hji29
            have hji29z : ji7 ≤ 64 → ((IntKind.u64.wrap ((IntKind.u64.wrap ((IntKind.u64.wrap ((IntKind.u64.wrap ((IntKind.u64.wrap ((IntKind.u64.wrap ((Go.bits .or .u64 (ji11) (ji14)) * 4294967296)) + ((ji16) / 4294967296))) - (IntKind.u64.wrap (x15_17 * ji9)))) * 4294967296)) + (Go.bits .and .u64 (ji16) 4294967295))) - (IntKind.u64.wrap ((IntKind.u64.wrap (x18_2 - 1)) * ji9)))) / 2 ^ ji7.toNat) = ji29 := shr_small hji29
            simp only [Option.some.injEq, Prod.mk.injEq] at H
            obtain ⟨rfl, rfl⟩ := H
            go_wp2
            repeat (go_quiet (fail); try go_wp2)
            go_ret2
            exact ⟨by first | rfl | (simp; done) | (simp only [← hji7, ← hji9, ← hji11, ← hji12, ← hji14, ← hji16, ← hji29] <;> (first | rfl | simp)) | (simp [*]; done), by repeat (first | exact Drawn0.refl _ | apply Drawn0.step)⟩
           rw [if_neg c28] at H
           exact absurd H (by simp)
          rw [if_neg c27] at H
          have c27b0 : decide (4294967296 ≤ (IntKind.u64.wrap (x16_2 + ((ji9) / 4294967296)))) = false := decide_eq_false c27
          clear c27
          have H' := Aside0.mk H
          clear H
          go_wp2
          repeat (go_quiet (fail); try go_wp2)
          go_roundg kj23
          case measure => have := HJ17.out; have := HK2.out; have := HJ23.out; omega
          case rel => exact ⟨(IntKind.u64.wrap (x16_2 + ((ji9) / 4294967296))), (IntKind.u64.wrap (x18_2 - 1)), (by first | rfl | (simp; done) | (simp only [← hji9] <;> (first | rfl | simp)) | (simp [*]; done)), zrl, H', ⟨by have := HJ17.out; have := HK2.out; have := HJ23.out; omega⟩, by repeat (first | exact Drawn0.refl _ | apply Drawn0.step)⟩
         replace c26 := Bool.eq_false_iff.mpr c26
         subst c26
         replace H := zif H
         by_cases c30 : 0 ≤ ji7
         ·rw [if_pos c30] at H
          have c30b0 := eq_true c30
          have c30b1 : decide (0 ≤ ji7) = true := decide_eq_true c30
          clear c30
          obtain ⟨ji31, hji31⟩ : ∃ j_ : Int, (shr .u64 (IntKind.u64.wrap ((IntKind.u64.wrap ((IntKind.u64.wrap ((IntKind.u64.wrap ((IntKind.u64.wrap ((IntKind.u64.wrap ((Go.bits .or .u64 (ji11) (ji14)) * 4294967296)) + ((ji16) / 4294967296))) - (IntKind.u64.wrap (x15_17 * ji9)))) * 4294967296)) + (Go.bits .and .u64 (ji16) 4294967295))) - (IntKind.u64.wrap (x18_2 * ji9)))) ji7) = j_ := ⟨_, rfl⟩
          replace H : (some (IntKind.u64.wrap ((IntKind.u64.wrap (x15_17 * 4294967296)) + x18_2), ji31)) = some (r1, r2) := by first | (rw [hji31] at H; exact H) | (simp only [hji31] at H ⊢; exact H)
          have hji31_ : ((IntKind.u64.wrap ((IntKind.u64.wrap ((IntKind.u64.wrap ((IntKind.u64.wrap ((IntKind.u64.wrap ((IntKind.u64.wrap ((Go.bits .or .u64 (ji11) (ji14)) * 4294967296)) + ((ji16) / 4294967296))) - (IntKind.u64.wrap (x15_17 * ji9)))) * 4294967296)) + (Go.bits .and .u64 (ji16) 4294967295))) - (IntKind.u64.wrap (x18_2 * ji9)))) / 2 ^ min ji7.toNat 64) = ji31 := hji31
          have hji31z : ji7 ≤ 64 → ((IntKind.u64.wrap ((IntKind.u64.wrap ((IntKind.u64.wrap ((IntKind.u64.wrap ((IntKind.u64.wrap ((IntKind.u64.wrap ((Go.bits .or .u64 (ji11) (ji14)) * 4294967296)) + ((ji16) / 4294967296))) - (IntKind.u64.wrap (x15_17 * ji9)))) * 4294967296)) + (Go.bits .and .u64 (ji16) 4294967295))) - (IntKind.u64.wrap (x18_2 * ji9)))) / 2 ^ ji7.toNat) = ji31 := shr_small hji31
          simp only [Option.some.injEq, Prod.mk.injEq] at H
          obtain ⟨rfl, rfl⟩ := H
          go_wp2
          repeat (go_quiet (fail); try go_wp2)
          go_ret2
          exact ⟨by first | rfl | (simp; done) | (simp only [← hji7, ← hji9, ← hji11, ← hji12, ← hji14, ← hji16, ← hji31] <;> (first | rfl | simp)) | (simp [*]; done), by repeat (first | exact Drawn0.refl _ | apply Drawn0.step)⟩
         rw [if_neg c30] at H
         exact absurd H (by simp)
  rw [if_neg c13] at H
  exact absurd H (by simp)
 rw [if_neg c8] at H
 exact absurd H (by simp)
theorem bits_Div64.calls (a0 : Int) (a1 : Int) (a2 : Int) (r1 : Int) (r2 : Int) (w : World) (h : bits_Div64.f a0 a1 a2 = some (r1, r2)) :
  Calls Try.prog 162 #[.int .u64 a0, .int .u64 a1, .int .u64 a2] w fun e w' => e = .returned (.tuple #[.int .u64 r1, .int .u64 r2]) ∧ Below w.heap.size w w' := by
 unfold bits_Div64.f at h
 split at h
 ·rename_i g
  obtain ⟨k, hk⟩ : ∃ k, bits_Div64q.f k a0 a1 a2 = some (r1, r2) := by
   rw [← h]; exact M.Dv64_ok a0 a1 a2 g
  refine (bits_Div64q.walk k a0 a1 a2 r1 r2 w (beq_eq_false_iff_ne.2 (by omega)) (decide_eq_false (by omega)) hk).mono ?_
  rintro e w' ⟨rfl, ⟨nd, rfl⟩⟩
  exact ⟨rfl, by apply pw_below_drewN; exact Below.refl _ _⟩
 cases h
theorem wide_U128_Div.calls (a0_0 : Int) (a0_1 : Int) (a1 : Int) (r1 : Int) (r2 : Int) (r3 : Int) (w : World) (h : wide_U128_Div.f a0_0 a0_1 a1 = some (r1, r2, r3)) :
  Calls Try.prog 104 #[.agg #[.int .u64 a0_0, .int .u64 a0_1], .int .u64 a1] w fun e w' => e = .returned (.tuple #[.agg #[.int .u64 r1, .int .u64 r2], .int .u64 r3]) ∧ Below w.heap.size w w' := by
 have hu109 := Try.underlying109
 have HB := Aside0.mk (Below.refl w.heap.size w)
 have H := h
 unfold wide_U128_Div.f at H
 clear h
 by_cases c3 : a1 = 0
 ·rw [if_pos c3] at H
  have c3b0 : (a1 == 0) = true := beq_iff_eq.mpr c3
  have c3b1 : (a1 != 0) = false := bne_eq_false_iff_eq.mpr c3
  clear c3
  simp only [Option.some.injEq, Prod.mk.injEq] at H
  obtain ⟨rfl, rfl, rfl⟩ := H
  go_enter Try.func104, Try.ntmps104
  go_wp2_with (first | ((with_reducible refine gtd 2 rfl ?_); refine zbx 2 #[.int .u64 a0_0, .int .u64 a0_1] 109 (h := ?_); intro gb256 hg w4 hbox hb; have GW256 := zkZ hg (zaB (p := Below w.heap.size w _)); replace HB := Aside0.mk (below_step zaB hb); have BK256 := Aside0.mk (hbox); clear hb hbox hg) | ((with_reducible refine gtd 4 rfl ?_); refine zbx 4 #[.int .u64 0, .int .u64 0] 109 (h := ?_); intro gb257 hg w5 hbox hb; refine zbn1 HB BK256 hg hb hbox (c := ?_); clear HB BK256 hb hbox hg; intro GW257 NB256_257 BK256 HB BK257; refine zt1 NB256_257 fun _ _ => ?_; refine zu2 BK257 fun _ _ _ _ => ?_))
  refine bodyPost_ret (results_ct rfl _ _ gb257 109 #[.int .u64 0, .int .u64 0] (0, 0) _ rfl (blk_put (cs := #[.int .u64 0, .int .u64 0]) (blk_put (zkq BK257) 0 _ rfl) 1 _ rfl) Try.underlying109 rfl (by kernel_rfl)) rfl ?_
  exact ⟨zaE, zaB⟩
 rw [if_neg c3] at H
 have c3b0 : (a1 == 0) = false := beq_eq_false_iff_ne.mpr c3
 have c3b1 : (a1 != 0) = true := bne_iff_ne.mpr c3
 obtain ⟨⟨t258, t259⟩, A8, H⟩ := zbs H
 try dsimp only at H
 obtain ⟨⟨t260, t261⟩, A9, H⟩ := zbs H
 try dsimp only at H
 simp only [Option.some.injEq, Prod.mk.injEq] at H
 obtain ⟨rfl, rfl, rfl⟩ := H
 go_enter Try.func104, Try.ntmps104
 go_wp2_with (first | ((with_reducible refine gtd 2 rfl ?_); refine zbx 2 #[.int .u64 a0_0, .int .u64 a0_1] 109 (h := ?_); intro gb256 hg w10 hbox hb; have GW256 := zkZ hg (zaB (p := Below w.heap.size w _)); replace HB := Aside0.mk (below_step zaB hb); have BK256 := Aside0.mk (hbox); clear hb hbox hg) | ((with_reducible refine gtd 4 rfl ?_); refine zbx 4 #[.int .u64 0, .int .u64 0] 109 (h := ?_); intro gb257 hg w11 hbox hb; refine zbn1 HB BK256 hg hb hbox (c := ?_); clear HB BK256 hb hbox hg; intro GW257 NB256_257 BK256 HB BK257; refine zt1 NB256_257 fun _ _ => ?_; refine zu2 BK256 fun _ _ _ _ => ?_) | ((with_reducible refine gtc 162 rfl ?_); refine zgL 16 Try.func162 (bits_Div64.calls 0 a0_0 a1 t258 t259 _ A8.out) (h := ?_); rintro w14 hb; refine zcn2 HB BK256 BK257 hb (c := ?_); clear HB BK256 BK257 hb; intro BK256 BK257 HB; refine zu2 BK256 fun _ _ _ _ => ?_) | ((with_reducible refine gtc 162 rfl ?_); refine zgL 24 Try.func162 (bits_Div64.calls t259 a0_1 a1 t260 t261 _ A9.out) (h := ?_); rintro w16 hb; refine zcn2 HB BK256 BK257 hb (c := ?_); clear HB BK256 BK257 hb; intro BK256 BK257 HB; refine zu2 BK257 fun _ _ _ _ => ?_))
 refine bodyPost_ret (results_ct rfl _ _ gb257 109 #[.int .u64 t258, .int .u64 t260] (0, 0) _ rfl (blk_put (cs := #[.int .u64 t258, .int .u64 0]) (blk_put (zkq BK257) 0 _ rfl) 1 _ rfl) Try.underlying109 rfl (by kernel_rfl)) rfl ?_
 exact ⟨zaE, zaB⟩
def soft_Div.T15 : Bool × List (List Nat × List Nat) := (true, [([], []), ([0], [0]), ([], []), ([1, 2], [1, 2]), ([3], [3]), ([], []), ([5], [5]), ([4, 6], [4, 6]), ([7], [7]), ([8], [8]), ([8], [8]), ([], []), ([11, 9, 7, 0, 1, 2, 3, 4, 5, 6, 7, 8, 9, 11], [9, 11]), ([10, 12, 0, 1, 2, 3, 4, 5, 6, 7, 8, 9, 10, 11, 12], [10])])
def soft_Div.B15 : List Nat := [0, 1, 0, 7, 15, 0, 32, 127, 255, 511, 511, 0, 3071, 8191]
theorem soft_Div.tab15 : rtab .any (opsOf Try.f27 15) = soft_Div.T15 := by kernel_rfl
theorem soft_Div.bits15 : waitsOk soft_Div.T15.2 soft_Div.B15 = true := by kernel_rfl
theorem soft_Div.calls (k : Nat) (a0 : Int) (a1 : Int) (a2 : Int) (r1 : Int) (r2 : Int) (w : World) (h : soft_Div.f k a0 a1 a2 = some (r1, r2)) :
  Calls Try.prog 27 #[.int .u64 a0, .int .u64 a1, .int .u8 a2] w fun e w' => e = .returned (.tuple #[.int .u64 r1, .int .u8 r2]) ∧ Below w.heap.size w w' := by
 have hu88 := Try.underlying88
 have hu109 := Try.underlying109
 have HB := Aside0.mk (Below.refl w.heap.size w)
 have H := h
 unfold soft_Div.f at H
 clear h
 obtain ⟨⟨t262, t263, t264, t265, t266⟩, A4, H⟩ := zbs H
 try dsimp only at H
 obtain ⟨⟨t267, t268, t269, t270, t271⟩, A5, H⟩ := zbs H
 try dsimp only at H
 obtain ⟨t274, A6, H⟩ := zbs H
 try dsimp only at H
 by_cases c7 : t274 = true
 ·subst c7
  replace H := zit H
  obtain ⟨t275, A8, H⟩ := zbs H
  try dsimp only at H
  simp only [Option.some.injEq, Prod.mk.injEq] at H
  obtain ⟨rfl, rfl⟩ := H
  go_enter Try.func27, Try.ntmps27
  go_wp2_with (first | ((with_reducible refine gtc 82 rfl ?_); refine zgL 15 Try.func82 (soft_of.calls k a0 t262 t263 t264 t265 t266 _ A4.out) (h := ?_); rintro w9 hb; replace HB := Aside0.mk (below_step zaB hb); (try clear hb)) | ((with_reducible refine gtc 82 rfl ?_); refine zgL 17 Try.func82 (soft_of.calls k a1 t267 t268 t269 t270 t271 _ A5.out) (h := ?_); rintro w10 hb; replace HB := Aside0.mk (below_step zaB hb); (try clear hb)) | ((with_reducible refine gtd 8 rfl ?_); refine zbx 8 #[.int .u64 0, .int .u8 0, .bool false, .int .u64 0, .int .i64 0] 88 (h := ?_); intro gb272 hg w11 hbox hb; have GW272 := zkZ hg (zaB (p := Below w.heap.size w _)); replace HB := Aside0.mk (below_step zaB hb); have BK272 := Aside0.mk (hbox); clear hb hbox hg) | ((with_reducible refine gtd 9 rfl ?_); refine zbx 9 #[.int .u64 0, .int .u8 0, .bool false, .int .u64 0, .int .i64 0] 88 (h := ?_); intro gb273 hg w12 hbox hb; refine zbn1 HB BK272 hg hb hbox (c := ?_); clear HB BK272 hb hbox hg; intro GW273 NB272_273 BK272 HB BK273; refine zt1 NB272_273 fun _ _ => ?_; refine zu5 BK272 fun z14_0 z14_1 z14_2 z14_3 z14_4 f14_0 f14_1 f14_2 f14_3 f14_4 => ?_; refine zu5 BK273 fun z15_0 z15_1 z15_2 z15_3 z15_4 f15_0 f15_1 f15_2 f15_3 f15_4 => ?_) | ((with_reducible refine gtc 83 rfl ?_); refine zgL 26 Try.func83 (soft_either.calls t262 t263 t264 t265 t266 t267 t268 t269 t270 t271 4 true _ A6.out) (h := ?_); rintro w16 hb; replace BK272 := Aside0.mk (blk_below (o := .cells #[.int .u64 t262, .int .u8 t263, .bool t264, .int .u64 t265, .int .i64 t266] 88 (0, 0)) (zkf (zkf (zkf (zkf (zkf (blk_put (cs := #[.int .u64 t262, .int .u8 t263, .bool t264, .int .u64 t265, .int .i64 0]) (blk_put (cs := #[.int .u64 t262, .int .u8 t263, .bool t264, .int .u64 0, .int .i64 0]) (blk_put (cs := #[.int .u64 t262, .int .u8 t263, .bool false, .int .u64 0, .int .i64 0]) (blk_put (cs := #[.int .u64 t262, .int .u8 0, .bool false, .int .u64 0, .int .i64 0]) (blk_put BK272.out 0 _ rfl) 1 _ rfl) 2 _ rfl) 3 _ rfl) 4 _ rfl) NB272_273.out _) NB272_273.out _) NB272_273.out _) NB272_273.out _) NB272_273.out _) hb); replace BK273 := Aside0.mk (blk_below (o := .cells #[.int .u64 t267, .int .u8 t268, .bool t269, .int .u64 t270, .int .i64 t271] 88 (0, 0)) (blk_put (cs := #[.int .u64 t267, .int .u8 t268, .bool t269, .int .u64 t270, .int .i64 0]) (blk_put (cs := #[.int .u64 t267, .int .u8 t268, .bool t269, .int .u64 0, .int .i64 0]) (blk_put (cs := #[.int .u64 t267, .int .u8 t268, .bool false, .int .u64 0, .int .i64 0]) (blk_put (cs := #[.int .u64 t267, .int .u8 0, .bool false, .int .u64 0, .int .i64 0]) (blk_put (zkf (zkf (zkf (zkf (zkf BK273.out (zks NB272_273).out _) (zks NB272_273).out _) (zks NB272_273).out _) (zks NB272_273).out _) (zks NB272_273).out _) 0 _ rfl) 1 _ rfl) 2 _ rfl) 3 _ rfl) 4 _ rfl) hb); replace HB := Aside0.mk (below_step (below_set (below_set (below_set (below_set (below_set (below_set (below_set (below_set (below_set (below_set HB.out GW272.out) GW272.out) GW272.out) GW272.out) GW272.out) GW273.out) GW273.out) GW273.out) GW273.out) GW273.out) hb); (try clear hb)) | ((with_reducible refine gtc 81 rfl ?_); refine zgL 27 Try.func81 (pattern_Quiet.calls  t275 _ A8.out) (h := ?_); rintro w' ⟨nd, rfl⟩))
  go_ret2
  exact ⟨zaE, zaB⟩
 replace c7 := Bool.eq_false_iff.mpr c7
 subst c7
 replace H := zif H
 have HC17 := Aside0.mk H
 clear H
 go_enter Try.func27, Try.ntmps27
 go_upto_region 5 with (first | ((with_reducible refine gtc 82 rfl ?_); refine zgL 15 Try.func82 (soft_of.calls k a0 t262 t263 t264 t265 t266 _ A4.out) (h := ?_); rintro w18 hb; replace HB := Aside0.mk (below_step zaB hb); (try clear hb)) | ((with_reducible refine gtc 82 rfl ?_); refine zgL 17 Try.func82 (soft_of.calls k a1 t267 t268 t269 t270 t271 _ A5.out) (h := ?_); rintro w19 hb; replace HB := Aside0.mk (below_step zaB hb); (try clear hb)) | ((with_reducible refine gtd 8 rfl ?_); refine zbx 8 #[.int .u64 0, .int .u8 0, .bool false, .int .u64 0, .int .i64 0] 88 (h := ?_); intro gb272 hg w20 hbox hb; have GW272 := zkZ hg (zaB (p := Below w.heap.size w _)); replace HB := Aside0.mk (below_step zaB hb); have BK272 := Aside0.mk (hbox); clear hb hbox hg) | ((with_reducible refine gtd 9 rfl ?_); refine zbx 9 #[.int .u64 0, .int .u8 0, .bool false, .int .u64 0, .int .i64 0] 88 (h := ?_); intro gb273 hg w21 hbox hb; refine zbn1 HB BK272 hg hb hbox (c := ?_); clear HB BK272 hb hbox hg; intro GW273 NB272_273 BK272 HB BK273; refine zt1 NB272_273 fun _ _ => ?_; refine zu5 BK272 fun z23_0 z23_1 z23_2 z23_3 z23_4 f23_0 f23_1 f23_2 f23_3 f23_4 => ?_; refine zu5 BK273 fun z24_0 z24_1 z24_2 z24_3 z24_4 f24_0 f24_1 f24_2 f24_3 f24_4 => ?_) | ((with_reducible refine gtc 83 rfl ?_); refine zgL 26 Try.func83 (soft_either.calls t262 t263 t264 t265 t266 t267 t268 t269 t270 t271 4 false _ A6.out) (h := ?_); rintro w25 hb; replace BK272 := Aside0.mk (blk_below (o := .cells #[.int .u64 t262, .int .u8 t263, .bool t264, .int .u64 t265, .int .i64 t266] 88 (0, 0)) (zkf (zkf (zkf (zkf (zkf (blk_put (cs := #[.int .u64 t262, .int .u8 t263, .bool t264, .int .u64 t265, .int .i64 0]) (blk_put (cs := #[.int .u64 t262, .int .u8 t263, .bool t264, .int .u64 0, .int .i64 0]) (blk_put (cs := #[.int .u64 t262, .int .u8 t263, .bool false, .int .u64 0, .int .i64 0]) (blk_put (cs := #[.int .u64 t262, .int .u8 0, .bool false, .int .u64 0, .int .i64 0]) (blk_put BK272.out 0 _ rfl) 1 _ rfl) 2 _ rfl) 3 _ rfl) 4 _ rfl) NB272_273.out _) NB272_273.out _) NB272_273.out _) NB272_273.out _) NB272_273.out _) hb); replace BK273 := Aside0.mk (blk_below (o := .cells #[.int .u64 t267, .int .u8 t268, .bool t269, .int .u64 t270, .int .i64 t271] 88 (0, 0)) (blk_put (cs := #[.int .u64 t267, .int .u8 t268, .bool t269, .int .u64 t270, .int .i64 0]) (blk_put (cs := #[.int .u64 t267, .int .u8 t268, .bool t269, .int .u64 0, .int .i64 0]) (blk_put (cs := #[.int .u64 t267, .int .u8 t268, .bool false, .int .u64 0, .int .i64 0]) (blk_put (cs := #[.int .u64 t267, .int .u8 0, .bool false, .int .u64 0, .int .i64 0]) (blk_put (zkf (zkf (zkf (zkf (zkf BK273.out (zks NB272_273).out _) (zks NB272_273).out _) (zks NB272_273).out _) (zks NB272_273).out _) (zks NB272_273).out _) 0 _ rfl) 1 _ rfl) 2 _ rfl) 3 _ rfl) 4 _ rfl) hb); replace HB := Aside0.mk (below_step (below_set (below_set (below_set (below_set (below_set (below_set (below_set (below_set (below_set (below_set HB.out GW272.out) GW272.out) GW272.out) GW272.out) GW272.out) GW273.out) GW273.out) GW273.out) GW273.out) GW273.out) hb); (try clear hb)))
 (try simp only [Act.put, List.setIfInBounds_toArray, List.set_cons_zero, List.set_cons_succ])
 go_cut [28] (fun v28 wc => ∃ (kq : Nat) (x28_16 : Bool), v28 = .bool x28_16 ∧ Aside0 (soft_Div.j0 kq a2 (t264 != t269) x28_16 t262 t263 t264 t265 t266 t267 t268 t269 t270 t271 = some (r1, r2)) ∧ Aside0 (kq ≤ k) ∧ Aside0 (wc.heap[gb272]? = some (.cells #[.int .u64 t262, .int .u8 t263, .bool t264, .int .u64 t265, .int .i64 t266] 88 (0, 0))) ∧ Aside0 (wc.heap[gb273]? = some (.cells #[.int .u64 t267, .int .u8 t268, .bool t269, .int .u64 t270, .int .i64 t271] 88 (0, 0))) ∧ Aside0 (Below w.heap.size w wc))
 case first =>
  have H := HC17.out
  clear HC17
  by_cases c26 : t263 = t268
  ·rw [if_pos c26] at H
   have c26b0 : (t263 == t268) = true := beq_iff_eq.mpr c26
   have c26b1 : (t263 != t268) = false := bne_eq_false_iff_eq.mpr c26
   clear c26
   (first | rw [c26b0] | (simp only [i64_w, i32_w]; rw [c26b0]) | skip)
   by_cases c27 : t263 = 3
   ·rw [if_pos c27] at H
    have c27b0 : (t263 == 3) = true := beq_iff_eq.mpr c27
    have c27b1 : (t263 != 3) = false := bne_eq_false_iff_eq.mpr c27
    clear c27
    have H' := Aside0.mk H
    clear H
    refine zt1 NB272_273 fun _ _ => ?_
    refine zu5 BK272 fun z29_0 z29_1 z29_2 z29_3 z29_4 f29_0 f29_1 f29_2 f29_3 f29_4 => ?_
    refine zu5 BK273 fun z30_0 z30_1 z30_2 z30_3 z30_4 f30_0 f30_1 f30_2 f30_3 f30_4 => ?_
    go_wp2
    go_meet
    case rel => exact ⟨_, (true), zrl, H', ⟨zle⟩, ⟨zkq BK272⟩, ⟨zkq BK273⟩, ⟨zaB⟩⟩
   rw [if_neg c27] at H
   have c27b0 : (t263 == 3) = false := beq_eq_false_iff_ne.mpr c27
   have c27b1 : (t263 != 3) = true := bne_iff_ne.mpr c27
   have H' := Aside0.mk H
   clear H
   refine zt1 NB272_273 fun _ _ => ?_
   refine zu5 BK272 fun z32_0 z32_1 z32_2 z32_3 z32_4 f32_0 f32_1 f32_2 f32_3 f32_4 => ?_
   refine zu5 BK273 fun z33_0 z33_1 z33_2 z33_3 z33_4 f33_0 f33_1 f33_2 f33_3 f33_4 => ?_
   go_wp2
   go_meet
   case rel => exact ⟨_, ((t263 == 0)), zrl, H', ⟨zle⟩, ⟨zkq BK272⟩, ⟨zkq BK273⟩, ⟨zaB⟩⟩
  rw [if_neg c26] at H
  have c26b0 : (t263 == t268) = false := beq_eq_false_iff_ne.mpr c26
  have c26b1 : (t263 != t268) = true := bne_iff_ne.mpr c26
  (first | rw [c26b0] | (simp only [i64_w, i32_w]; rw [c26b0]) | skip)
  have H' := Aside0.mk H
  clear H
  refine zt1 NB272_273 fun _ _ => ?_
  refine zu5 BK272 fun z35_0 z35_1 z35_2 z35_3 z35_4 f35_0 f35_1 f35_2 f35_3 f35_4 => ?_
  refine zu5 BK273 fun z36_0 z36_1 z36_2 z36_3 z36_4 f36_0 f36_1 f36_2 f36_3 f36_4 => ?_
  go_wp2
  go_meet
  case rel => exact ⟨_, (false), zrl, H', ⟨zle⟩, ⟨zkq BK272⟩, ⟨zkq BK273⟩, ⟨zaB⟩⟩
 case rest =>
  clear HC17
  try clear c26b0
  try clear c26b1
  try clear c27b0
  try clear c27b1
  try clear z14_0 z14_1 z14_2 z14_3 z14_4 f14_0 f14_1 f14_2 f14_3 f14_4
  try clear z15_0 z15_1 z15_2 z15_3 z15_4 f15_0 f15_1 f15_2 f15_3 f15_4
  try clear z23_0 z23_1 z23_2 z23_3 z23_4 f23_0 f23_1 f23_2 f23_3 f23_4
  try clear z24_0 z24_1 z24_2 z24_3 z24_4 f24_0 f24_1 f24_2 f24_3 f24_4
  try clear z29_0 z29_1 z29_2 z29_3 z29_4 f29_0 f29_1 f29_2 f29_3 f29_4
  try clear z30_0 z30_1 z30_2 z30_3 z30_4 f30_0 f30_1 f30_2 f30_3 f30_4
  try clear z32_0 z32_1 z32_2 z32_3 z32_4 f32_0 f32_1 f32_2 f32_3 f32_4
  try clear z33_0 z33_1 z33_2 z33_3 z33_4 f33_0 f33_1 f33_2 f33_3 f33_4
  try clear z35_0 z35_1 z35_2 z35_3 z35_4 f35_0 f35_1 f35_2 f35_3 f35_4
  try clear z36_0 z36_1 z36_2 z36_3 z36_4 f36_0 f36_1 f36_2 f36_3 f36_4
  obtain ⟨kq, x28_16, rfl, HA, HJ16, BK272, BK273, HB⟩ := hcut
  cases kq with
  | zero => exact absurd HA.out (by simp [soft_Div.j0])
  | succ kj16 =>
   have H := HA.out
   clear HA
   simp only [soft_Div.j0] at H
   by_cases c37 : x28_16 = true
   ·subst c37
    replace H := zit H
    obtain ⟨⟨t276, t277⟩, A38, H⟩ := zbs H
    try dsimp only at H
    simp only [Option.some.injEq, Prod.mk.injEq] at H
    obtain ⟨rfl, rfl⟩ := H
    go_wp2_with (first | ((with_reducible refine gtc 84 rfl ?_); refine zgL 44 Try.func84 (soft_invalid.calls  t276 t277 _ A38.out) (h := ?_); rintro w' ⟨nd, rfl⟩))
    go_ret2
    exact ⟨zaE, zaB⟩
   replace c37 := Bool.eq_false_iff.mpr c37
   subst c37
   replace H := zif H
   by_cases c39 : t263 = 3
   ·rw [if_pos c39] at H
    have c39b0 : (t263 == 3) = true := beq_iff_eq.mpr c39
    have c39b1 : (t263 != 3) = false := bne_eq_false_iff_eq.mpr c39
    clear c39
    obtain ⟨t278, A40, H⟩ := zbs H
    try dsimp only at H
    simp only [Option.some.injEq, Prod.mk.injEq] at H
    obtain ⟨rfl, rfl⟩ := H
    refine zt1 NB272_273 fun _ _ => ?_
    refine zu5 BK272 fun z42_0 z42_1 z42_2 z42_3 z42_4 f42_0 f42_1 f42_2 f42_3 f42_4 => ?_
    go_wp2_with (first | ((with_reducible refine gtc 79 rfl ?_); refine zgL 52 Try.func79 (pattern_Inf.calls kj16 (t264 != t269) t278 _ A40.out) (h := ?_); rintro w' ⟨nd, rfl⟩))
    go_ret2
    exact ⟨zaE, zaB⟩
   rw [if_neg c39] at H
   have c39b0 : (t263 == 3) = false := beq_eq_false_iff_ne.mpr c39
   have c39b1 : (t263 != 3) = true := bne_iff_ne.mpr c39
   by_cases c43 : t268 = 0
   ·rw [if_pos c43] at H
    have c43b0 : (t268 == 0) = true := beq_iff_eq.mpr c43
    have c43b1 : (t268 != 0) = false := bne_eq_false_iff_eq.mpr c43
    clear c43
    obtain ⟨t279, A44, H⟩ := zbs H
    try dsimp only at H
    simp only [Option.some.injEq, Prod.mk.injEq] at H
    obtain ⟨rfl, rfl⟩ := H
    refine zt1 NB272_273 fun _ _ => ?_
    refine zu5 BK272 fun z46_0 z46_1 z46_2 z46_3 z46_4 f46_0 f46_1 f46_2 f46_3 f46_4 => ?_
    refine zu5 BK273 fun z47_0 z47_1 z47_2 z47_3 z47_4 f47_0 f47_1 f47_2 f47_3 f47_4 => ?_
    go_wp2_with (first | ((with_reducible refine gtc 79 rfl ?_); refine zgL 58 Try.func79 (pattern_Inf.calls kj16 (t264 != t269) t279 _ A44.out) (h := ?_); rintro w' ⟨nd, rfl⟩))
    go_ret2
    exact ⟨zaE, zaB⟩
   rw [if_neg c43] at H
   have c43b0 : (t268 == 0) = false := beq_eq_false_iff_ne.mpr c43
   have c43b1 : (t268 != 0) = true := bne_iff_ne.mpr c43
   have HC48 := Aside0.mk H
   clear H
   refine zt1 NB272_273 fun _ _ => ?_
   refine zu5 BK272 fun z50_0 z50_1 z50_2 z50_3 z50_4 f50_0 f50_1 f50_2 f50_3 f50_4 => ?_
   refine zu5 BK273 fun z51_0 z51_1 z51_2 z51_3 z51_4 f51_0 f51_1 f51_2 f51_3 f51_4 => ?_
   go_upto_if 59 with (fail)
   go_cut [59] (fun v59 wc => ∃ (kq : Nat) (x59_47 : Bool), v59 = .bool x59_47 ∧ Aside0 (soft_Div.j1 kq a2 (t264 != t269) x59_47 t262 t263 t264 t265 t266 t267 t268 t269 t270 t271 = some (r1, r2)) ∧ Aside0 (kq ≤ kj16) ∧ Aside0 (wc.heap[gb272]? = some (.cells #[.int .u64 t262, .int .u8 t263, .bool t264, .int .u64 t265, .int .i64 t266] 88 (0, 0))) ∧ Aside0 (wc.heap[gb273]? = some (.cells #[.int .u64 t267, .int .u8 t268, .bool t269, .int .u64 t270, .int .i64 t271] 88 (0, 0))) ∧ Aside0 (Below w.heap.size w wc))
   case first =>
    have H := HC48.out
    clear HC48
    by_cases c52 : t263 = 0
    ·rw [if_pos c52] at H
     have c52b0 : (t263 == 0) = true := beq_iff_eq.mpr c52
     have c52b1 : (t263 != 0) = false := bne_eq_false_iff_eq.mpr c52
     clear c52
     (first | rw [c52b0] | (simp only [i64_w, i32_w]; rw [c52b0]) | skip)
     have H' := Aside0.mk H
     clear H
     go_wp2
     go_meet
     case rel => exact ⟨_, ((t263 == 0)), zrl, H', ⟨by have := HJ16.out; first | omega | exact Nat.le_refl _⟩, ⟨zkq BK272⟩, ⟨zkq BK273⟩, ⟨zaB⟩⟩
    rw [if_neg c52] at H
    have c52b0 : (t263 == 0) = false := beq_eq_false_iff_ne.mpr c52
    have c52b1 : (t263 != 0) = true := bne_iff_ne.mpr c52
    (first | rw [c52b0] | (simp only [i64_w, i32_w]; rw [c52b0]) | skip)
    have H' := Aside0.mk H
    clear H
    refine zt1 NB272_273 fun _ _ => ?_
    refine zu5 BK273 fun z54_0 z54_1 z54_2 z54_3 z54_4 f54_0 f54_1 f54_2 f54_3 f54_4 => ?_
    go_wp2
    go_meet
    case rel => exact ⟨_, ((t268 == 3)), zrl, H', ⟨by have := HJ16.out; first | omega | exact Nat.le_refl _⟩, ⟨zkq BK272⟩, ⟨zkq BK273⟩, ⟨zaB⟩⟩
   case rest =>
    clear HC48
    try clear c26b0
    try clear c26b1
    try clear c27b0
    try clear c27b1
    try clear c39b0
    try clear c39b1
    try clear c43b0
    try clear c43b1
    try clear c52b0
    try clear c52b1
    try clear z14_0 z14_1 z14_2 z14_3 z14_4 f14_0 f14_1 f14_2 f14_3 f14_4
    try clear z15_0 z15_1 z15_2 z15_3 z15_4 f15_0 f15_1 f15_2 f15_3 f15_4
    try clear z23_0 z23_1 z23_2 z23_3 z23_4 f23_0 f23_1 f23_2 f23_3 f23_4
    try clear z24_0 z24_1 z24_2 z24_3 z24_4 f24_0 f24_1 f24_2 f24_3 f24_4
    try clear z29_0 z29_1 z29_2 z29_3 z29_4 f29_0 f29_1 f29_2 f29_3 f29_4
    try clear z30_0 z30_1 z30_2 z30_3 z30_4 f30_0 f30_1 f30_2 f30_3 f30_4
    try clear z32_0 z32_1 z32_2 z32_3 z32_4 f32_0 f32_1 f32_2 f32_3 f32_4
    try clear z33_0 z33_1 z33_2 z33_3 z33_4 f33_0 f33_1 f33_2 f33_3 f33_4
    try clear z35_0 z35_1 z35_2 z35_3 z35_4 f35_0 f35_1 f35_2 f35_3 f35_4
    try clear z36_0 z36_1 z36_2 z36_3 z36_4 f36_0 f36_1 f36_2 f36_3 f36_4
    try clear z42_0 z42_1 z42_2 z42_3 z42_4 f42_0 f42_1 f42_2 f42_3 f42_4
    try clear z46_0 z46_1 z46_2 z46_3 z46_4 f46_0 f46_1 f46_2 f46_3 f46_4
    try clear z47_0 z47_1 z47_2 z47_3 z47_4 f47_0 f47_1 f47_2 f47_3 f47_4
    try clear z50_0 z50_1 z50_2 z50_3 z50_4 f50_0 f50_1 f50_2 f50_3 f50_4
    try clear z51_0 z51_1 z51_2 z51_3 z51_4 f51_0 f51_1 f51_2 f51_3 f51_4
    try clear z54_0 z54_1 z54_2 z54_3 z54_4 f54_0 f54_1 f54_2 f54_3 f54_4
    obtain ⟨kq, x59_47, rfl, HA, HJ47, BK272, BK273, HB⟩ := hcut
    cases kq with
    | zero => exact absurd HA.out (by simp [soft_Div.j1])
    | succ kj47 =>
     have H := HA.out
     clear HA
     simp only [soft_Div.j1] at H
     by_cases c55 : x59_47 = true
     ·subst c55
      replace H := zit H
      obtain ⟨t280, A56, H⟩ := zbs H
      try dsimp only at H
      simp only [Option.some.injEq, Prod.mk.injEq] at H
      obtain ⟨rfl, rfl⟩ := H
      go_wp2_with (first | ((with_reducible refine gtc 85 rfl ?_); refine zgL 67 Try.func85 (soft_zero.calls kj47 (t264 != t269) t280 _ A56.out) (h := ?_); rintro w' ⟨nd, rfl⟩))
      go_ret2
      exact ⟨zaE, zaB⟩
     replace c55 := Bool.eq_false_iff.mpr c55
     subst c55
     replace H := zif H
     obtain ⟨t281, A57, H⟩ := zbs H
     try dsimp only at H
     obtain ⟨ji58, hji58⟩ : ∃ j_ : Int, (wrap64 (64 - t281)) = j_ := ⟨_, rfl⟩
     replace H : (if 0 ≤ (ji58) then ((wide_U128_Div.f (shl .u64 t265 (ji58)) 0 t270).bind fun bt282 => ((round_Round.f kj47 (t264 != t269) bt282.1 bt282.2.1 (wrap64 ((wrap64 ((wrap64 (t266 - (ji58))) - 64)) - t271)) (bt282.2.2 != 0) a2).bind fun bt286 => (some (bt286.1, bt286.2)))) else (none)) = some (r1, r2) := by first | (rw [hji58] at H; exact H) | (simp only [hji58] at H ⊢; exact H)
     (try rw [hji58] at A57)
     have hji58w : (IntKind.i64.wrap (64 - t281)) = ji58 := (i64_w _).trans hji58
     by_cases c59 : 0 ≤ (ji58)
     ·rw [if_pos c59] at H
      have c59b0 := eq_true c59
      have c59b1 : decide (0 ≤ (ji58)) = true := decide_eq_true c59
      clear c59
      obtain ⟨ji60, hji60⟩ : ∃ j_ : Int, (shl .u64 t265 (ji58)) = j_ := ⟨_, rfl⟩
      replace H : ((wide_U128_Div.f (ji60) 0 t270).bind fun bt282 => ((round_Round.f kj47 (t264 != t269) bt282.1 bt282.2.1 (wrap64 ((wrap64 ((wrap64 (t266 - (ji58))) - 64)) - t271)) (bt282.2.2 != 0) a2).bind fun bt286 => (some (bt286.1, bt286.2)))) = some (r1, r2) := by first | (rw [hji60] at H; exact H) | (simp only [hji60] at H ⊢; exact H)
      (try rw [hji60] at A57)
      have hji60_ : (IntKind.u64.wrap (t265 * 2 ^ min (ji58).toNat 64)) = ji60 := hji60
      have hji60z : (ji58) ≤ 64 → (IntKind.u64.wrap (t265 * 2 ^ (ji58).toNat)) = ji60 := shl_small hji60
      obtain ⟨⟨t282, t283, t284⟩, A61, H⟩ := zbs H
      try dsimp only at H
      obtain ⟨⟨t286, t287⟩, A62, H⟩ := zbs H
      try dsimp only at H
      simp only [Option.some.injEq, Prod.mk.injEq] at H
      obtain ⟨rfl, rfl⟩ := H
      refine zt1 NB272_273 fun _ _ => ?_
      refine zu5 BK272 fun _ _ _ _ _ _ _ _ _ _ => ?_
      try go_wp2_with (first | ((with_reducible refine gtc 103 rfl ?_); refine zgL 71 Try.func103 (wide_U128_Len.calls 0 t265 t281 _ A57.out) (h := ?_); rintro w65 hb; refine zcn2 HB BK272 BK273 hb (c := ?_); clear HB BK272 BK273 hb; intro BK272 BK273 HB))
      replace BK272 := Aside0.mk (blk_drew BK272.out)
      replace BK273 := Aside0.mk (blk_drew BK273.out)
      replace HB := Aside0.mk (below_drew1 HB.out)
      refine start_ (n := 14) (S := fun w' => w'.cell? ⟨gb272, 0, none⟩ = some (.int .u64 t262) ∧ w'.cell? ⟨gb272, 1, none⟩ = some (.int .u8 t263) ∧ w'.cell? ⟨gb272, 2, none⟩ = some (.bool t264) ∧ w'.cell? ⟨gb272, 3, none⟩ = some (.int .u64 t265) ∧ w'.cell? ⟨gb272, 4, none⟩ = some (.int .i64 t266) ∧ w'.cell? ⟨gb273, 0, none⟩ = some (.int .u64 t267) ∧ w'.cell? ⟨gb273, 1, none⟩ = some (.int .u8 t268) ∧ w'.cell? ⟨gb273, 2, none⟩ = some (.bool t269) ∧ w'.cell? ⟨gb273, 3, none⟩ = some (.int .u64 t270) ∧ w'.cell? ⟨gb273, 4, none⟩ = some (.int .i64 t271)) (ds := []) #[false, false, false, false, false, false, false, false, false, false, false, false, false, false] (by kernel_rfl) rfl rfl (zk5 BK272 (ze5 BK273)) (fun hHeld => ?_); refine with_tabW soft_Div.tab15 soft_Div.bits15 (fun HT_ HW_ => ?_)
      generalize w65.drew = w66 at BK272 BK273 HB hHeld ⊢
      refine zpA 0 74 (h := ?_)
      refine zpA 2 76 (h := ?_)
      refine zpA 5 79 (h := ?_)
      refine ztA 1 75 (h := ?_)
      refine zpA 3 77 (h := ?_)
      refine zpA 4 78 (h := ?_)
      refine ztA 6 80 (h := ?_)
      refine join_ (σ := Nat) 2 #[true, true, true, true, true, true, true, true, true, true, true, true, false, false] (fun s_ => [(81, .tuple #[.agg #[.int .u64 t282, .int .u64 t283], .int .u64 t284]), (12, .pointer (some ⟨s_, 0, none⟩)), (73, .tuple #[.agg #[.int .u64 t282, .int .u64 t283], .int .u64 t284]), (82, .agg #[.int .u64 t282, .int .u64 t283]), (83, .int .u64 t284)]) (fun s_ w' => (w'.cell? ⟨gb272, 0, none⟩ = some (.int .u64 t262) ∧ w'.cell? ⟨gb272, 1, none⟩ = some (.int .u8 t263) ∧ w'.cell? ⟨gb272, 2, none⟩ = some (.bool t264) ∧ w'.cell? ⟨gb272, 3, none⟩ = some (.int .u64 t265) ∧ w'.cell? ⟨gb272, 4, none⟩ = some (.int .i64 t266) ∧ w'.cell? ⟨gb273, 0, none⟩ = some (.int .u64 t267) ∧ w'.cell? ⟨gb273, 1, none⟩ = some (.int .u8 t268) ∧ w'.cell? ⟨gb273, 2, none⟩ = some (.bool t269) ∧ w'.cell? ⟨gb273, 3, none⟩ = some (.int .u64 t270) ∧ w'.cell? ⟨gb273, 4, none⟩ = some (.int .i64 t271)) ∧ (w'.heap[gb272]? = some (.cells #[.int .u64 t262, .int .u8 t263, .bool t264, .int .u64 t265, .int .i64 t266] 88 (0, 0))) ∧ (w'.heap[gb273]? = some (.cells #[.int .u64 t267, .int .u8 t268, .bool t269, .int .u64 t270, .int .i64 t271] 88 (0, 0))) ∧ (w'.heap[s_]? = some (.cells #[.int .u64 0, .int .u64 0] 109 (0, 0))) ∧ (w.heap.size ≤ s_) ∧ (w.heap.size ≤ s_) ∧ (gb272 ≠ s_) ∧ (s_ ≠ gb272) ∧ (gb273 ≠ s_) ∧ (s_ ≠ gb273) ∧ (Below w.heap.size w w')) ?_ ?_
      rotate_left
      ·intro hCont
       refine two_ (i := 7) (j := 11) (Ni := some 81) (Nj := some 12) #[true, true, true, true, true, true, true, true, false, false, false, false, false, false] #[true, true, true, true, true, true, true, false, false, false, false, true, false, false] rfl rfl rfl rfl (two_of HT_.out (by kernel_rfl)) (by decide) (by decide) (fun K hK => ?_) (fun K hK => ?_)
       ·skip
        refine goes_ Try.func104 (by kernel_rfl) rfl #[.agg #[.int .u64 ji60, .int .u64 0], .int .u64 t270] (by rfl) rfl rfl (by (try simp only [List.map_toArray, List.map_cons, List.map_nil]); first | done | (simp only [hji60]; rfl) | rfl | (simp only [List.length_drop, List.length_take]; rfl)) ?_
        with_reducible refine (wide_U128_Div.calls ji60 0 t270 t282 t283 t284 _ A61.out).mono ?_
        rintro e w67 ⟨rfl, hb⟩
        refine ⟨_, rfl, ?_⟩
        refine zcn2 HB BK272 BK273 hb (c := ?_)
        clear HB BK272 BK273 hb
        intro BK272 BK273 HB
        refine hK.out _ _ (zk5 BK272 (ze5 BK273)) (fun hHeld => ?_)
        clear hK K
        refine znA 81 (h := ?_)
        refine zpA 8 73 (h := ?_)
        refine zpA 9 82 (h := ?_)
        refine zpA 10 83 (h := ?_)
        refine zoA 11 12 (h := fun K hK => ?_)
        refine box_step ?hg (N := 12) ?hd (cs := #[.int .u64 0, .int .u64 0]) (t := 109) ?hr ?_; (case hd => rfl); (case hg => rfl); (case hr => first | (go_simp; done) | (go_simp; rfl))
        intro gb285 hg w68 hbox hb
        refine zbn2 HB BK272 BK273 hg hb hbox (c := ?_)
        clear HB BK272 BK273 hb hbox hg
        intro GW285 NB272_285 NB273_285 BK272 BK273 HB BK285
        refine hK.out _ _ (zk5 BK272 (ze5 BK273)) (fun hHeld => ?_)
        clear hK K
        refine znA 12 (h := ?_)
        exact norm_ (by simp only [putAll, Act.put, List.setIfInBounds_toArray, List.set_cons_zero, List.set_cons_succ]) (hCont (gb285) _ ⟨hHeld, (zkq BK272), (zkq BK273), (zkq BK285), GW285.out, GW285.out, NB272_285.out, (zks NB272_285).out, NB273_285.out, (zks NB273_285).out, zaB⟩)
       skip
       refine box_step ?hg (N := 12) ?hd (cs := #[.int .u64 0, .int .u64 0]) (t := 109) ?hr ?_; (case hd => rfl); (case hg => rfl); (case hr => first | (go_simp; done) | (go_simp; rfl))
       intro gb285 hg w67 hbox hb
       refine zbn2 HB BK272 BK273 hg hb hbox (c := ?_)
       clear HB BK272 BK273 hb hbox hg
       intro GW285 NB272_285 NB273_285 BK272 BK273 HB BK285
       refine hK.out _ _ (zk5 BK272 (ze5 BK273)) (fun hHeld => ?_)
       clear hK K
       refine znA 12 (h := ?_)
       refine zoA 7 81 (h := fun K hK => ?_)
       refine goes_ Try.func104 (by kernel_rfl) rfl #[.agg #[.int .u64 ji60, .int .u64 0], .int .u64 t270] (by rfl) rfl rfl (by (try simp only [List.map_toArray, List.map_cons, List.map_nil]); first | done | (simp only [hji60]; rfl) | rfl | (simp only [List.length_drop, List.length_take]; rfl)) ?_
       with_reducible refine (wide_U128_Div.calls ji60 0 t270 t282 t283 t284 _ A61.out).mono ?_
       rintro e w68 ⟨rfl, hb⟩
       refine ⟨_, rfl, ?_⟩
       refine zcn3 HB BK272 BK273 BK285 hb (c := ?_)
       clear HB BK272 BK273 BK285 hb
       intro BK272 BK273 BK285 HB
       refine hK.out _ _ (zk5 BK272 (ze5 BK273)) (fun hHeld => ?_)
       clear hK K
       refine znA 81 (h := ?_)
       refine zpA 8 73 (h := ?_)
       refine zpA 9 82 (h := ?_)
       refine zpA 10 83 (h := ?_)
       exact norm_ (by simp only [putAll, Act.put, List.setIfInBounds_toArray, List.set_cons_zero, List.set_cons_succ]) (hCont (gb285) _ ⟨hHeld, (zkq BK272), (zkq BK273), (zkq BK285), GW285.out, GW285.out, NB272_285.out, (zks NB272_285).out, NB273_285.out, (zks NB273_285).out, zaB⟩)
      rintro gb285 w69 ⟨hS_, h0_, h1_, h2_, h3_, h4_, h5_, h6_, h7_, h8_, h9_⟩
      have n0_ : Aside0 (w69.heap[gb272]? = some (.cells #[.int .u64 t262, .int .u8 t263, .bool t264, .int .u64 t265, .int .i64 t266] 88 (0, 0))) := ⟨h0_⟩
      have n1_ : Aside0 (w69.heap[gb273]? = some (.cells #[.int .u64 t267, .int .u8 t268, .bool t269, .int .u64 t270, .int .i64 t271] 88 (0, 0))) := ⟨h1_⟩
      have n2_ : Aside0 (w69.heap[gb285]? = some (.cells #[.int .u64 0, .int .u64 0] 109 (0, 0))) := ⟨h2_⟩
      have n3_ : Aside0 (w.heap.size ≤ gb285) := ⟨h3_⟩
      have n4_ : Aside0 (w.heap.size ≤ gb285) := ⟨h4_⟩
      have n5_ : Aside0 (gb272 ≠ gb285) := ⟨h5_⟩
      have n6_ : Aside0 (gb285 ≠ gb272) := ⟨h6_⟩
      have n7_ : Aside0 (gb273 ≠ gb285) := ⟨h7_⟩
      have n8_ : Aside0 (gb285 ≠ gb273) := ⟨h8_⟩
      have n9_ : Aside0 (Below w.heap.size w w69) := ⟨h9_⟩
      clear BK272
      clear BK273
      clear HB
      clear h0_ h1_ h2_ h3_ h4_ h5_ h6_ h7_ h8_ h9_
      have BK272 := n0_
      have BK273 := n1_
      have BK285 := n2_
      have GW285 := n3_
      have GW285 := n4_
      have NB272_285 := n5_
      have NB285_272 := n6_
      have NB273_285 := n7_
      have NB285_273 := n8_
      have HB := n9_
      clear n0_ n1_ n2_ n3_ n4_ n5_ n6_ n7_ n8_ n9_
      have hHeld : w69.cell? ⟨gb272, 0, none⟩ = some (.int .u64 t262) ∧ w69.cell? ⟨gb272, 1, none⟩ = some (.int .u8 t263) ∧ w69.cell? ⟨gb272, 2, none⟩ = some (.bool t264) ∧ w69.cell? ⟨gb272, 3, none⟩ = some (.int .u64 t265) ∧ w69.cell? ⟨gb272, 4, none⟩ = some (.int .i64 t266) ∧ w69.cell? ⟨gb273, 0, none⟩ = some (.int .u64 t267) ∧ w69.cell? ⟨gb273, 1, none⟩ = some (.int .u8 t268) ∧ w69.cell? ⟨gb273, 2, none⟩ = some (.bool t269) ∧ w69.cell? ⟨gb273, 3, none⟩ = some (.int .u64 t270) ∧ w69.cell? ⟨gb273, 4, none⟩ = some (.int .i64 t271) := hS_
      refine norm_ (a' := ?_) ?_ ?_
      rotate_left
      ·simp only [putAll, Act.put, List.setIfInBounds_toArray, List.set_cons_zero, List.set_cons_succ]
       rfl
      refine one_ (i := 12) (N := none) #[true, true, true, true, true, true, true, true, true, true, true, true, true, false] rfl rfl (one_of HT_.out (by kernel_rfl)) (by decide) (fun K hK => ?_)
      have hs70 := zc0 BK285
      have hfs70 := blk_frozen BK285.out 0
      refine zt2 NB272_285 NB273_285 fun _ _ _ _ => ?_
      have hs71 := zc1 BK285
      have hfs71 := blk_frozen BK285.out 1
      refine zt2 NB272_285 NB273_285 fun _ _ _ _ => ?_
      refine skip_ (w1 := ?_) (by rfl) rfl ?_ ?_
      rotate_left
      ·go_simp
       rfl
      refine hK.out _ _ ⟨(zff NB272_285 (zff NB272_285 hHeld.1)), (zff NB272_285 (zff NB272_285 hHeld.2.1)), (zff NB272_285 (zff NB272_285 hHeld.2.2.1)), (zff NB272_285 (zff NB272_285 hHeld.2.2.2.1)), (zff NB272_285 (zff NB272_285 hHeld.2.2.2.2.1)), (zff NB273_285 (zff NB273_285 hHeld.2.2.2.2.2.1)), (zff NB273_285 (zff NB273_285 hHeld.2.2.2.2.2.2.1)), (zff NB273_285 (zff NB273_285 hHeld.2.2.2.2.2.2.2.1)), (zff NB273_285 (zff NB273_285 hHeld.2.2.2.2.2.2.2.2.1)), (zff NB273_285 (zff NB273_285 hHeld.2.2.2.2.2.2.2.2.2))⟩ (fun hHeld => ?_)
      clear hK K
      refine zpA 13 13 (h := ?_)
      refine done_ (done_of HT_.out (by kernel_rfl)) ?_
      refine zt2 NB272_285 NB273_285 fun _ _ _ _ => ?_
      refine zu2 BK285 fun _ _ _ _ => ?_
      refine zu5 BK272 fun _ _ _ _ _ _ _ _ _ _ => ?_
      refine zu5 BK273 fun _ _ _ _ _ _ _ _ _ _ => ?_
      try go_wp2_with (first | ((with_reducible refine gtc 99 rfl ?_); refine goesL_ (some 97) rfl rfl Try.func99 (by kernel_rfl) rfl #[.bool (t264 != t269), .agg #[.int .u64 t282, .int .u64 t283], .int .i64 (wrap64 ((wrap64 ((wrap64 (t266 - (ji58))) - 64)) - t271)), .bool (t284 != 0), .int .u8 a2] rfl (by (try simp only [List.map_toArray, List.map_cons, List.map_nil]); first | done | (simp only [hji58]; rfl) | rfl | (simp only [List.length_drop, List.length_take]; rfl)) ?_; (with_reducible refine (round_Round.calls kj47 (t264 != t269) t282 t283 (wrap64 ((wrap64 ((wrap64 (t266 - (ji58))) - 64)) - t271)) (t284 != 0) a2 t286 t287 _ A62.out).mono ?_); rintro e w77 ⟨rfl, hb⟩; refine ⟨_, rfl, ?_⟩; replace BK272 := Aside0.mk (blk_below (zkf (zkf BK272.out NB272_285.out _) NB272_285.out _) hb); replace BK273 := Aside0.mk (blk_below (zkf (zkf BK273.out NB273_285.out _) NB273_285.out _) hb); replace BK285 := Aside0.mk (blk_below (o := .cells #[.int .u64 t282, .int .u64 t283] 109 (0, 0)) (blk_put (cs := #[.int .u64 t282, .int .u64 0]) (blk_put BK285.out 0 _ rfl) 1 _ rfl) hb); replace HB := Aside0.mk (below_step (below_set (below_set HB.out GW285.out) GW285.out) hb); (try clear hb)))
      go_ret2
      exact ⟨by first | rfl | (simp [errW_none, errW_some] <;> rfl) | (simp only [← hji58, ← hji60]; first | rfl | (simp [errW_none, errW_some] <;> rfl)) | (simp [*, errW_none, errW_some] <;> rfl), zaB⟩
     rw [if_neg c59] at H
     exact absurd H (by simp)
theorem slip_div.calls (k : Nat) (a0 : Int) (a1 : Int) (r : Int) (w : World) (h : slip_div.f k a0 a1 = some r) :
  Calls Try.prog 171 #[.int .u64 a0, .int .u64 a1] w fun e w' => e = .returned (.int .u64 r) ∧ Below w.heap.size w w' := by
 have HB := Aside0.mk (Below.refl w.heap.size w)
 have H := h
 unfold slip_div.f at H
 clear h
 obtain ⟨⟨t1498, t1499⟩, A3, H⟩ := zbs H
 try dsimp only at H
 obtain ⟨t1500, A4, H⟩ := zbs H
 try dsimp only at H
 obtain rfl := Option.some.inj H
 go_enter Try.func171, Try.ntmps171
 go_wp2_with (first | ((with_reducible refine gtc 27 rfl ?_); refine zgL 10 Try.func27 (soft_Div.calls k a0 a1 1 t1498 t1499 _ A3.out) (h := ?_); rintro w5 hb; replace HB := Aside0.mk (below_step zaB hb); (try clear hb)) | ((with_reducible refine gtc 61 rfl ?_); refine zgL 14 Try.func61 (slip_Good.calls k t1498 t1500 _ A4.out) (h := ?_); rintro w' ⟨nd, rfl⟩))
 go_ret
 exact ⟨zaE, zaB⟩
def slip_sides_quotient.T7 : Bool × List (List Nat × List Nat) := (true, [([], []), ([0], [0]), ([1], [1]), ([], []), ([2, 3, 2], [2, 3]), ([], []), ([5], [5]), ([4, 6, 4], [4, 6]), ([], []), ([8], [8]), ([7, 9, 7], [7, 9]), ([10, 10, 0, 1, 2, 3, 4, 5, 6, 7, 8, 9, 10], [10])])
def slip_sides_quotient.B7 : List Nat := [0, 1, 3, 0, 15, 0, 32, 127, 0, 256, 1023, 2047]
theorem slip_sides_quotient.tab7 : rtab .any (opsOf Try.f135 7) = slip_sides_quotient.T7 := by kernel_rfl
theorem slip_sides_quotient.bits7 : waitsOk slip_sides_quotient.T7.2 slip_sides_quotient.B7 = true := by kernel_rfl
theorem slip_sides_quotient.calls (k : Nat) (a0_0 : Bool) (a0_1 : Int) (a0_2 : Int) (a0_3 : Bool) (a0_4 : Int) (a0_5 : Int) (a0_6 : Bool) (a0_7 : Int) (a0_8 : Int) (a0_9 : Int) (a0_10 : Int) (a1 : Int) (r : Int) (w : World) (h : slip_sides_quotient.f k a0_0 a0_1 a0_2 a0_3 a0_4 a0_5 a0_6 a0_7 a0_8 a0_9 a0_10 a1 = some r) :
  Calls Try.prog 135 #[.agg #[.bool a0_0, .int .u64 a0_1, .int .u64 a0_2, .bool a0_3, .int .u64 a0_4, .int .u64 a0_5, .bool a0_6, .int .u64 a0_7, .int .u64 a0_8, .int .u64 a0_9, .int .u64 a0_10], .int .u64 a1] w fun e w' => e = .returned (.int .u64 r) ∧ Below w.heap.size w w' := by
 have hu128 := Try.underlying128
 have hu43 := Try.underlying43
 have hfd0_ : ∀ (b : Bool) (x y : Int) (w : World), (Instr.field 43 (.agg #[.bool b, .int .u64 x, .int .u64 y]) 0).run Try.prog w = .ok (.bool b) w := fun _ _ _ _ => by kernel_rfl
 have hfd1_ : ∀ (b : Bool) (x y : Int) (w : World), (Instr.field 43 (.agg #[.bool b, .int .u64 x, .int .u64 y]) 1).run Try.prog w = .ok (.int .u64 x) w := fun _ _ _ _ => by kernel_rfl
 have hfd2_ : ∀ (b : Bool) (x y : Int) (w : World), (Instr.field 43 (.agg #[.bool b, .int .u64 x, .int .u64 y]) 2).run Try.prog w = .ok (.int .u64 y) w := fun _ _ _ _ => by kernel_rfl
 have HB := Aside0.mk (Below.refl w.heap.size w)
 have H := h
 unfold slip_sides_quotient.f at H
 clear h
 obtain ⟨t1502, A3, H⟩ := zbs H
 try dsimp only at H
 by_cases c4 : t1502 = true
 ·subst c4
  replace H := zit H
  obtain ⟨t1503, A5, H⟩ := zbs H
  try dsimp only at H
  obtain rfl := Option.some.inj H
  go_enter Try.func135, Try.ntmps135
  go_wp2_with (first | ((with_reducible refine gtd 2 rfl ?_); refine zbx 2 #[.bool a0_0, .int .u64 a0_1, .int .u64 a0_2, .bool a0_3, .int .u64 a0_4, .int .u64 a0_5, .bool a0_6, .int .u64 a0_7, .int .u64 a0_8, .int .u64 a0_9, .int .u64 a0_10] 128 (h := ?_); intro gb1501 hg w6 hbox hb; have GW1501 := zkZ hg (zaB (p := Below w.heap.size w _)); replace HB := Aside0.mk (below_step zaB hb); have BK1501 := Aside0.mk (hbox); clear hb hbox hg; refine zu11 BK1501 fun _ _ _ _ _ _ _ _ _ _ _ _ _ _ _ _ _ _ _ _ _ _ => ?_) | ((with_reducible refine gtc 41 rfl ?_); refine zgL 11 Try.func41 (span_Has.calls k a0_3 a0_4 a0_5 0 true _ A3.out) (h := ?_); rintro w8 hb; replace BK1501 := zkb BK1501 hb; replace HB := zkB HB hb; (try clear hb)) | ((with_reducible refine gtc 130 rfl ?_); refine zgL 12 Try.func130 (slip_inf.calls k  t1503 _ A5.out) (h := ?_); rintro w' ⟨nd, rfl⟩))
  go_ret
  exact ⟨zaE, zaB⟩
 replace c4 := Bool.eq_false_iff.mpr c4
 subst c4
 replace H := zif H
 obtain ⟨⟨t1504, t1505, t1506⟩, A9, H⟩ := zbs H
 try dsimp only at H
 obtain ⟨⟨t1507, t1508⟩, A10, H⟩ := zbs H
 try dsimp only at H
 obtain ⟨t1509, A11, H⟩ := zbs H
 try dsimp only at H
 by_cases c12 : t1509 = true
 ·subst c12
  replace H := zit H
  obtain ⟨t1511, A13, H⟩ := zbs H
  try dsimp only at H
  obtain ⟨t1512, A14, H⟩ := zbs H
  try dsimp only at H
  obtain ⟨t1513, A15, H⟩ := zbs H
  try dsimp only at H
  obtain ⟨t1514, A16, H⟩ := zbs H
  try dsimp only at H
  obtain ⟨t1515, A17, H⟩ := zbs H
  try dsimp only at H
  obtain ⟨t1516, A18, H⟩ := zbs H
  try dsimp only at H
  obtain rfl := Option.some.inj H
  go_enter Try.func135, Try.ntmps135
  try go_wp2_with (first | ((with_reducible refine gtd 2 rfl ?_); refine zbx 2 #[.bool a0_0, .int .u64 a0_1, .int .u64 a0_2, .bool a0_3, .int .u64 a0_4, .int .u64 a0_5, .bool a0_6, .int .u64 a0_7, .int .u64 a0_8, .int .u64 a0_9, .int .u64 a0_10] 128 (h := ?_); intro gb1501 hg w19 hbox hb; have GW1501 := zkZ hg (zaB (p := Below w.heap.size w _)); replace HB := Aside0.mk (below_step zaB hb); have BK1501 := Aside0.mk (hbox); clear hb hbox hg; refine zu11 BK1501 fun _ _ _ _ _ _ _ _ _ _ _ _ _ _ _ _ _ _ _ _ _ _ => ?_) | ((with_reducible refine gtc 41 rfl ?_); refine zgL 11 Try.func41 (span_Has.calls k a0_3 a0_4 a0_5 0 false _ A3.out) (h := ?_); rintro w21 hb; replace BK1501 := zkb BK1501 hb; replace HB := zkB HB hb; (try clear hb); refine zu11 BK1501 fun _ _ _ _ _ _ _ _ _ _ _ _ _ _ _ _ _ _ _ _ _ _ => ?_) | ((with_reducible refine gtc 69 rfl ?_); refine zgL 15 Try.func69 (span_Abs.calls k a0_3 a0_4 a0_5 t1504 t1505 t1506 _ A9.out) (h := ?_); rintro w23 hb; replace BK1501 := zkb BK1501 hb; replace HB := zkB HB hb; (try clear hb); refine zu11 BK1501 fun _ _ _ _ _ _ _ _ _ _ _ _ _ _ _ _ _ _ _ _ _ _ => ?_) | ((with_reducible refine gtc 23 rfl ?_); refine zgL 21 Try.func23 (soft_Sub.calls k t1505 a0_10 2 t1507 t1508 _ A10.out) (h := ?_); rintro w25 hb; replace BK1501 := zkb BK1501 hb; replace HB := zkB HB hb; (try clear hb)) | ((with_reducible refine gtc 34 rfl ?_); refine zgL 25 Try.func34 (pattern_Less.calls k 0 t1507 true _ A11.out) (h := ?_); rintro w' ⟨nd, rfl⟩))
  (try (rw [drewN_self w25]; generalize hq_ : World.drewN w25 _ = w25; have n0_ : Aside0 (w25.heap[gb1501]? = some (.cells #[.bool a0_0, .int .u64 a0_1, .int .u64 a0_2, .bool a0_3, .int .u64 a0_4, .int .u64 a0_5, .bool a0_6, .int .u64 a0_7, .int .u64 a0_8, .int .u64 a0_9, .int .u64 a0_10] 128 (0, 0))) := ⟨by rw [← hq_]; exact (zkq BK1501)⟩; have n1_ : Aside0 (Below w.heap.size w w25) := ⟨by rw [← hq_]; exact zaB⟩; clear BK1501 HB hq_; have BK1501 := n0_; have HB := n1_; clear n0_ n1_))
  replace BK1501 := Aside0.mk (blk_drew BK1501.out)
  replace HB := Aside0.mk (below_drew1 HB.out)
  refine start_ (n := 12) (S := fun w' => w'.cell? ⟨gb1501, 0, none⟩ = some (.bool a0_0) ∧ w'.cell? ⟨gb1501, 1, none⟩ = some (.int .u64 a0_1) ∧ w'.cell? ⟨gb1501, 2, none⟩ = some (.int .u64 a0_2) ∧ w'.cell? ⟨gb1501, 3, none⟩ = some (.bool a0_3) ∧ w'.cell? ⟨gb1501, 4, none⟩ = some (.int .u64 a0_4) ∧ w'.cell? ⟨gb1501, 5, none⟩ = some (.int .u64 a0_5) ∧ w'.cell? ⟨gb1501, 6, none⟩ = some (.bool a0_6) ∧ w'.cell? ⟨gb1501, 7, none⟩ = some (.int .u64 a0_7) ∧ w'.cell? ⟨gb1501, 8, none⟩ = some (.int .u64 a0_8) ∧ w'.cell? ⟨gb1501, 9, none⟩ = some (.int .u64 a0_9) ∧ w'.cell? ⟨gb1501, 10, none⟩ = some (.int .u64 a0_10)) (ds := []) #[false, false, false, false, false, false, false, false, false, false, false, false] (by kernel_rfl) rfl rfl ⟨(blk_cell BK1501.out 0).trans rfl, (blk_cell BK1501.out 1).trans rfl, (blk_cell BK1501.out 2).trans rfl, (blk_cell BK1501.out 3).trans rfl, (blk_cell BK1501.out 4).trans rfl, (blk_cell BK1501.out 5).trans rfl, (blk_cell BK1501.out 6).trans rfl, (blk_cell BK1501.out 7).trans rfl, (blk_cell BK1501.out 8).trans rfl, (blk_cell BK1501.out 9).trans rfl, (blk_cell BK1501.out 10).trans rfl⟩ (fun hHeld => ?_); refine with_tabW slip_sides_quotient.tab7 slip_sides_quotient.bits7 (fun HT_ HW_ => ?_)
  generalize w25.drew = w26 at BK1501 HB hHeld ⊢
  refine zpA 0 28 (h := ?_)
  refine zpA 3 31 (h := ?_)
  refine zpA 5 33 (h := ?_)
  refine zpA 8 36 (h := ?_)
  refine ztA 1 29 (h := ?_)
  refine ztA 6 34 (h := ?_)
  refine ztA 9 37 (h := ?_)
  refine zoA 2 30 (h := fun K hK => ?_)
  refine zgA Try.func50 (span_Most.calls k a0_0 a0_1 a0_2 t1511 _ A13.out) (h := ?_)
  rintro w27 hb
  replace BK1501 := zkb BK1501 hb
  replace HB := zkB HB hb
  (try clear hb)
  refine hK.out _ _ ⟨(blk_cell BK1501.out 0).trans rfl, (blk_cell BK1501.out 1).trans rfl, (blk_cell BK1501.out 2).trans rfl, (blk_cell BK1501.out 3).trans rfl, (blk_cell BK1501.out 4).trans rfl, (blk_cell BK1501.out 5).trans rfl, (blk_cell BK1501.out 6).trans rfl, (blk_cell BK1501.out 7).trans rfl, (blk_cell BK1501.out 8).trans rfl, (blk_cell BK1501.out 9).trans rfl, (blk_cell BK1501.out 10).trans rfl⟩ (fun hHeld => ?_)
  clear hK K
  refine znA 30 (h := ?_)
  refine zoA 4 32 (h := fun K hK => ?_)
  refine zgA Try.func171 (slip_div.calls k t1511 t1505 t1512 _ A14.out) (h := ?_)
  rintro w28 hb
  replace BK1501 := zkb BK1501 hb
  replace HB := zkB HB hb
  (try clear hb)
  refine hK.out _ _ ⟨(blk_cell BK1501.out 0).trans rfl, (blk_cell BK1501.out 1).trans rfl, (blk_cell BK1501.out 2).trans rfl, (blk_cell BK1501.out 3).trans rfl, (blk_cell BK1501.out 4).trans rfl, (blk_cell BK1501.out 5).trans rfl, (blk_cell BK1501.out 6).trans rfl, (blk_cell BK1501.out 7).trans rfl, (blk_cell BK1501.out 8).trans rfl, (blk_cell BK1501.out 9).trans rfl, (blk_cell BK1501.out 10).trans rfl⟩ (fun hHeld => ?_)
  clear hK K
  refine znA 32 (h := ?_)
  refine zoA 7 35 (h := fun K hK => ?_)
  refine zgA Try.func134 (slip_mul.calls k t1512 a0_10 t1513 _ A15.out) (h := ?_)
  rintro w29 hb
  replace BK1501 := zkb BK1501 hb
  replace HB := zkB HB hb
  (try clear hb)
  refine hK.out _ _ ⟨(blk_cell BK1501.out 0).trans rfl, (blk_cell BK1501.out 1).trans rfl, (blk_cell BK1501.out 2).trans rfl, (blk_cell BK1501.out 3).trans rfl, (blk_cell BK1501.out 4).trans rfl, (blk_cell BK1501.out 5).trans rfl, (blk_cell BK1501.out 6).trans rfl, (blk_cell BK1501.out 7).trans rfl, (blk_cell BK1501.out 8).trans rfl, (blk_cell BK1501.out 9).trans rfl, (blk_cell BK1501.out 10).trans rfl⟩ (fun hHeld => ?_)
  clear hK K
  refine znA 35 (h := ?_)
  refine zoA 10 38 (h := fun K hK => ?_)
  refine zgA Try.func133 (slip_add.calls k t1513 a0_9 t1514 _ A16.out) (h := ?_)
  rintro w30 hb
  replace BK1501 := zkb BK1501 hb
  replace HB := zkB HB hb
  (try clear hb)
  refine hK.out _ _ ⟨(blk_cell BK1501.out 0).trans rfl, (blk_cell BK1501.out 1).trans rfl, (blk_cell BK1501.out 2).trans rfl, (blk_cell BK1501.out 3).trans rfl, (blk_cell BK1501.out 4).trans rfl, (blk_cell BK1501.out 5).trans rfl, (blk_cell BK1501.out 6).trans rfl, (blk_cell BK1501.out 7).trans rfl, (blk_cell BK1501.out 8).trans rfl, (blk_cell BK1501.out 9).trans rfl, (blk_cell BK1501.out 10).trans rfl⟩ (fun hHeld => ?_)
  clear hK K
  refine znA 38 (h := ?_)
  refine zpA 11 8 (h := ?_)
  refine done_ (done_of HT_.out (by kernel_rfl)) ?_
  try go_wp2_with (first | ((with_reducible refine gtc 171 rfl ?_); refine zgL 41 Try.func171 (slip_div.calls k t1514 t1507 t1515 _ A17.out) (h := ?_); rintro w31 hb; replace BK1501 := zkb BK1501 hb; replace HB := zkB HB hb; (try clear hb)) | ((with_reducible refine gtc 133 rfl ?_); refine zgL 43 Try.func133 (slip_add.calls k t1515 a1 t1516 _ A18.out) (h := ?_); rintro w32 hb; replace BK1501 := zkb BK1501 hb; replace HB := zkB HB hb; (try clear hb)))
  go_ret
  exact ⟨zaE, zaB⟩
 replace c12 := Bool.eq_false_iff.mpr c12
 subst c12
 replace H := zif H
 obtain ⟨t1510, A33, H⟩ := zbs H
 try dsimp only at H
 obtain rfl := Option.some.inj H
 go_enter Try.func135, Try.ntmps135
 go_wp2_with (first | ((with_reducible refine gtd 2 rfl ?_); refine zbx 2 #[.bool a0_0, .int .u64 a0_1, .int .u64 a0_2, .bool a0_3, .int .u64 a0_4, .int .u64 a0_5, .bool a0_6, .int .u64 a0_7, .int .u64 a0_8, .int .u64 a0_9, .int .u64 a0_10] 128 (h := ?_); intro gb1501 hg w34 hbox hb; have GW1501 := zkZ hg (zaB (p := Below w.heap.size w _)); replace HB := Aside0.mk (below_step zaB hb); have BK1501 := Aside0.mk (hbox); clear hb hbox hg; refine zu11 BK1501 fun _ _ _ _ _ _ _ _ _ _ _ _ _ _ _ _ _ _ _ _ _ _ => ?_) | ((with_reducible refine gtc 41 rfl ?_); refine zgL 11 Try.func41 (span_Has.calls k a0_3 a0_4 a0_5 0 false _ A3.out) (h := ?_); rintro w36 hb; replace BK1501 := zkb BK1501 hb; replace HB := zkB HB hb; (try clear hb); refine zu11 BK1501 fun _ _ _ _ _ _ _ _ _ _ _ _ _ _ _ _ _ _ _ _ _ _ => ?_) | ((with_reducible refine gtc 69 rfl ?_); refine zgL 15 Try.func69 (span_Abs.calls k a0_3 a0_4 a0_5 t1504 t1505 t1506 _ A9.out) (h := ?_); rintro w38 hb; replace BK1501 := zkb BK1501 hb; replace HB := zkB HB hb; (try clear hb); refine zu11 BK1501 fun _ _ _ _ _ _ _ _ _ _ _ _ _ _ _ _ _ _ _ _ _ _ => ?_) | ((with_reducible refine gtc 23 rfl ?_); refine zgL 21 Try.func23 (soft_Sub.calls k t1505 a0_10 2 t1507 t1508 _ A10.out) (h := ?_); rintro w40 hb; replace BK1501 := zkb BK1501 hb; replace HB := zkB HB hb; (try clear hb)) | ((with_reducible refine gtc 34 rfl ?_); refine zgL 25 Try.func34 (pattern_Less.calls k 0 t1507 false _ A11.out) (h := ?_); rintro w' ⟨nd, rfl⟩) | ((with_reducible refine gtc 130 rfl ?_); refine zgL 27 Try.func130 (slip_inf.calls k  t1510 _ A33.out) (h := ?_); rintro w' ⟨nd, rfl⟩))
 go_ret
 exact ⟨zaE, zaB⟩
end Go.Proofs.Ytmadjhmecfbcmaa.F
end
