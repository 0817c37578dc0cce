/- The walk of the law SoftTurns and what it computes, part 5 of 5: no conditions. -/
import Derived.Test.YtmadjhmecfbcmaaASoftTurns4
set_option linter.unusedVariables false
set_option linter.unusedSimpArgs false
section
namespace Go.Proofs.Ytmadjhmecfbcmaa.M
open Go.RowKit Go.Proofs.YtmadjhmecfbcmaaW.PrintWords Go.Proofs.YtmadjhmecfbcmaaW.PrintLast Go.Proofs.YtmadjhmecfbcmaaW.PrintMore Go.Proofs.Ytmadjhmecfbcmaa.F
theorem Quiet_ok : pattern_Quiet.f = some (QN : Int) := rfl
theorem invalid_ok : soft_invalid.f = some ((QN : Int), 16) := rfl
theorem wMul_ok (x y : Nat) (hx : x < 18446744073709551616) (hy : y < 18446744073709551616) : wide_Mul.f (x : Int) (y : Int) = some ((tw (x * y)).1, (tw (x * y)).2) := by
  unfold wide_Mul.f bits_Mul64.f
  rw [if_pos (by omega)]
  unfold tw
  simp only [Option.bind_some]
  rw [← Int.natCast_mul]
  congr 1
theorem Mul_ev (a b mode : Nat) (ha : U a) (hb : U b) : Ev (fun k => soft_Mul.f k (a : Int) (b : Int) (mode : Int)) (pr (sMul a b mode)) := by
  unfold soft_Mul.f
  refine Ev.b _ (of_ev a ha) (Ev.b _ (of_ev b hb) ?_)
  dsimp only
  have E := fun c => either_ok (a : Int) (cls a) (sgn a) (spm a : Int) (spe a) (b : Int) (cls b) (sgn b) (spm b : Int) (spe b) c
  have E4 := E 4
  have E3 := E 3
  have E0 := E 0
  rw [show ((4 : Nat) : Int) = 4 from rfl] at E4
  rw [show ((3 : Nat) : Int) = 3 from rfl] at E3
  rw [show ((0 : Nat) : Int) = 0 from rfl] at E0
  refine Ev.b _ (Ev.const E4) ?_
  by_cases c4 : cls a = 4 ∨ cls b = 4
  · have hS : sMul a b mode = (QN, 0) := by unfold sMul; rw [if_pos c4]
    rw [hS, decide_eq_true c4]
    exact Ev.congr (fun k => by rw [if_pos rfl]) (Ev.b (f := fun _ x => some (x, (0 : Int))) _ (Ev.const Quiet_ok) (Ev.now _))
  rw [decide_eq_false c4]
  have J : Ev (fun k => soft_Mul.j0 k (mode : Int) (sgn a != sgn b) (if cls a = 3 ∨ cls b = 3 then decide (cls a = 0 ∨ cls b = 0) else false) (a : Int) (cls a : Int) (sgn a) (spm a : Int) (spe a) (b : Int) (cls b : Int) (sgn b) (spm b : Int) (spe b)) (pr (sMul a b mode)) := by
    refine Ev.next ?_
    simp only [soft_Mul.j0]
    by_cases c3 : cls a = 3 ∨ cls b = 3
    · rw [if_pos c3]
      by_cases c0 : cls a = 0 ∨ cls b = 0
      · have hS : sMul a b mode = (QN, 16) := by unfold sMul; rw [if_neg c4, if_pos (show cls a = 3 ∧ cls b = 0 ∨ cls a = 0 ∧ cls b = 3 by omega)]
        rw [hS, decide_eq_true c0]
        exact Ev.congr (fun k => by rw [if_pos rfl]) (Ev.b (f := fun _ x => some (x.1, x.2)) _ (Ev.const invalid_ok) (Ev.now _))
      · have hS : sMul a b mode = (sg (sgn a != sgn b) + INF, 0) := by unfold sMul; rw [if_neg c4, if_neg (show ¬ (cls a = 3 ∧ cls b = 0 ∨ cls a = 0 ∧ cls b = 3) by omega), if_pos c3]
        rw [hS, decide_eq_false c0]
        refine Ev.congr (fun k => by rw [if_neg (by simp)]) (Ev.b _ (Ev.const E3) ?_)
        rw [decide_eq_true c3]
        exact Ev.congr (fun k => by rw [if_pos rfl]) (Ev.b (f := fun _ x => some (x, (0 : Int))) _ (Inf_ev _) (Ev.now _))
    · have c0 : ¬ (cls a = 3 ∧ cls b = 0 ∨ cls a = 0 ∧ cls b = 3) := by omega
      have la := spm_lt a
      have lb := spm_lt b
      have ea := spe_bd a
      have eb := spe_bd b
      have hM : spm a * spm b < 340282366920938463463374607431768211456 := by
        have h1 : spm a * spm b ≤ 9007199254740992 * spm b := Nat.mul_le_mul_right _ (by omega)
        have h2 : 9007199254740992 * spm b ≤ 9007199254740992 * 9007199254740992 := Nat.mul_le_mul_left _ (by omega)
        omega
      have R := Round_ev (sgn a != sgn b) (spm a * spm b) (spe a + spe b) false mode hM
      rw [cl_id (by omega) (by omega), Bool.false_and] at R
      have hS : (if spm a * spm b = 0 then ((sg (sgn a != sgn b) : Int), (0 : Int)) else pr (RND (sgn a != sgn b) (FX (spm a * spm b) 1 (spe a + spe b)) (FS (spm a * spm b) 1 (spe a + spe b) false) mode)) = pr (sMul a b mode) := by
        unfold sMul; rw [if_neg c4, if_neg c0, if_neg c3]
        by_cases z : spm a * spm b = 0
        · rw [if_pos z, if_pos z]; rfl
        · rw [if_neg z, if_neg z]
      rw [hS] at R
      have w1 : wrap64 (spe a + spe b) = spe a + spe b := w64 (by omega) (by omega)
      rw [if_neg c3]
      refine Ev.congr (fun k => by rw [if_neg (by simp)]) (Ev.b _ (Ev.const E3) ?_)
      rw [decide_eq_false c3]
      refine Ev.congr (fun k => by rw [if_neg (by simp)]) (Ev.b _ (Ev.const (wMul_ok _ _ (by omega) (by omega))) ?_)
      dsimp only
      rw [w1]
      exact Ev.b (f := fun _ x => some (x.1, x.2)) _ R (Ev.now _)
  refine Ev.congr (fun k => by rw [if_neg (by simp)]) (Ev.b _ (Ev.const E3) ?_)
  by_cases c3 : cls a = 3 ∨ cls b = 3
  · rw [if_pos c3] at J
    rw [decide_eq_true c3]
    refine Ev.congr (fun k => by rw [if_pos rfl]) (Ev.b _ (Ev.const E0) ?_)
    exact J
  · rw [if_neg c3] at J
    rw [decide_eq_false c3]
    exact Ev.congr (fun k => by rw [if_neg (by simp)]) J
theorem Div64_ok (x y z : Nat) (h1 : x < z) (h2 : z < 18446744073709551616) (h3 : y < 18446744073709551616) :
    bits_Div64.f (x : Int) (y : Int) (z : Int) = some ((((x * 18446744073709551616 + y) / z : Nat) : Int), (((x * 18446744073709551616 + y) % z : Nat) : Int)) := by
  unfold bits_Div64.f
  rw [if_pos (by omega), Int.natCast_ediv, Int.natCast_emod, Int.natCast_add, Int.natCast_mul]; rfl
theorem U128_Div (hi z : Nat) (h1 : hi < 18446744073709551616) (hz : 0 < z) (h2 : z < 18446744073709551616) :
    wide_U128_Div.f (hi : Int) 0 (z : Int) = some ((tw (hi * 18446744073709551616 / z)).1, (tw (hi * 18446744073709551616 / z)).2, ((hi * 18446744073709551616 % z : Nat) : Int)) := by
  have hm := Nat.mod_lt hi hz
  have hl : hi % z * 18446744073709551616 / z < 18446744073709551616 := by
    rw [Nat.div_lt_iff_lt_mul hz, Nat.mul_comm 18446744073709551616]
    exact Nat.mul_lt_mul_of_pos_right hm (by decide)
  have e : hi * 18446744073709551616 = hi % z * 18446744073709551616 + z * (hi / z * 18446744073709551616) := by
    have := Nat.div_add_mod hi z
    have h4 : hi * 18446744073709551616 = (z * (hi / z) + hi % z) * 18446744073709551616 := by rw [this]
    rw [h4, Nat.add_mul]; grind
  have eq : hi * 18446744073709551616 / z = hi / z * 18446744073709551616 + hi % z * 18446744073709551616 / z := by
    rw [e, Nat.add_mul_div_left _ _ hz, Nat.add_comm]
  have er : hi * 18446744073709551616 % z = hi % z * 18446744073709551616 % z := by
    rw [e, Nat.add_mul_mod_self_left]
  unfold wide_U128_Div.f
  have D1 := Div64_ok 0 hi z hz h2 h1
  rw [Nat.zero_mul, Nat.zero_add] at D1
  have D2 := Div64_ok (hi % z) 0 z hm h2 (by decide)
  rw [Nat.add_zero] at D2
  rw [if_neg (by omega), bind_of _ (show bits_Div64.f 0 (hi : Int) (z : Int) = _ from D1)]
  dsimp only
  rw [bind_of _ (show bits_Div64.f ((hi % z : Nat) : Int) 0 (z : Int) = _ from D2), eq, er, tw_join _ _ hl]
theorem dv1 {b x : Nat} (h1 : b < 9007199254740992) (h2 : 9223372036854775808 ≤ x) : 9007199254740992 * b ≤ x * 18446744073709551616 := by omega
theorem Div_ev (a b mode : Nat) (ha : U a) (hb : U b) : Ev (fun k => soft_Div.f k (a : Int) (b : Int) (mode : Int)) (pr (sDiv a b mode)) := by
  unfold soft_Div.f
  refine Ev.b _ (of_ev a ha) (Ev.b _ (of_ev b hb) ?_)
  dsimp only
  have E4 := either_ok (a : Int) (cls a) (sgn a) (spm a : Int) (spe a) (b : Int) (cls b) (sgn b) (spm b : Int) (spe b) 4
  rw [show ((4 : Nat) : Int) = 4 from rfl] at E4
  refine Ev.b _ (Ev.const E4) ?_
  have a0e : ((cls a : Int) == 0) = decide (cls a = 0) := eq_nat _ 0
  have b3e : ((cls b : Int) == 3) = decide (cls b = 3) := eq_nat _ 3
  by_cases c4 : cls a = 4 ∨ cls b = 4
  · have hS : sDiv a b mode = (QN, 0) := by unfold sDiv; rw [if_pos c4]
    rw [hS, decide_eq_true c4]
    exact Ev.congr (fun k => by rw [if_pos rfl]) (Ev.b (f := fun _ x => some (x, (0 : Int))) _ (Ev.const Quiet_ok) (Ev.now _))
  rw [decide_eq_false c4, a0e]
  have J1 : ¬ (cls a = 3 ∧ cls b = 3 ∨ cls a = 0 ∧ cls b = 0) → ¬ cls a = 3 → ¬ cls b = 0 → Ev (fun k => soft_Div.j1 k (mode : Int) (sgn a != sgn b) (decide (cls a = 0 ∨ cls b = 3)) (a : Int) (cls a : Int) (sgn a) (spm a : Int) (spe a) (b : Int) (cls b : Int) (sgn b) (spm b : Int) (spe b)) (pr (sDiv a b mode)) := by
    intro n1 n2 n3
    refine Ev.next ?_
    simp only [soft_Div.j1]
    by_cases c : cls a = 0 ∨ cls b = 3
    · have hS : sDiv a b mode = (sg (sgn a != sgn b), 0) := by unfold sDiv; rw [if_neg c4, if_neg n1, if_neg n2, if_neg n3, if_pos c]
      rw [hS, decide_eq_true c]
      exact Ev.congr (fun k => by rw [if_pos rfl]) (Ev.b (f := fun _ x => some (x, (0 : Int))) _ (zero_ev _) (Ev.now _))
    · have ka : cls a ≤ 2 := by have := cls_le a; omega
      have kb : cls b ≤ 2 := by have := cls_le b; omega
      have za : spm a ≠ 0 := fun h => by have := (spm_zero a ka).1 h; omega
      have zb : spm b ≠ 0 := fun h => by have := (spm_zero b kb).1 h; omega
      have la := spm_lt a
      have lb := spm_lt b
      have ea := spe_bd a
      have eb := spe_bd b
      have hbl := bl_bd (spm a) za
      have hbl2 : bl (spm a) ≤ 53 := bl_le (n := 53) la
      have L : wide_U128_Len.f 0 (spm a : Int) = some (bl (spm a) : Int) := by
        have := Len_tw (spm a) (by omega)
        rw [tw_word (by omega)] at this; exact this
      obtain ⟨sh', hsh⟩ : ∃ n : Nat, n = 64 - bl (spm a) := ⟨_, rfl⟩
      have w1 : wrap64 (64 - (bl (spm a) : Int)) = (sh' : Int) := by rw [w64 (by omega) (by omega)]; omega
      have hx : spm a * 2 ^ sh' < 18446744073709551616 := by
        have : spm a * 2 ^ sh' < 2 ^ bl (spm a) * 2 ^ sh' := Nat.mul_lt_mul_of_pos_right hbl.2.2 (two_pos _)
        rw [← Nat.pow_add, show bl (spm a) + sh' = 64 by omega] at this; exact this
      have hx2 : 9223372036854775808 ≤ spm a * 2 ^ sh' := by
        have : 2 ^ (bl (spm a) - 1) * 2 ^ sh' ≤ spm a * 2 ^ sh' := Nat.mul_le_mul_right _ hbl.2.1
        rw [← Nat.pow_add, show bl (spm a) - 1 + sh' = 63 by omega] at this; exact this
      have S : shl .u64 (spm a : Int) (sh' : Int) = ((spm a * 2 ^ sh' : Nat) : Int) := by rw [shl_nat _ _ (by omega), Nat.mod_eq_of_lt hx]
      have D := U128_Div (spm a * 2 ^ sh') (spm b) hx (by omega) (by omega)
      have hA : spm a * 2 ^ sh' * 18446744073709551616 = spm a * 2 ^ (sh' + 64) := by rw [Nat.pow_add, Nat.mul_assoc]
      have hq1 : 9007199254740992 ≤ spm a * 2 ^ sh' * 18446744073709551616 / spm b := by
        rw [Nat.le_div_iff_mul_le (by omega)]
        exact dv1 lb hx2
      have hq2 : spm a * 2 ^ sh' * 18446744073709551616 / spm b < 340282366920938463463374607431768211456 := by
        exact Nat.lt_of_le_of_lt (Nat.div_le_self _ _) (Nat.mul_lt_mul_of_pos_right hx (by decide))
      obtain ⟨A, hAA⟩ : ∃ A, spm a * 2 ^ sh' * 18446744073709551616 = A := ⟨_, rfl⟩
      rw [hAA] at D hA hq1 hq2
      have w2 : wrap64 (wrap64 (wrap64 (spe a - (sh' : Int)) - 64) - spe b) = spe a - spe b - (sh' + 64 : Nat) := by
        rw [w64 (n := spe a - (sh' : Int)) (by omega) (by omega), w64 (n := spe a - (sh' : Int) - 64) (by omega) (by omega), w64 (by omega) (by omega)]; omega
      have hbl54 : 53 < bl (A / spm b) := by
        by_cases c9 : bl (A / spm b) ≤ 53
        · have := bl_small c9; omega
        · omega
      have hl : (((A % spm b : Nat) : Int) != 0) = decide (A % spm b ≠ 0) := by rw [Bool.eq_iff_iff, bne_iff_ne, decide_eq_true_iff]; omega
      have R := Round_ev (sgn a != sgn b) (A / spm b) (spe a - spe b - (sh' + 64 : Nat)) (decide (A % spm b ≠ 0)) mode hq2
      rw [if_neg (by omega), cl_id (by omega) (by omega), decide_eq_true hbl54, Bool.and_true] at R
      have T := two_step (sgn a != sgn b) A (spm b) (spe a - spe b - (sh' + 64 : Nat)) mode (by omega) (.inr hq1)
      have K := FXS_scale (spm a) (spm b) (sh' + 64) (spe a - spe b) false
      rw [← hA] at K
      rw [T, K.1, K.2] at R
      have hS : RND (sgn a != sgn b) (FX (spm a) (spm b) (spe a - spe b)) (FS (spm a) (spm b) (spe a - spe b) false) mode = sDiv a b mode := by
        unfold sDiv; rw [if_neg c4, if_neg n1, if_neg n2, if_neg n3, if_neg c]
      rw [hS] at R
      rw [decide_eq_false c]
      refine Ev.congr (fun k => by rw [if_neg (by simp)]) (Ev.b _ (Ev.const L) ?_)
      rw [w1, S]
      refine Ev.congr (fun k => by rw [if_pos (by omega)]) (Ev.b _ (Ev.const D) ?_)
      dsimp only
      rw [w2, hl]
      exact Ev.b (f := fun _ x => some (x.1, x.2)) _ R (Ev.now _)
  have J0 : Ev (fun k => soft_Div.j0 k (mode : Int) (sgn a != sgn b) (decide (cls a = 3 ∧ cls b = 3 ∨ cls a = 0 ∧ cls b = 0)) (a : Int) (cls a : Int) (sgn a) (spm a : Int) (spe a) (b : Int) (cls b : Int) (sgn b) (spm b : Int) (spe b)) (pr (sDiv a b mode)) := by
    refine Ev.next ?_
    simp only [soft_Div.j0]
    rw [a0e, b3e]
    by_cases n1 : cls a = 3 ∧ cls b = 3 ∨ cls a = 0 ∧ cls b = 0
    · have hS : sDiv a b mode = (QN, 16) := by unfold sDiv; rw [if_neg c4, if_pos n1]
      rw [hS, decide_eq_true n1]
      exact Ev.congr (fun k => by rw [if_pos rfl]) (Ev.b (f := fun _ x => some (x.1, x.2)) _ (Ev.const invalid_ok) (Ev.now _))
    rw [decide_eq_false n1]
    by_cases n2 : cls a = 3
    · have hS : sDiv a b mode = (sg (sgn a != sgn b) + INF, 0) := by unfold sDiv; rw [if_neg c4, if_neg n1, if_pos n2]
      rw [hS]
      exact Ev.congr (fun k => by rw [if_neg (by simp), if_pos (by omega)]) (Ev.b (f := fun _ x => some (x, (0 : Int))) _ (Inf_ev _) (Ev.now _))
    by_cases n3 : cls b = 0
    · have hS : sDiv a b mode = (sg (sgn a != sgn b) + INF, 8) := by unfold sDiv; rw [if_neg c4, if_neg n1, if_neg n2, if_pos n3]
      rw [hS]
      exact Ev.congr (fun k => by rw [if_neg (by simp), if_neg (by omega), if_pos (by omega)]) (Ev.b (f := fun _ x => some (x, (8 : Int))) _ (Inf_ev _) (Ev.now _))
    have J := J1 n1 n2 n3
    by_cases a0 : cls a = 0
    · rw [decide_eq_true (.inl a0)] at J
      rw [decide_eq_true a0]
      exact Ev.congr (fun k => by rw [if_neg (by simp), if_neg (by omega), if_neg (by omega), if_pos (by omega)]) J
    · rw [show decide (cls a = 0 ∨ cls b = 3) = decide (cls b = 3) by rw [Bool.eq_iff_iff, decide_eq_true_iff, decide_eq_true_iff]; omega] at J
      exact Ev.congr (fun k => by rw [if_neg (by simp), if_neg (by omega), if_neg (by omega), if_neg (by omega)]) J
  by_cases h1 : cls a = cls b
  · by_cases h2 : cls a = 3
    · rw [decide_eq_true (show cls a = 3 ∧ cls b = 3 ∨ cls a = 0 ∧ cls b = 0 by omega)] at J0
      exact Ev.congr (fun k => by rw [if_neg (by simp), if_pos (by omega), if_pos (by omega)]) J0
    · rw [show decide (cls a = 3 ∧ cls b = 3 ∨ cls a = 0 ∧ cls b = 0) = decide (cls a = 0) by rw [Bool.eq_iff_iff, decide_eq_true_iff, decide_eq_true_iff]; omega] at J0
      exact Ev.congr (fun k => by rw [if_neg (by simp), if_pos (by omega), if_neg (by omega)]) J0
  · rw [decide_eq_false (show ¬ (cls a = 3 ∧ cls b = 3 ∨ cls a = 0 ∧ cls b = 0) by omega)] at J0
    exact Ev.congr (fun k => by rw [if_neg (by simp), if_neg (by omega)]) J0
end Go.Proofs.Ytmadjhmecfbcmaa.M
end
section
namespace Go.Proofs.Ytmadjhmecfbcmaa.M
open Go.RowKit Go.Proofs.YtmadjhmecfbcmaaW.PrintWords Go.Proofs.YtmadjhmecfbcmaaW.PrintLast Go.Proofs.YtmadjhmecfbcmaaW.PrintMore Go.Proofs.Ytmadjhmecfbcmaa.F
def isqA (a : Nat) : Nat → Nat → Nat
  | 0, r => r
  | j + 1, r => if (r + 2 ^ j) * (r + 2 ^ j) ≤ a then isqA a j (r + 2 ^ j) else isqA a j r
def isq (a : Nat) : Nat := isqA a 64 0
theorem isqA_spec (a : Nat) : ∀ (j r : Nat), r * r ≤ a → a < (r + 2 ^ j) * (r + 2 ^ j) → isqA a j r * isqA a j r ≤ a ∧ a < (isqA a j r + 1) * (isqA a j r + 1) ∧ r ≤ isqA a j r ∧ isqA a j r < r + 2 ^ j
  | 0, r, h1, h2 => by unfold isqA; rw [Nat.pow_zero] at h2 ⊢; exact ⟨h1, h2, Nat.le_refl _, by omega⟩
  | j + 1, r, h1, h2 => by
    unfold isqA
    have e : 2 ^ (j + 1) = 2 ^ j + 2 ^ j := by rw [Nat.pow_succ]; omega
    have p := two_pos j
    split
    · rename_i c
      have := isqA_spec a j (r + 2 ^ j) c (by rw [Nat.add_assoc, ← e]; exact h2)
      omega
    · rename_i c
      have := isqA_spec a j r h1 (by omega)
      omega
theorem isq_spec (a : Nat) (h : a < 340282366920938463463374607431768211456) : isq a * isq a ≤ a ∧ a < (isq a + 1) * (isq a + 1) ∧ isq a < 18446744073709551616 := by
  have := isqA_spec a 64 0 (by omega) (by simp; omega)
  unfold isq
  refine ⟨this.1, this.2.1, ?_⟩
  have h2 := this.2.2.2
  rw [Nat.zero_add] at h2; exact h2
theorem Cmp_tw (p q : Nat) : wide_U128_Cmp.f (tw p).1 (tw p).2 (tw q).1 (tw q).2 = some (if p < q then -1 else if q < p then 1 else 0) := by
  unfold wide_U128_Cmp.f tw
  dsimp only
  congr 1
  (repeat' split) <;> omega
theorem Sqrt_l (a : Nat) (ha : a < 340282366920938463463374607431768211456) : ∀ (j r : Nat), r % 2 ^ j = 0 → r + 2 ^ j ≤ 18446744073709551616 → r * r ≤ a →
    Ev (fun k => wide_U128_Sqrt.l0 k (r : Int) ((2 ^ j / 2 : Nat) : Int) (tw a).1 (tw a).2) ((isqA a j r : Int), (tw (a - isqA a j r * isqA a j r)).1, (tw (a - isqA a j r * isqA a j r)).2)
  | 0, r, _, h2, h3 => by
    refine Ev.next ?_
    simp only [wide_U128_Sqrt.l0]
    have S := U128_Sub a (r * r) ha h3
    unfold isqA
    have hr : r < 18446744073709551616 := by rw [Nat.pow_zero] at h2; omega
    have e0 : ((2 ^ 0 / 2 : Nat) : Int) = 0 := rfl
    rw [e0]
    refine Ev.congr (fun k => by rw [if_neg (Int.lt_irrefl 0)]) (Ev.b _ (Ev.const (wMul_ok r r hr hr)) ?_)
    dsimp only
    refine Ev.b _ (Ev.const S) (Ev.all fun k => ?_)
    rfl
  | j + 1, r, h1, h2, h3 => by
    have e : 2 ^ (j + 1) / 2 = 2 ^ j := by rw [Nat.pow_succ]; omega
    have e2 : 2 ^ (j + 1) = 2 ^ j + 2 ^ j := by rw [Nat.pow_succ]; omega
    have p := two_pos j
    have h4 : r % 2 ^ j = 0 := by
      have : r % 2 ^ (j + 1) % 2 ^ j = r % 2 ^ j := Nat.mod_mod_of_dvd _ (by rw [Nat.pow_succ]; exact Nat.dvd_mul_right _ _)
      rw [← this, h1]; simp
    have ho : bits .or .u64 (r : Int) ((2 ^ j : Nat) : Int) = ((r + 2 ^ j : Nat) : Int) := or_join r (2 ^ j) (j + 1) (by omega) (by omega) h1 (by omega)
    have eh : ((2 ^ j : Nat) : Int) / 2 = ((2 ^ j / 2 : Nat) : Int) := by omega
    refine Ev.next ?_
    simp only [wide_U128_Sqrt.l0]
    rw [e, ho, eh]
    refine Ev.congr (fun k => by rw [if_pos (by omega)]) (Ev.b _ (Ev.const (wMul_ok (r + 2 ^ j) (r + 2 ^ j) (by omega) (by omega))) ?_)
    dsimp only
    refine Ev.b _ (Ev.const (Cmp_tw _ _)) ?_
    unfold isqA
    by_cases c : (r + 2 ^ j) * (r + 2 ^ j) ≤ a
    · rw [if_pos c]
      have := Sqrt_l a ha j (r + 2 ^ j) (by rw [Nat.add_mod_right, h4]) (by omega) c
      exact Ev.congr (fun k => by rw [if_pos (by (repeat' split) <;> omega)]) this
    · rw [if_neg c]
      have := Sqrt_l a ha j r h4 (by omega) h3
      exact Ev.congr (fun k => by rw [if_neg (by (repeat' split) <;> omega)]) this
theorem U128_Sqrt (a : Nat) (ha : a < 340282366920938463463374607431768211456) :
    Ev (fun k => wide_U128_Sqrt.f k (tw a).1 (tw a).2) ((isq a : Int), (tw (a - isq a * isq a)).1, (tw (a - isq a * isq a)).2) := by
  have := Sqrt_l a ha 64 0 (by decide) (by decide) (by omega)
  exact this
def rk (a : Nat) : Nat := if (spe a - (126 - (bl (spm a) : Int))) % 2 = 0 then 126 - bl (spm a) else 127 - bl (spm a)
def rM (a : Nat) : Nat := spm a * 2 ^ rk a
def rE (a : Nat) : Int := (spe a - rk a) / 2
def sSqrt (a mode : Nat) : Nat × Nat :=
  if cls a = 4 then (QN, 0)
  else if cls a = 0 then (a, 0)
  else if sgn a = true then (QN, 16)
  else if cls a = 3 then (a, 0)
  else RND false (FX (isq (rM a)) 1 (rE a)) (FS (isq (rM a)) 1 (rE a) (decide (rM a - isq (rM a) * isq (rM a) ≠ 0))) mode
theorem root_bd (a : Nat) (h : cls a ≤ 2) (h0 : cls a ≠ 0) : 1 ≤ bl (spm a) ∧ bl (spm a) ≤ 53 ∧ rk a ≤ 126 ∧ 73 ≤ rk a ∧ rM a < 170141183460469231731687303715884105728 ∧ 42535295865117307932921825928971026432 ≤ rM a ∧ (spe a - rk a) % 2 = 0 ∧ spm a ≠ 0 := by
  have z : spm a ≠ 0 := fun h2 => h0 ((spm_zero a h).1 h2)
  have hb := bl_bd (spm a) z
  have hb2 : bl (spm a) ≤ 53 := bl_le (n := 53) (spm_lt a)
  have hk : rk a = 126 - bl (spm a) ∨ rk a = 127 - bl (spm a) := by unfold rk; split; exact .inl rfl; exact .inr rfl
  have hpar : (spe a - rk a) % 2 = 0 := by unfold rk; split <;> omega
  refine ⟨hb.1, hb2, by omega, by omega, ?_, ?_, hpar, z⟩
  · have h1 : spm a * 2 ^ rk a < 2 ^ bl (spm a) * 2 ^ rk a := Nat.mul_lt_mul_of_pos_right hb.2.2 (two_pos _)
    rw [← Nat.pow_add] at h1
    have h2 : 2 ^ (bl (spm a) + rk a) ≤ 2 ^ 127 := pow_le (by omega)
    exact Nat.lt_of_lt_of_le h1 h2
  · have h1 : 2 ^ (bl (spm a) - 1) * 2 ^ rk a ≤ spm a * 2 ^ rk a := Nat.mul_le_mul_right _ hb.2.1
    rw [← Nat.pow_add] at h1
    have h2 : 2 ^ 125 ≤ 2 ^ (bl (spm a) - 1 + rk a) := pow_le (by omega)
    exact Nat.le_trans h2 h1
theorem rt1 {r M : Nat} (h1 : M < (r + 1) * (r + 1)) (h2 : 42535295865117307932921825928971026432 ≤ M) : 9007199254740992 ≤ r := by
  by_cases c : 9007199254740992 ≤ r
  · exact c
  · have : (r + 1) * (r + 1) ≤ 9007199254740992 * 9007199254740992 := Nat.mul_le_mul (by omega) (by omega)
    omega
theorem Sqrt_ev (a mode : Nat) (ha : U a) : Ev (fun k => soft_Sqrt.f k (a : Int) (mode : Int)) (pr (sSqrt a mode)) := by
  unfold soft_Sqrt.f
  refine Ev.b _ (of_ev a ha) ?_
  dsimp only
  have a0e : ((cls a : Int) == 0) = decide (cls a = 0) := eq_nat _ 0
  rw [a0e]
  by_cases c4 : cls a = 4
  · have hS : sSqrt a mode = (QN, 0) := by unfold sSqrt; rw [if_pos c4]
    rw [hS]
    exact Ev.congr (fun k => by rw [if_pos (by omega)]) (Ev.b (f := fun _ x => some (x, (0 : Int))) _ (Ev.const Quiet_ok) (Ev.now _))
  have J : Ev (fun k => soft_Sqrt.j0 k (a : Int) (mode : Int) (decide (cls a = 0 ∨ cls a = 3 ∧ sgn a = false)) (a : Int) (cls a : Int) (sgn a) (spm a : Int) (spe a)) (pr (sSqrt a mode)) := by
    refine Ev.next ?_
    simp only [soft_Sqrt.j0]
    by_cases c : cls a = 0 ∨ cls a = 3 ∧ sgn a = false
    · have hS : sSqrt a mode = (a, 0) := by
        unfold sSqrt; rw [if_neg c4]
        rcases c with c | ⟨c, d⟩
        · rw [if_pos c]
        · rw [if_neg (by omega), if_neg (by rw [d]; simp), if_pos c]
      rw [hS, decide_eq_true c]
      exact Ev.all fun k => by rw [if_pos rfl]; rfl
    rw [decide_eq_false c]
    have n0 : ¬ cls a = 0 := fun h => c (.inl h)
    by_cases cs : sgn a = true
    · have hS : sSqrt a mode = (QN, 16) := by unfold sSqrt; rw [if_neg c4, if_neg n0, if_pos cs]
      rw [hS]
      exact Ev.congr (fun k => by rw [if_neg (by simp), if_pos cs]) (Ev.b (f := fun _ x => some (x.1, x.2)) _ (Ev.const invalid_ok) (Ev.now _))
    have n3 : ¬ cls a = 3 := fun h => c (.inr ⟨h, by cases h2 : sgn a; rfl; exact absurd h2 cs⟩)
    have ka : cls a ≤ 2 := by have := cls_le a; omega
    obtain ⟨b1, b2, b3, b4, b5, b6, b7, b8⟩ := root_bd a ka n0
    have ea := spe_bd a
    have hS : RND false (FX (isq (rM a)) 1 (rE a)) (FS (isq (rM a)) 1 (rE a) (decide (rM a - isq (rM a) * isq (rM a) ≠ 0))) mode = sSqrt a mode := by
      unfold sSqrt; rw [if_neg c4, if_neg n0, if_neg cs, if_neg n3]
    have L : wide_U128_Len.f 0 (spm a : Int) = some (bl (spm a) : Int) := by
      have := Len_tw (spm a) (by have := spm_lt a; omega)
      rw [tw_word (by have := spm_lt a; omega)] at this; exact this
    have Sh : Ev (fun k => wide_U128_Shl.f k 0 (spm a : Int) (rk a : Int)) (tw (rM a)) := by
      have := Shl_tw (spm a) (rk a) (by have := spm_lt a; omega) (by omega)
      rw [tw_word (by have := spm_lt a; omega), Nat.mod_eq_of_lt (by show rM a < _; omega)] at this; exact this
    have Sq := U128_Sqrt (rM a) (by omega)
    have sp := isq_spec (rM a) (by omega)
    have hr := rt1 sp.2.1 b6
    have R := Round_ev false (isq (rM a)) (rE a) (decide (rM a - isq (rM a) * isq (rM a) ≠ 0)) mode (by omega)
    have hbl54 : 53 < bl (isq (rM a)) := by
      by_cases c9 : bl (isq (rM a)) ≤ 53
      · have := bl_small c9; omega
      · omega
    have hrE : -700 ≤ rE a ∧ rE a ≤ 700 := by unfold rE; omega
    rw [if_neg (by omega), cl_id (by omega) (by omega), decide_eq_true hbl54, Bool.and_true, hS, tw_word sp.2.2] at R
    have hz : (!((tw (rM a - isq (rM a) * isq (rM a))).1 == 0) || (!((tw (rM a - isq (rM a) * isq (rM a))).2 == 0))) = decide (rM a - isq (rM a) * isq (rM a) ≠ 0) := by
      have := tw_eq_zero (rM a - isq (rM a) * isq (rM a)) (by omega)
      rw [← Bool.not_and, this, Bool.eq_iff_iff]; simp
    have w1 : wrap64 (126 - (bl (spm a) : Int)) = 126 - (bl (spm a) : Int) := w64 (by omega) (by omega)
    have w2 : wrap64 (spe a - (126 - (bl (spm a) : Int))) = spe a - (126 - (bl (spm a) : Int)) := w64 (by omega) (by omega)
    have w3 : wrap64 (126 - (bl (spm a) : Int) + 1) = 127 - (bl (spm a) : Int) := by rw [w64 (by omega) (by omega)]; omega
    have w4 : wrap64 (spe a - (127 - (bl (spm a) : Int))) = spe a - (127 - (bl (spm a) : Int)) := w64 (by omega) (by omega)
    refine Ev.congr (fun k => by rw [if_neg (by simp), if_neg cs]) (Ev.b _ (Ev.const L) ?_)
    rw [w1, w2, w3, w4]
    by_cases hp : (spe a - (126 - (bl (spm a) : Int))) % 2 = 0
    · have hk : (126 - (bl (spm a) : Int)) = (rk a : Int) := by unfold rk; rw [if_pos hp]; omega
      have ht : Int.tmod (spe a - (126 - (bl (spm a) : Int))) 2 = 0 := by
        rw [hk]; exact Int.tmod_eq_zero_of_dvd (Int.dvd_of_emod_eq_zero b7)
      have hd : wrap64 (Int.tdiv (spe a - (126 - (bl (spm a) : Int))) 2) = rE a := by
        rw [hk, Int.tdiv_eq_ediv_of_dvd (Int.dvd_of_emod_eq_zero b7)]; exact w64 (by unfold rE at hrE; omega) (by unfold rE at hrE; omega)
      rw [hd]
      refine Ev.congr (fun k => by rw [if_pos ht, hk]) (Ev.b _ Sh (Ev.b _ Sq ?_))
      dsimp only
      rw [hz]
      exact Ev.b (f := fun _ x => some (x.1, x.2)) _ R (Ev.now _)
    · have hk : (127 - (bl (spm a) : Int)) = (rk a : Int) := by unfold rk; rw [if_neg hp]; omega
      have ht : ¬ Int.tmod (spe a - (126 - (bl (spm a) : Int))) 2 = 0 := by
        intro h; exact hp (Int.emod_eq_zero_of_dvd (Int.dvd_of_tmod_eq_zero h))
      have hd : wrap64 (Int.tdiv (spe a - (127 - (bl (spm a) : Int))) 2) = rE a := by
        rw [hk, Int.tdiv_eq_ediv_of_dvd (Int.dvd_of_emod_eq_zero b7)]; exact w64 (by unfold rE at hrE; omega) (by unfold rE at hrE; omega)
      rw [hd]
      refine Ev.congr (fun k => by rw [if_neg ht, hk]) (Ev.b _ Sh (Ev.b _ Sq ?_))
      dsimp only
      rw [hz]
      exact Ev.b (f := fun _ x => some (x.1, x.2)) _ R (Ev.now _)
  by_cases n0 : cls a = 0
  · rw [decide_eq_true (.inl n0)] at J
    rw [decide_eq_true n0]
    exact Ev.congr (fun k => by rw [if_neg (by omega), if_pos (by omega)]) J
  · by_cases n3 : cls a = 3
    · have : decide (cls a = 0 ∨ cls a = 3 ∧ sgn a = false) = (!sgn a) := by
        cases h : sgn a
        · rw [decide_eq_true (.inr ⟨n3, rfl⟩)]; rfl
        · rw [decide_eq_false (by simp [n0])]; rfl
      rw [this] at J
      exact Ev.congr (fun k => by rw [if_neg (by omega), if_neg (by omega), if_pos (by omega)]) J
    · rw [decide_eq_false (by simp [n0, n3])] at J
      exact Ev.congr (fun k => by rw [if_neg (by omega), if_neg (by omega), if_neg (by omega)]) J
def sSum (mode : Nat) : Nat → List Nat → Nat
  | s, [] => s
  | s, f :: l => sSum mode (sAdd s f mode).1 l
theorem RND_U (neg : Bool) (X : Nat) (s : Bool) (mode : Nat) : U (RND neg X s mode).1 := by
  unfold U
  by_cases h : 9218868437227405312 ≤ kk X s (dir neg mode)
  · rw [RND_over h]; unfold sg; dsimp only; (repeat' split) <;> omega
  · rw [RND_in h]; unfold sg; dsimp only; split <;> omega
theorem sg_U (b : Bool) : U (sg b) := by unfold U sg; split <;> omega
theorem sAdd_U (a b mode : Nat) (ha : U a) (hb : U b) : U (sAdd a b mode).1 := by
  unfold sAdd
  (repeat' split) <;> first | assumption | exact RND_U _ _ _ _ | exact sg_U _ | (show QN < _; decide)
theorem Sum_ev (mode : Nat) (l : List Nat) (hl : l.length < 1000000) (hU : ∀ x ∈ l, U x) : ∀ (d i s : Nat), l.length - i = d → i ≤ l.length → U s →
    Ev (fun k => soft_Sum.l0 k (mode : Int) (s : Int) (l.map Nat.cast) (l.length : Int) (i : Int)) (sSum mode s (l.drop i) : Int)
  | 0, i, s, hd, hi, hs => by
    refine Ev.next ?_
    simp only [soft_Sum.l0]
    rw [List.drop_eq_nil_of_le (by omega)]
    exact Ev.all fun k => by rw [if_neg (by omega)]; rfl
  | d + 1, i, s, hd, hi, hs => by
    have hlt : i < l.length := by omega
    have hg : rd (l.map Nat.cast) (i : Int) = ((l[i] : Nat) : Int) := by
      unfold rd; rw [Int.toNat_natCast, List.getD_eq_getElem?_getD, List.getElem?_map, List.getElem?_eq_getElem hlt]; rfl
    have w1 : wrap64 ((i : Int) + 1) = ((i + 1 : Nat) : Int) := by rw [w64 (by omega) (by omega)]; omega
    have hUi := hU l[i] (List.getElem_mem hlt)
    refine Ev.next ?_
    simp only [soft_Sum.l0]
    rw [List.drop_eq_getElem_cons hlt, hg, w1, List.length_map]
    unfold sSum
    refine Ev.congr (fun k => by rw [if_pos (by omega), if_pos (by omega), if_pos (by omega)]) (Ev.b _ (Add_ev s l[i] mode hs hUi) ?_)
    exact Sum_ev mode l hl hU d (i + 1) _ (by omega) (by omega) (sAdd_U _ _ _ hs hUi)
theorem softSum_ev (mode : Nat) (l : List Nat) (hl : l.length < 1000000) (hU : ∀ x ∈ l, U x) : Ev (fun k => soft_Sum.f k (mode : Int) (l.map Nat.cast)) (sSum mode 0 l : Int) := by
  have := Sum_ev mode l hl hU l.length 0 0 (by omega) (by omega) (show (0 : Nat) < 18446744073709551616 by decide)
  unfold soft_Sum.f
  rw [List.length_map]; exact this
end Go.Proofs.Ytmadjhmecfbcmaa.M
end
section
namespace Go.Proofs.Ytmadjhmecfbcmaa.M
open Go.RowKit Go.Proofs.YtmadjhmecfbcmaaW.PrintWords Go.Proofs.YtmadjhmecfbcmaaW.PrintLast Go.Proofs.YtmadjhmecfbcmaaW.PrintMore Go.Proofs.Ytmadjhmecfbcmaa.F
theorem c1 : sAdd 4607182418800017408 4368491638549381120 0 = (4607182418800017408, 1) := by decide +kernel
theorem c2 : (sAdd 4607182418800017408 4368491638549381120 1).1 = 4607182418800017409 := by decide +kernel
theorem c3 : (sAdd 4607182418800017408 (ng 4607182418800017408) 0).1 = 0 := by decide +kernel
theorem c4' : (sAdd 4607182418800017408 (ng 4607182418800017408) 2).1 = 9223372036854775808 := by decide +kernel
theorem c5 : sDiv 13830554455654793216 0 0 = (18442240474082181120, 8) := by decide +kernel
theorem c6 : (sSqrt 4611686018427387904 0).1 = 4609047870845172685 := by decide +kernel
theorem c7 : sMul 0 9218868437227405312 0 = (QN, 16) := by decide +kernel
theorem c8 : sSum 0 0 [4607182418800017408, 4607182418800017408, 4607182418800017408] = 4613937818241073152 := by decide +kernel
theorem wf_u64 {x : Int} (h : (Lit.int .u64 x).wf = true) : ∃ a : Nat, x = a ∧ U a := by
  have h2 := (Bool.and_eq_true _ _).mp h
  have h0 : (0 : Int) ≤ x := of_decide_eq_true h2.1
  have h1 : x ≤ 18446744073709551615 := of_decide_eq_true h2.2
  exact ⟨x.toNat, by omega, by unfold U; omega⟩
theorem wf_u8 {x : Int} (h : (Lit.int .u8 x).wf = true) : ∃ a : Nat, x = a ∧ a < 256 := by
  have h2 := (Bool.and_eq_true _ _).mp h
  have h0 : (0 : Int) ≤ x := of_decide_eq_true h2.1
  have h1 : x ≤ 255 := of_decide_eq_true h2.2
  exact ⟨x.toNat, by omega, by omega⟩
theorem Ev.ex {α : Type} {g : Nat → Option α} {r : α} (h : Ev g r) : ∃ k, g k = some r := by
  obtain ⟨k, hk⟩ := h; exact ⟨k, hk k (Nat.le_refl _)⟩
instance (a : Nat) : Decidable (U a) := by unfold U; infer_instance
theorem w1 : Ev (fun k => soft_Add.f k 4607182418800017408 4368491638549381120 0) (4607182418800017408, 1) := by
  have := Add_ev 4607182418800017408 4368491638549381120 0 (by decide) (by decide)
  rw [c1] at this; exact this
theorem w2 : ∃ y, Ev (fun k => soft_Add.f k 4607182418800017408 4368491638549381120 1) (4607182418800017409, y) := by
  have := Add_ev 4607182418800017408 4368491638549381120 1 (by decide) (by decide)
  unfold pr at this
  rw [c2] at this; exact ⟨_, this⟩
theorem w3 : ∃ y, Ev (fun k => soft_Sub.f k 4607182418800017408 4607182418800017408 0) (0, y) := by
  have := Sub_ev 4607182418800017408 4607182418800017408 0 (by decide) (by decide)
  unfold pr at this
  rw [c3] at this; exact ⟨_, this⟩
theorem w4 : ∃ y, Ev (fun k => soft_Sub.f k 4607182418800017408 4607182418800017408 2) (9223372036854775808, y) := by
  have := Sub_ev 4607182418800017408 4607182418800017408 2 (by decide) (by decide)
  unfold pr at this
  rw [c4'] at this; exact ⟨_, this⟩
theorem w5 : Ev (fun k => soft_Div.f k 13830554455654793216 0 0) (18442240474082181120, 8) := by
  have := Div_ev 13830554455654793216 0 0 (by decide) (by decide)
  rw [c5] at this; exact this
theorem w6 : ∃ y, Ev (fun k => soft_Sqrt.f k 4611686018427387904 0) (4609047870845172685, y) := by
  have := Sqrt_ev 4611686018427387904 0 (by decide)
  unfold pr at this
  rw [c6] at this; exact ⟨_, this⟩
theorem w7 : Ev (fun k => soft_Mul.f k 0 9218868437227405312 0) (QN, 16) := by
  have := Mul_ev 0 9218868437227405312 0 (by decide) (by decide)
  rw [c7] at this; exact this
theorem w8 : Ev (fun k => soft_Sum.f k 0 [4607182418800017408, 4607182418800017408, 4607182418800017408]) 4613937818241073152 := by
  have := softSum_ev 0 [4607182418800017408, 4607182418800017408, 4607182418800017408] (by decide) (by intro x hx; simp at hx; subst hx; decide)
  rw [c8] at this; exact this
theorem w9 : Ev (fun k => pattern_Inf.f k false) 9218868437227405312 := Inf_ev false
theorem w10 : Ev (fun k => pattern_Inf.f k true) 18442240474082181120 := Inf_ev true
theorem works_ev : Ev (fun k => flyballlaw06_works.f k) true := by
  obtain ⟨y2, w2⟩ := w2
  obtain ⟨y3, w3⟩ := w3
  obtain ⟨y4, w4⟩ := w4
  obtain ⟨y6, w6⟩ := w6
  unfold flyballlaw06_works.f
  refine Ev.b _ w1 ?_
  refine Ev.b _ w2 ?_
  refine Ev.b _ w3 ?_
  refine Ev.b _ w4 ?_
  refine Ev.b _ w5 ?_
  refine Ev.b _ w6 ?_
  refine Ev.b _ w9 ?_
  refine Ev.b _ w7 ?_
  refine Ev.b _ w8 ?_
  dsimp only
  refine Ev.congr (fun k => by rw [if_pos rfl, if_pos rfl, if_pos rfl, if_pos rfl, if_pos rfl]) ?_
  refine Ev.b _ w10 ?_
  refine Ev.congr (fun k => by rw [if_pos rfl, if_pos rfl, if_pos rfl]) ?_
  refine Ev.b _ (Ev.const Quiet_ok) ?_
  exact Ev.congr (fun k => by rw [if_pos rfl, if_pos rfl, beq_self_eq_true]) (Ev.now _)
end Go.Proofs.Ytmadjhmecfbcmaa.M
end
section
namespace Go.Proofs.Ytmadjhmecfbcmaa.M
open Go.RowKit Go.Proofs.YtmadjhmecfbcmaaW.PrintWords Go.Proofs.YtmadjhmecfbcmaaW.PrintLast Go.Proofs.YtmadjhmecfbcmaaW.PrintMore Go.Proofs.Ytmadjhmecfbcmaa.F
theorem inf_eq {a : Nat} (h : U a) (c : cls a = 3) : a = sg (sgn a) + INF := by
  have h1 := a_parts a h
  have h2 := (key_cls a).2.1.1 c
  unfold INF; omega
theorem sAdd_nan {a b : Nat} (m : Nat) (h : cls a = 4 ∨ cls b = 4) : sAdd a b m = (QN, 0) := by unfold sAdd; rw [if_pos h]
theorem sAdd_inv {a b : Nat} (m : Nat) (h : cls a = 3 ∧ cls b = 3 ∧ sgn a ≠ sgn b) : sAdd a b m = (QN, 16) := by
  unfold sAdd; rw [if_neg (show ¬ (cls a = 4 ∨ cls b = 4) by omega), if_pos h]
theorem sAdd_infl {a b : Nat} (m : Nat) (h : ¬ (cls a = 4 ∨ cls b = 4)) (h2 : ¬ (cls a = 3 ∧ cls b = 3 ∧ sgn a ≠ sgn b)) (c : cls a = 3) : sAdd a b m = (a, 0) := by
  unfold sAdd; rw [if_neg h, if_neg h2, if_pos c]
theorem sAdd_infr {a b : Nat} (m : Nat) (h : ¬ (cls a = 4 ∨ cls b = 4)) (c : cls a ≠ 3) (c2 : cls b = 3) : sAdd a b m = (b, 0) := by
  unfold sAdd; rw [if_neg h, if_neg (show ¬ (cls a = 3 ∧ cls b = 3 ∧ sgn a ≠ sgn b) from fun x => c x.1), if_neg c, if_pos c2]
theorem sAdd_comm (a b m : Nat) (ha : U a) (hb : U b) : sAdd a b m = sAdd b a m := by
  have la := cls_le a
  have lb := cls_le b
  by_cases c4 : cls a = 4 ∨ cls b = 4
  · rw [sAdd_nan m c4, sAdd_nan m (Or.symm c4)]
  · by_cases c1 : cls a = 3 ∧ cls b = 3 ∧ sgn a ≠ sgn b
    · rw [sAdd_inv m c1, sAdd_inv m ⟨c1.2.1, c1.1, Ne.symm c1.2.2⟩]
    · have c4' : ¬ (cls b = 4 ∨ cls a = 4) := fun h => c4 (Or.symm h)
      have c1' : ¬ (cls b = 3 ∧ cls a = 3 ∧ sgn b ≠ sgn a) := fun h => c1 ⟨h.2.1, h.1, Ne.symm h.2.2⟩
      by_cases c2 : cls a = 3
      · rw [sAdd_infl m c4 c1 c2]
        by_cases c3 : cls b = 3
        · rw [sAdd_infl m c4' c1' c3]
          have e : sgn a = sgn b := Classical.byContradiction (fun h => c1 ⟨c2, c3, h⟩)
          have e1 := inf_eq ha c2
          have e2 := inf_eq hb c3
          rw [e] at e1
          rw [e1, ← e2]
        · rw [sAdd_infr m c4' c3 c2]
      · by_cases c3 : cls b = 3
        · rw [sAdd_infr m c4 c2 c3, sAdd_infl m c4' c1' c3]
        · rw [sAdd_fin m (by omega) (by omega), sAdd_fin m (by omega) (by omega), Int.add_comm (sv a)]
          by_cases g : sgn a = sgn b
          · rw [g]
          · rw [if_neg g, if_neg (Ne.symm g)]
theorem sMul_comm (a b m : Nat) : sMul a b m = sMul b a m := by
  have e1 : (sgn a != sgn b) = (sgn b != sgn a) := by cases sgn a <;> cases sgn b <;> rfl
  unfold sMul
  rw [e1, Nat.mul_comm (spm a), Int.add_comm (spe a)]
  congr 1
  · exact propext ⟨Or.symm, Or.symm⟩
  · congr 1
    · exact propext ⟨fun h => h.symm.imp And.symm And.symm, fun h => h.symm.imp And.symm And.symm⟩
    · congr 1
      exact propext ⟨Or.symm, Or.symm⟩
theorem flip_parts (a : Nat) (h : U a) : sgn (flip a) = !sgn a ∧ key (flip a) = key a := by
  unfold U at h
  unfold flip sgn key
  by_cases c : a < 9223372036854775808
  · rw [if_pos c, show (a + 9223372036854775808) / 9223372036854775808 = 1 by omega, show a / 9223372036854775808 = 0 by omega]
    exact ⟨rfl, by omega⟩
  · rw [if_neg c, show (a - 9223372036854775808) / 9223372036854775808 = 0 by omega, show a / 9223372036854775808 = 1 by omega]
    exact ⟨rfl, by omega⟩
theorem cls_key {a b : Nat} (h : key a = key b) : cls a = cls b := by
  have h1 := key_parts' a
  have h2 := key_parts' b
  have a1 := fr_lt a
  have a2 := fr_lt b
  have e1 : ex a = ex b := by omega
  have e2 : fr a = fr b := by omega
  unfold cls; rw [e1, e2]
theorem ng_cls (a : Nat) (h : U a) : cls (ng a) = cls a := by
  unfold ng; split
  · rfl
  · exact cls_key (flip_parts a h).2
theorem ng_ord (a : Nat) (h : U a) (c : cls a ≠ 4) : ord (ng a) = -ord a := by
  unfold ng; rw [if_neg c]
  have := flip_parts a h
  unfold ord; rw [this.1, this.2]
  cases sgn a
  · rfl
  · simp
theorem ng_sv (a : Nat) (h : U a) (c : cls a ≠ 4) : sv (ng a) = -sv a := by
  unfold ng; rw [if_neg c]
  have := flip_parts a h
  unfold sv mg; rw [this.1, this.2]
  cases sgn a
  · rfl
  · simp
theorem ng_sgn (a : Nat) (h : U a) (c : cls a ≠ 4) : sgn (ng a) = !sgn a := by
  unfold ng; rw [if_neg c]; exact (flip_parts a h).1
def other (m : Nat) : Nat := if m = 1 then 2 else if m = 2 then 1 else m
theorem dir_other (n : Bool) (m : Nat) : dir (!n) (other m) = dir n m := by
  unfold dir other
  by_cases c1 : m = 1
  · subst c1; cases n <;> rfl
  · by_cases c2 : m = 2
    · subst c2; cases n <;> rfl
    · rw [if_neg c1, if_neg c2, if_neg c1, if_neg c2, if_neg c1, if_neg c2]
theorem QN_cls : cls QN = 4 := by decide
theorem cls_sg0 (n : Bool) : cls (sg n) = 0 := by cases n <;> decide
theorem cls_sAdd (a b m : Nat) : cls (sAdd a b m).1 = 4 ↔ cls a = 4 ∨ cls b = 4 ∨ (cls a = 3 ∧ cls b = 3 ∧ sgn a ≠ sgn b) := by
  have la := cls_le a
  have lb := cls_le b
  by_cases c4 : cls a = 4 ∨ cls b = 4
  · rw [sAdd_nan m c4]; exact ⟨fun _ => by rcases c4 with h | h; exact .inl h; exact .inr (.inl h), fun _ => QN_cls⟩
  · by_cases c1 : cls a = 3 ∧ cls b = 3 ∧ sgn a ≠ sgn b
    · rw [sAdd_inv m c1]; exact ⟨fun _ => .inr (.inr c1), fun _ => QN_cls⟩
    · refine ⟨fun h => ?_, fun h => ?_⟩
      · exfalso
        by_cases c2 : cls a = 3
        · rw [sAdd_infl m c4 c1 c2] at h; dsimp only at h; omega
        · by_cases c3 : cls b = 3
          · rw [sAdd_infr m c4 c2 c3] at h; dsimp only at h; omega
          · rw [sAdd_fin m (by omega) (by omega)] at h
            split at h
            · dsimp only at h; rw [cls_sg0] at h; omega
            · have := cls_RND (decide (sv a + sv b < 0)) (2 * (sv a + sv b).natAbs) false m; omega
      · rcases h with h | h | h
        · exact absurd (.inl h) c4
        · exact absurd (.inr h) c4
        · exact absurd h c1
theorem ro_neg (n : Bool) (X : Nat) (s : Bool) (m : Nat) : ro (!n) X s (other m) = -ro n X s m := by
  unfold ro; rw [dir_other]
  generalize cap X s (dir n m) = c
  cases n <;> simp
theorem rq_neg (v : Int) (D m : Nat) : rq (-v) D (other m) = -rq v D m := by
  by_cases z : v = 0
  · subst z; rw [Int.neg_zero, rq_zero, rq_zero]; rfl
  · unfold rq
    rw [Int.natAbs_neg, ← ro_neg]
    congr 1
    by_cases c : v < 0
    · rw [decide_eq_true c, decide_eq_false (by omega)]; rfl
    · rw [decide_eq_false c, decide_eq_true (by omega)]; rfl
theorem Turn_add (a b m : Nat) (ha : U a) (hb : U b) (h : cls (sAdd a b m).1 ≠ 4) : cls (sAdd (ng a) (ng b) (other m)).1 ≠ 4 ∧ ord (sAdd (ng a) (ng b) (other m)).1 = -ord (sAdd a b m).1 := by
  have la := cls_le a
  have lb := cls_le b
  have ca := ng_cls a ha
  have cb := ng_cls b hb
  have k := cls_sAdd a b m
  have hn := fun x => h (k.2 x)
  have na : cls a ≠ 4 := fun x => hn (.inl x)
  have nb : cls b ≠ 4 := fun x => hn (.inr (.inl x))
  have sa := ng_sgn a ha na
  have sb := ng_sgn b hb nb
  have ns : ¬ (cls a = 3 ∧ cls b = 3 ∧ sgn a ≠ sgn b) := fun x => hn (.inr (.inr x))
  refine ⟨?_, ?_⟩
  · intro x
    have := (cls_sAdd (ng a) (ng b) (other m)).1 x
    rw [ca, cb, sa, sb] at this
    rcases this with h | h | ⟨h1, h2, h3⟩
    · exact na h
    · exact nb h
    · exact ns ⟨h1, h2, fun e => h3 (by rw [e])⟩
  · have h4 : ¬ (cls a = 4 ∨ cls b = 4) := by omega
    have h4' : ¬ (cls (ng a) = 4 ∨ cls (ng b) = 4) := by omega
    have ns' : ¬ (cls (ng a) = 3 ∧ cls (ng b) = 3 ∧ sgn (ng a) ≠ sgn (ng b)) := fun x => ns ⟨by omega, by omega, fun e => x.2.2 (by rw [sa, sb, e])⟩
    by_cases c2 : cls a = 3
    · rw [sAdd_infl m h4 ns c2, sAdd_infl (other m) h4' ns' (by omega)]; exact ng_ord a ha na
    · by_cases c3 : cls b = 3
      · rw [sAdd_infr m h4 c2 c3, sAdd_infr (other m) h4' (by omega) (by omega)]; exact ng_ord b hb nb
      · rw [ord_sAdd _ _ _ (by omega) (by omega), ord_sAdd _ _ _ (by omega) (by omega), ng_sv a ha na, ng_sv b hb nb, ← rq_neg _ _ _]
        congr 1; omega
theorem SoftTurns : flyballlaw06_SoftTurns.Pure := by
  intro a0 a1 a2 h0 h1 h2
  obtain ⟨a, rfl, ha⟩ := wf_u64 h0
  obtain ⟨b, rfl, hb⟩ := wf_u64 h1
  obtain ⟨m, rfl, _⟩ := wf_u8 h2
  refine Ev.ex (r := true) ?_
  have hs := sAdd_U a b m ha hb
  have hnu := sAdd_U (ng a) (ng b) (other m) (ng_U a ha) (ng_U b hb)
  have J : Ev (fun k => flyballlaw06_SoftTurns.j0 k (a : Int) (b : Int) true (pr (sAdd a b m)).1 (pr (sAdd a b m)).2 (pr (sAdd a b m)).1 (pr (sAdd a b m)).2 (pr (sMul a b m)).1 (pr (sMul a b m)).2 (pr (sMul a b m)).1 (pr (sMul a b m)).2 (other m : Int)) true := by
    refine Ev.next ?_
    simp only [flyballlaw06_SoftTurns.j0]
    refine Ev.b _ (Neg_ev a ha) (Ev.b _ (Neg_ev b hb) (Ev.b _ (Add_ev (ng a) (ng b) (other m) (ng_U a ha) (ng_U b hb)) ?_))
    refine Ev.b _ (Neg_ev _ hnu) (Ev.b _ (Cmp_ev _ _ (ng_U _ hnu) hs) (Ev.b _ (Class_ev _ hs) (Ev.const ?_)))
    by_cases c : cls (sAdd a b m).1 = 4
    · have k := (cls_sAdd a b m).1 c
      have cc : cls (sAdd (ng a) (ng b) (other m)).1 = 4 := by
        refine (cls_sAdd _ _ _).2 ?_
        rw [ng_cls a ha, ng_cls b hb]
        rcases k with k | k | k
        · exact .inl k
        · exact .inr (.inl k)
        · exact .inr (.inr ⟨k.1, k.2.1, by rw [ng_sgn a ha (by omega), ng_sgn b hb (by omega)]; intro e; exact k.2.2 (by revert e; cases sgn a <;> cases sgn b <;> simp)⟩)
      have q : ∀ (x y n : Nat), cls (sAdd x y n).1 = 4 → (sAdd x y n).1 = QN := by
        intro x y n h
        have h := (cls_sAdd x y n).1 h
        unfold sAdd
        by_cases c4 : cls x = 4 ∨ cls y = 4
        · rw [if_pos c4]
        · rw [if_neg c4, if_pos (by rcases h with h | h | h; exact absurd (.inl h) c4; exact absurd (.inr h) c4; exact h)]
      rw [if_pos (by rw [c]; rfl), if_pos trivial, if_pos trivial, if_pos trivial, if_pos trivial, if_pos trivial]
      congr 1
      rw [beq_iff_eq]
      show ((sAdd (ng a) (ng b) (other m)).1 : Int) = ((sAdd a b m).1 : Int)
      rw [q _ _ _ cc, q _ _ _ c]
    · have T := Turn_add a b m ha hb c
      have hc : cmpI (ng (sAdd (ng a) (ng b) (other m)).1) (sAdd a b m).1 = (0, true) := by
        unfold cmpI
        rw [ng_cls _ hnu, ng_ord _ hnu T.1, T.2, if_neg (by omega), if_neg (by omega), if_neg (by omega)]
      rw [if_neg (by omega), if_pos trivial, if_pos trivial, if_pos trivial, if_pos trivial, if_pos trivial, hc]
      rfl
  unfold flyballlaw06_SoftTurns.f
  refine Ev.b _ works_ev ?_
  refine Ev.congr (fun k => by rw [if_pos rfl]) ?_
  refine Ev.b _ (Add_ev a b m ha hb) ?_
  refine Ev.b _ (Add_ev b a m hb ha) ?_
  refine Ev.b _ (Mul_ev a b m ha hb) ?_
  refine Ev.b _ (Mul_ev b a m hb ha) ?_
  rw [← sAdd_comm a b m ha hb, ← sMul_comm a b m]
  by_cases m1 : m = 1
  · have e : other m = 2 := by unfold other; rw [if_pos m1]
    rw [e] at J
    exact Ev.congr (fun k => by rw [if_pos (by omega)]; rfl) J
  · by_cases m2 : m = 2
    · have e : other m = 1 := by unfold other; rw [if_neg m1, if_pos m2]
      rw [e] at J
      exact Ev.congr (fun k => by rw [if_neg (by omega), if_pos (by omega)]; rfl) J
    · have e : other m = m := by unfold other; rw [if_neg m1, if_neg m2]
      rw [e] at J
      exact Ev.congr (fun k => by rw [if_neg (by omega), if_neg (by omega)]) J
end Go.Proofs.Ytmadjhmecfbcmaa.M
end
