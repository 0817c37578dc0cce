/- The walk of the law SoftSums and what it computes, part 6 of 6: no conditions. -/
import Derived.Test.YtmadjhmecfbcmaaASoftSums5
set_option linter.unusedVariables false
set_option linter.unusedSimpArgs false
section
namespace Go.Proofs.Ytmadjhmecfbcmaa.M
open Go.RowKit Go.Proofs.YtmadjhmecfbcmaaW.PrintWords Go.Proofs.YtmadjhmecfbcmaaW.PrintLast Go.Proofs.YtmadjhmecfbcmaaW.PrintMore Go.Proofs.Ytmadjhmecfbcmaa.F
theorem either_ok (x0 : Int) (cx : Nat) (x2 : Bool) (x3 x4 y0 : Int) (cy : Nat) (y2 : Bool) (y3 y4 : Int) (c : Nat) :
    soft_either.f x0 (cx : Int) x2 x3 x4 y0 (cy : Int) y2 y3 y4 (c : Int) = some (decide (cx = c ∨ cy = c)) := by
  unfold soft_either.f
  by_cases h : cx = c
  · rw [if_pos (by omega), decide_eq_true (.inl h)]
  · rw [if_neg (by omega)]; congr 1; rw [Bool.eq_iff_iff, beq_iff_eq, decide_eq_true_iff]; omega
theorem eq_nat (a b : Nat) : ((a : Int) == (b : Int)) = decide (a = b) := by rw [Bool.eq_iff_iff, beq_iff_eq, decide_eq_true_iff]; omega
theorem sgn_zero {a : Nat} (h : U a) (hz : cls a = 0) : a = sg (sgn a) := by
  have h1 := a_parts a h
  have h2 := (key_cls a).2.2.2.1 hz
  omega
theorem sv_eq (a : Nat) : sv a = if sgn a then -(mg a : Int) else mg a := rfl
theorem RND_self (a mode : Nat) (h : U a) (hf : cls a ≤ 2) : RND (sgn a) (2 * mg a) false mode = (a, 0) := by
  unfold mg
  rw [RND_exact _ _ _ ((key_cls a).1.1 hf), ← a_parts a h]
theorem sAdd_fin {a b : Nat} (mode : Nat) (ca : cls a ≤ 2) (cb : cls b ≤ 2) :
    sAdd a b mode = if sv a + sv b = 0 then (sg (if sgn a = sgn b then sgn a else decide (mode = 2)), 0) else RND (decide (sv a + sv b < 0)) (2 * (sv a + sv b).natAbs) false mode := by
  have c1 : ¬ (cls a = 4 ∨ cls b = 4) := by omega
  have c2 : ¬ (cls a = 3 ∧ cls b = 3 ∧ sgn a ≠ sgn b) := fun h => by have := h.1; omega
  have c3 : ¬ cls a = 3 := by omega
  have c4 : ¬ cls b = 3 := by omega
  unfold sAdd
  rw [if_neg c1, if_neg c2, if_neg c3, if_neg c4]
theorem sAdd_zero_left (a b mode : Nat) (hb : U b) (ca : cls a = 0) (cb : cls b ≤ 2) (cb0 : cls b ≠ 0) : sAdd a b mode = (b, 0) := by
  have m0 : mg a = 0 := (mg_zero a).2 ca
  have mb : mg b ≠ 0 := fun h => cb0 ((mg_zero b).1 h)
  have ha0 : sv a = 0 := by rw [sv_eq, m0]; split <;> rfl
  rw [sAdd_fin mode (by omega) cb, ha0, Int.zero_add, if_neg (by rw [sv_eq]; split <;> omega)]
  rw [← RND_self b mode hb cb]
  have e1 : decide (sv b < 0) = sgn b := by
    rw [sv_eq]; cases sgn b
    · rw [decide_eq_false]; simp
    · rw [decide_eq_true]; simp; omega
  have e2 : (sv b).natAbs = mg b := by rw [sv_eq]; split <;> omega
  rw [e1, e2]
theorem sAdd_zero_right (a b mode : Nat) (ha : U a) (cb : cls b = 0) (ca : cls a ≤ 2) (ca0 : cls a ≠ 0) : sAdd a b mode = (a, 0) := by
  have m0 : mg b = 0 := (mg_zero b).2 cb
  have ma : mg a ≠ 0 := fun h => ca0 ((mg_zero a).1 h)
  have hb0 : sv b = 0 := by rw [sv_eq, m0]; split <;> rfl
  rw [sAdd_fin mode ca (by omega), hb0, Int.add_zero, if_neg (by rw [sv_eq]; split <;> omega)]
  rw [← RND_self a mode ha ca]
  have e1 : decide (sv a < 0) = sgn a := by
    rw [sv_eq]; cases sgn a
    · rw [decide_eq_false]; simp
    · rw [decide_eq_true]; simp; omega
  have e2 : (sv a).natAbs = mg a := by rw [sv_eq]; split <;> omega
  rw [e1, e2]
theorem big_small (a b mode : Nat) (ca : cls a ≤ 2) (ca0 : cls a ≠ 0) (cb : cls b ≤ 2) (cb0 : cls b ≠ 0) (he : spe b ≤ spe a) (hge : spm b ≤ spm a * 2 ^ (spe a - spe b).toNat) :
    (if sgn a = sgn b then pr (RND (sgn a) (2 * ((spm a * 2 ^ (spe a - spe b).toNat + spm b) * 2 ^ (spe b + 1074).toNat)) false mode)
       else if spm a * 2 ^ (spe a - spe b).toNat = spm b then ((sg (decide (mode = 2)) : Int), 0)
       else pr (RND (sgn a) (2 * ((spm a * 2 ^ (spe a - spe b).toNat - spm b) * 2 ^ (spe b + 1074).toNat)) false mode)) = pr (sAdd a b mode) ∧
    sAdd a b mode = sAdd b a mode := by
  have hb := spe_bd b
  have h1 := mg_split a ca
  have h2 := mg_split b cb
  have ma : mg a ≠ 0 := fun h => ca0 ((mg_zero a).1 h)
  have mb : mg b ≠ 0 := fun h => cb0 ((mg_zero b).1 h)
  have e1 : 2 ^ (spe a + 1074).toNat = 2 ^ (spe a - spe b).toNat * 2 ^ (spe b + 1074).toNat := by rw [← Nat.pow_add]; congr 1; omega
  have h3 : mg a = spm a * 2 ^ (spe a - spe b).toNat * 2 ^ (spe b + 1074).toNat := by rw [h1, e1, Nat.mul_assoc]
  have pp := two_pos (spe b + 1074).toNat
  generalize 2 ^ (spe b + 1074).toNat = P at *
  generalize spm a * 2 ^ (spe a - spe b).toNat = A at *
  generalize spm b = B at *
  have hle : mg b ≤ mg a := by rw [h2, h3]; exact Nat.mul_le_mul_right _ hge
  have hadd : (A + B) * P = mg a + mg b := by rw [Nat.add_mul, h2, h3]
  have hsub : (A - B) * P = mg a - mg b := by rw [Nat.sub_mul, h2, h3]
  have heq : A = B ↔ mg a = mg b := by
    rw [h2, h3]
    exact ⟨fun h => by rw [h], fun h => Nat.eq_of_mul_eq_mul_right pp h⟩
  have swap : sAdd a b mode = sAdd b a mode := by
    rw [sAdd_fin mode ca cb, sAdd_fin mode cb ca, Int.add_comm (sv b)]
    have : (if sgn a = sgn b then sgn a else decide (mode = 2)) = (if sgn b = sgn a then sgn b else decide (mode = 2)) := by
      by_cases h : sgn a = sgn b
      · rw [if_pos h, if_pos h.symm, h]
      · rw [if_neg h, if_neg (Ne.symm h)]
    rw [this]
  refine ⟨?_, swap⟩
  rw [hadd, hsub, sAdd_fin mode ca cb]
  by_cases hs : sgn a = sgn b
  · have hsv : sv a + sv b = if sgn a then -((mg a + mg b : Nat) : Int) else ((mg a + mg b : Nat) : Int) := by
      rw [sv_eq, sv_eq, ← hs]; split <;> omega
    have hne : ¬ sv a + sv b = 0 := by rw [hsv]; split <;> omega
    rw [if_pos hs, if_neg hne]
    have e1 : decide (sv a + sv b < 0) = sgn a := by
      rw [hsv]; cases sgn a
      · rw [decide_eq_false]; simp; omega
      · rw [decide_eq_true]; simp; omega
    have e2 : (sv a + sv b).natAbs = mg a + mg b := by rw [hsv]; split <;> omega
    rw [e1, e2]
  · have hb2 : sgn b = !sgn a := by revert hs; cases sgn a <;> cases sgn b <;> simp
    have hsv : sv a + sv b = if sgn a then -((mg a - mg b : Nat) : Int) else ((mg a - mg b : Nat) : Int) := by
      rw [sv_eq, sv_eq, hb2]; cases sgn a <;> simp <;> omega
    rw [if_neg hs]
    by_cases hz : A = B
    · have hz' := heq.1 hz
      rw [if_pos hz, if_pos (by rw [hsv, hz']; split <;> omega), if_neg hs]; rfl
    · have hz' : ¬ mg a = mg b := fun h => hz (heq.2 h)
      have hne : ¬ sv a + sv b = 0 := by rw [hsv]; split <;> omega
      rw [if_neg hz, if_neg hne]
      have e1 : decide (sv a + sv b < 0) = sgn a := by
        rw [hsv]; cases sgn a
        · rw [decide_eq_false]; simp
        · rw [decide_eq_true]; simp; omega
      have e2 : (sv a + sv b).natAbs = mg a - mg b := by rw [hsv]; split <;> omega
      rw [e1, e2]
theorem spe_cls (a : Nat) (h : cls a ≤ 2) (h2 : -1074 < spe a) (h0 : cls a ≠ 0) : 4503599627370496 ≤ spm a := by
  unfold spe at h2; unfold spm
  split
  · omega
  · rename_i c; rw [if_neg c] at h2; split at h2 <;> omega
theorem add_big (a b mode : Nat) (k0 : cls a ≤ 2) (ca0 : cls a ≠ 0) (cb : cls b ≤ 2) (cb0 : cls b ≠ 0) (h : spe b < spe a ∨ spe a = spe b ∧ spm b ≤ spm a) (fa fb xa xb : Int) :
    Ev (fun k => soft_num_add.f k fa xa (sgn a) (spm a : Int) (spe a) fb xb (sgn b) (spm b : Int) (spe b) (mode : Int)) (pr (sAdd a b mode)) ∧ sAdd a b mode = sAdd b a mode := by
  have ha := spe_bd a
  have hb := spe_bd b
  have ma : spm a ≠ 0 := fun h => ca0 ((spm_zero a k0).1 h)
  have mb : spm b ≠ 0 := fun h => cb0 ((spm_zero b cb).1 h)
  have N := num_add_ev fa fb xa xb (sgn a) (sgn b) (spm a) (spm b) (spe a) (spe b) mode (by omega) (spm_lt a) (by omega) (spm_lt b) hb.1 (by omega) ha.2 (by omega) (fun h => spe_cls a k0 h ca0)
  have B := big_small a b mode k0 ca0 cb cb0 (by omega) N.1
  rw [B.1] at N
  exact ⟨N.2, B.2⟩
theorem Add_ev (a b mode : Nat) (ha : U a) (hb : U b) : Ev (fun k => soft_Add.f k (a : Int) (b : Int) (mode : Int)) (pr (sAdd a b mode)) := by
  have la := cls_le a
  have lb := cls_le b
  have m2 : ((mode : Int) == 2) = decide (mode = 2) := eq_nat mode 2
  have ne : (sgn a != sgn b) = decide (sgn a ≠ sgn b) := by rw [Bool.eq_iff_iff, bne_iff_ne, decide_eq_true_iff]
  have za : ((spm a : Int) == 0) = decide (spm a = 0) := eq_nat _ 0
  have zb : ((spm b : Int) == 0) = decide (spm b = 0) := eq_nat _ 0
  unfold soft_Add.f
  refine Ev.b _ (of_ev a ha) (Ev.b _ (of_ev b hb) ?_)
  dsimp only
  have E4 := either_ok (a : Int) (cls a) (sgn a) (spm a : Int) (spe a) (b : Int) (cls b) (sgn b) (spm b : Int) (spe b) 4
  refine Ev.b _ (Ev.const E4) ?_
  by_cases c4 : cls a = 4 ∨ cls b = 4
  · have hS : sAdd a b mode = (QN, 0) := by unfold sAdd; rw [if_pos c4]
    rw [hS, decide_eq_true c4]
    exact Ev.congr (fun k => by rw [if_pos rfl]) (Ev.b (f := fun _ x => some (x, (0 : Int))) _ (Ev.const (show pattern_Quiet.f = some (QN : Int) from rfl)) (Ev.now _))
  rw [decide_eq_false c4]
  have J2 : cls a ≤ 2 → cls b ≤ 2 → ¬ (cls a = 0 ∧ cls b = 0 ∧ sgn a = sgn b) → Ev (fun k => soft_Add.j2 k (a : Int) (b : Int) (mode : Int) (if spm a = 0 then decide (spm b = 0) else false) (a : Int) (cls a : Int) (sgn a) (spm a : Int) (spe a) (b : Int) (cls b : Int) (sgn b) (spm b : Int) (spe b)) (pr (sAdd a b mode)) := by
    intro ka kb hn
    have sa := spm_zero a ka
    have sb := spm_zero b kb
    refine Ev.next ?_
    simp only [soft_Add.j2]
    rw [m2]
    by_cases a0 : cls a = 0
    · by_cases b0 : cls b = 0
      · have hS : sAdd a b mode = (sg (decide (mode = 2)), 0) := by
          have m0 : mg a = 0 := (mg_zero a).2 a0
          have m1 : mg b = 0 := (mg_zero b).2 b0
          rw [sAdd_fin mode ka kb, if_pos (by rw [sv_eq, sv_eq, m0, m1]; split <;> split <;> rfl), if_neg (fun h => hn ⟨a0, b0, h⟩)]
        rw [hS, if_pos (sa.2 a0), decide_eq_true (sb.2 b0)]
        exact Ev.congr (fun k => by rw [if_pos rfl]) (Ev.b (f := fun _ x => some (x, (0 : Int))) _ (zero_ev _) (Ev.now _))
      · have sb' : ¬ spm b = 0 := fun h => b0 (sb.1 h)
        rw [sAdd_zero_left a b mode hb a0 kb b0, if_pos (sa.2 a0), decide_eq_false sb']
        have : (spm a : Int) = 0 := by rw [sa.2 a0]; rfl
        exact Ev.all fun k => by rw [if_neg (by simp), if_pos this]; rfl
    · have sa' : ¬ spm a = 0 := fun h => a0 (sa.1 h)
      have sa2 : ¬ (spm a : Int) = 0 := by omega
      rw [if_neg sa']
      by_cases b0 : cls b = 0
      · have : (spm b : Int) = 0 := by rw [sb.2 b0]; rfl
        rw [sAdd_zero_right a b mode ha b0 ka a0]
        exact Ev.all fun k => by rw [if_neg (by simp), if_neg sa2, if_pos this]; rfl
      · have sb2 : ¬ (spm b : Int) = 0 := by have : ¬ spm b = 0 := fun h => b0 (sb.1 h); omega
        by_cases h1 : spe a < spe b
        · have A := add_big b a mode kb b0 ka a0 (.inl h1) (b : Int) (a : Int) (cls b : Int) (cls a : Int)
          rw [A.2] at A
          exact Ev.congr (fun k => by rw [if_neg (by simp), if_neg sa2, if_neg sb2, if_pos h1]) (Ev.b (f := fun _ x => some (x.1, x.2)) _ A.1 (Ev.now _))
        · by_cases h2 : spe a = spe b
          · by_cases h3 : (spm a : Int) < (spm b : Int)
            · have A := add_big b a mode kb b0 ka a0 (.inr ⟨h2.symm, by omega⟩) (b : Int) (a : Int) (cls b : Int) (cls a : Int)
              rw [A.2] at A
              exact Ev.congr (fun k => by rw [if_neg (by simp), if_neg sa2, if_neg sb2, if_neg h1, if_pos h2, if_pos h3]) (Ev.b (f := fun _ x => some (x.1, x.2)) _ A.1 (Ev.now _))
            · have A := add_big a b mode ka a0 kb b0 (.inr ⟨h2, by omega⟩) (a : Int) (b : Int) (cls a : Int) (cls b : Int)
              exact Ev.congr (fun k => by rw [if_neg (by simp), if_neg sa2, if_neg sb2, if_neg h1, if_pos h2, if_neg h3]) (Ev.b (f := fun _ x => some (x.1, x.2)) _ A.1 (Ev.now _))
          · have A := add_big a b mode ka a0 kb b0 (.inl (by omega)) (a : Int) (b : Int) (cls a : Int) (cls b : Int)
            exact Ev.congr (fun k => by rw [if_neg (by simp), if_neg sa2, if_neg sb2, if_neg h1, if_neg h2]) (Ev.b (f := fun _ x => some (x.1, x.2)) _ A.1 (Ev.now _))
  have J1 : cls a ≤ 2 → cls b ≤ 2 → Ev (fun k => soft_Add.j1 k (a : Int) (b : Int) (mode : Int) (if spm a = 0 then (if spm b = 0 then sgn a == sgn b else false) else false) (a : Int) (cls a : Int) (sgn a) (spm a : Int) (spe a) (b : Int) (cls b : Int) (sgn b) (spm b : Int) (spe b)) (pr (sAdd a b mode)) := by
    intro ka kb
    have sa := spm_zero a ka
    have sb := spm_zero b kb
    refine Ev.next ?_
    simp only [soft_Add.j1]
    by_cases z : cls a = 0 ∧ cls b = 0 ∧ sgn a = sgn b
    · obtain ⟨z1, z2, z3⟩ := z
      have hS : sAdd a b mode = (a, 0) := by
        have m0 : mg a = 0 := (mg_zero a).2 z1
        have m1 : mg b = 0 := (mg_zero b).2 z2
        rw [sAdd_fin mode ka kb, if_pos (by rw [sv_eq, sv_eq, m0, m1]; split <;> split <;> rfl), if_pos z3, ← sgn_zero ha z1]
      rw [hS, if_pos (sa.2 z1), if_pos (sb.2 z2), beq_iff_eq.2 z3]
      exact Ev.all fun k => by rw [if_pos rfl]; rfl
    · have hb0 : (if spm a = 0 then (if spm b = 0 then sgn a == sgn b else false) else false) = false := by
        split
        · split
          · rw [beq_eq_false_iff_ne]; intro h; exact z ⟨sa.1 (by assumption), sb.1 (by assumption), h⟩
          · rfl
        · rfl
      rw [hb0]
      have J := J2 ka kb z
      rw [zb]
      by_cases a0 : spm a = 0
      · rw [if_pos a0] at J
        exact Ev.congr (fun k => by rw [if_neg (by simp), if_pos (by omega)]) J
      · rw [if_neg a0] at J
        exact Ev.congr (fun k => by rw [if_neg (by simp), if_neg (by omega)]) J
  have J0 : Ev (fun k => soft_Add.j0 k (a : Int) (b : Int) (mode : Int) (if cls a = 3 then (if cls b = 3 then sgn a != sgn b else false) else false) (a : Int) (cls a : Int) (sgn a) (spm a : Int) (spe a) (b : Int) (cls b : Int) (sgn b) (spm b : Int) (spe b)) (pr (sAdd a b mode)) := by
    refine Ev.next ?_
    simp only [soft_Add.j0]
    by_cases a3 : cls a = 3
    · rw [if_pos a3]
      by_cases b3 : cls b = 3
      · rw [if_pos b3, ne]
        by_cases hs : sgn a = sgn b
        · have hS : sAdd a b mode = (a, 0) := by unfold sAdd; rw [if_neg c4, if_neg (by intro h; exact h.2.2 hs), if_pos a3]
          rw [hS, decide_eq_false (by intro h; exact h hs)]
          exact Ev.all fun k => by rw [if_neg (by simp), if_pos (by omega)]; rfl
        · have hS : sAdd a b mode = (QN, 16) := by unfold sAdd; rw [if_neg c4, if_pos ⟨a3, b3, hs⟩]
          rw [hS, decide_eq_true hs]
          exact Ev.all fun k => by rw [if_pos rfl]; rfl
      · have hS : sAdd a b mode = (a, 0) := by unfold sAdd; rw [if_neg c4, if_neg (by omega), if_pos a3]
        rw [hS, if_neg b3]
        exact Ev.all fun k => by rw [if_neg (by simp), if_pos (by omega)]; rfl
    · rw [if_neg a3]
      by_cases b3 : cls b = 3
      · have hS : sAdd a b mode = (b, 0) := by unfold sAdd; rw [if_neg c4, if_neg (by omega), if_neg a3, if_pos b3]
        rw [hS]
        exact Ev.all fun k => by rw [if_neg (by simp), if_neg (by omega), if_pos (by omega)]; rfl
      · have J := J1 (by omega) (by omega)
        by_cases a0 : spm a = 0
        · rw [if_pos a0] at J
          by_cases b0 : spm b = 0
          · rw [if_pos b0] at J
            exact Ev.congr (fun k => by rw [if_neg (by simp), if_neg (by omega), if_neg (by omega), if_pos (by omega), if_pos (by omega)]) J
          · rw [if_neg b0] at J
            exact Ev.congr (fun k => by rw [if_neg (by simp), if_neg (by omega), if_neg (by omega), if_pos (by omega), if_neg (by omega)]) J
        · rw [if_neg a0] at J
          exact Ev.congr (fun k => by rw [if_neg (by simp), if_neg (by omega), if_neg (by omega), if_neg (by omega)]) J
  by_cases a3 : cls a = 3
  · rw [if_pos a3] at J0
    by_cases b3 : cls b = 3
    · rw [if_pos b3] at J0
      exact Ev.congr (fun k => by rw [if_neg (by simp), if_pos (by omega), if_pos (by omega)]) J0
    · rw [if_neg b3] at J0
      exact Ev.congr (fun k => by rw [if_neg (by simp), if_pos (by omega), if_neg (by omega)]) J0
  · rw [if_neg a3] at J0
    exact Ev.congr (fun k => by rw [if_neg (by simp), if_neg (by omega)]) J0
theorem Sub_ev (a b mode : Nat) (ha : U a) (hb : U b) : Ev (fun k => soft_Sub.f k (a : Int) (b : Int) (mode : Int)) (pr (sAdd a (ng b) mode)) := by
  unfold soft_Sub.f
  exact Ev.b _ (Neg_ev b hb) (Ev.b (f := fun _ x => some (x.1, x.2)) _ (Add_ev a (ng b) mode ha (ng_U b hb)) (Ev.now _))
end Go.Proofs.Ytmadjhmecfbcmaa.M
end
section
namespace Go.Proofs.Ytmadjhmecfbcmaa.M
open Go.RowKit Go.Proofs.YtmadjhmecfbcmaaW.PrintWords Go.Proofs.YtmadjhmecfbcmaaW.PrintLast Go.Proofs.YtmadjhmecfbcmaaW.PrintMore Go.Proofs.Ytmadjhmecfbcmaa.F
theorem ne_sgn (a b : Nat) : (sgn a != sgn b) = decide (sgn a ≠ sgn b) := by rw [Bool.eq_iff_iff, bne_iff_ne, decide_eq_true_iff]
theorem Quiet_ok : pattern_Quiet.f = some (QN : Int) := rfl
theorem invalid_ok : soft_invalid.f = some ((QN : Int), 16) := rfl
theorem wMul_ok (x y : Nat) (hx : x < 18446744073709551616) (hy : y < 18446744073709551616) : wide_Mul.f (x : Int) (y : Int) = some ((tw (x * y)).1, (tw (x * y)).2) := by
  unfold wide_Mul.f bits_Mul64.f
  rw [if_pos (by omega)]
  unfold tw
  simp only [Option.bind_some]
  rw [← Int.natCast_mul]
  congr 1
theorem Mul_ev (a b mode : Nat) (ha : U a) (hb : U b) : Ev (fun k => soft_Mul.f k (a : Int) (b : Int) (mode : Int)) (pr (sMul a b mode)) := by
  unfold soft_Mul.f
  refine Ev.b _ (of_ev a ha) (Ev.b _ (of_ev b hb) ?_)
  dsimp only
  have E := fun c => either_ok (a : Int) (cls a) (sgn a) (spm a : Int) (spe a) (b : Int) (cls b) (sgn b) (spm b : Int) (spe b) c
  have E4 := E 4
  have E3 := E 3
  have E0 := E 0
  rw [show ((4 : Nat) : Int) = 4 from rfl] at E4
  rw [show ((3 : Nat) : Int) = 3 from rfl] at E3
  rw [show ((0 : Nat) : Int) = 0 from rfl] at E0
  refine Ev.b _ (Ev.const E4) ?_
  by_cases c4 : cls a = 4 ∨ cls b = 4
  · have hS : sMul a b mode = (QN, 0) := by unfold sMul; rw [if_pos c4]
    rw [hS, decide_eq_true c4]
    exact Ev.congr (fun k => by rw [if_pos rfl]) (Ev.b (f := fun _ x => some (x, (0 : Int))) _ (Ev.const Quiet_ok) (Ev.now _))
  rw [decide_eq_false c4]
  have J : Ev (fun k => soft_Mul.j0 k (mode : Int) (sgn a != sgn b) (if cls a = 3 ∨ cls b = 3 then decide (cls a = 0 ∨ cls b = 0) else false) (a : Int) (cls a : Int) (sgn a) (spm a : Int) (spe a) (b : Int) (cls b : Int) (sgn b) (spm b : Int) (spe b)) (pr (sMul a b mode)) := by
    refine Ev.next ?_
    simp only [soft_Mul.j0]
    by_cases c3 : cls a = 3 ∨ cls b = 3
    · rw [if_pos c3]
      by_cases c0 : cls a = 0 ∨ cls b = 0
      · have hS : sMul a b mode = (QN, 16) := by unfold sMul; rw [if_neg c4, if_pos (show cls a = 3 ∧ cls b = 0 ∨ cls a = 0 ∧ cls b = 3 by omega)]
        rw [hS, decide_eq_true c0]
        exact Ev.congr (fun k => by rw [if_pos rfl]) (Ev.b (f := fun _ x => some (x.1, x.2)) _ (Ev.const invalid_ok) (Ev.now _))
      · have hS : sMul a b mode = (sg (sgn a != sgn b) + INF, 0) := by unfold sMul; rw [if_neg c4, if_neg (show ¬ (cls a = 3 ∧ cls b = 0 ∨ cls a = 0 ∧ cls b = 3) by omega), if_pos c3]
        rw [hS, decide_eq_false c0]
        refine Ev.congr (fun k => by rw [if_neg (by simp)]) (Ev.b _ (Ev.const E3) ?_)
        rw [decide_eq_true c3]
        exact Ev.congr (fun k => by rw [if_pos rfl]) (Ev.b (f := fun _ x => some (x, (0 : Int))) _ (Inf_ev _) (Ev.now _))
    · have c0 : ¬ (cls a = 3 ∧ cls b = 0 ∨ cls a = 0 ∧ cls b = 3) := by omega
      have la := spm_lt a
      have lb := spm_lt b
      have ea := spe_bd a
      have eb := spe_bd b
      have hM : spm a * spm b < 340282366920938463463374607431768211456 := by
        have h1 : spm a * spm b ≤ 9007199254740992 * spm b := Nat.mul_le_mul_right _ (by omega)
        have h2 : 9007199254740992 * spm b ≤ 9007199254740992 * 9007199254740992 := Nat.mul_le_mul_left _ (by omega)
        omega
      have R := Round_ev (sgn a != sgn b) (spm a * spm b) (spe a + spe b) false mode hM
      rw [cl_id (by omega) (by omega), Bool.false_and] at R
      have hS : (if spm a * spm b = 0 then ((sg (sgn a != sgn b) : Int), (0 : Int)) else pr (RND (sgn a != sgn b) (FX (spm a * spm b) 1 (spe a + spe b)) (FS (spm a * spm b) 1 (spe a + spe b) false) mode)) = pr (sMul a b mode) := by
        unfold sMul; rw [if_neg c4, if_neg c0, if_neg c3]
        by_cases z : spm a * spm b = 0
        · rw [if_pos z, if_pos z]; rfl
        · rw [if_neg z, if_neg z]
      rw [hS] at R
      have w1 : wrap64 (spe a + spe b) = spe a + spe b := w64 (by omega) (by omega)
      rw [if_neg c3]
      refine Ev.congr (fun k => by rw [if_neg (by simp)]) (Ev.b _ (Ev.const E3) ?_)
      rw [decide_eq_false c3]
      refine Ev.congr (fun k => by rw [if_neg (by simp)]) (Ev.b _ (Ev.const (wMul_ok _ _ (by omega) (by omega))) ?_)
      dsimp only
      rw [w1]
      exact Ev.b (f := fun _ x => some (x.1, x.2)) _ R (Ev.now _)
  refine Ev.congr (fun k => by rw [if_neg (by simp)]) (Ev.b _ (Ev.const E3) ?_)
  by_cases c3 : cls a = 3 ∨ cls b = 3
  · rw [if_pos c3] at J
    rw [decide_eq_true c3]
    refine Ev.congr (fun k => by rw [if_pos rfl]) (Ev.b _ (Ev.const E0) ?_)
    exact J
  · rw [if_neg c3] at J
    rw [decide_eq_false c3]
    exact Ev.congr (fun k => by rw [if_neg (by simp)]) J
theorem Div64_ok (x y z : Nat) (h1 : x < z) (h2 : z < 18446744073709551616) (h3 : y < 18446744073709551616) :
    bits_Div64.f (x : Int) (y : Int) (z : Int) = some ((((x * 18446744073709551616 + y) / z : Nat) : Int), (((x * 18446744073709551616 + y) % z : Nat) : Int)) := by
  unfold bits_Div64.f
  rw [if_pos (by omega), Int.natCast_ediv, Int.natCast_emod, Int.natCast_add, Int.natCast_mul]; rfl
theorem U128_Div (hi z : Nat) (h1 : hi < 18446744073709551616) (hz : 0 < z) (h2 : z < 18446744073709551616) :
    wide_U128_Div.f (hi : Int) 0 (z : Int) = some ((tw (hi * 18446744073709551616 / z)).1, (tw (hi * 18446744073709551616 / z)).2, ((hi * 18446744073709551616 % z : Nat) : Int)) := by
  have hm := Nat.mod_lt hi hz
  have hl : hi % z * 18446744073709551616 / z < 18446744073709551616 := by
    rw [Nat.div_lt_iff_lt_mul hz, Nat.mul_comm 18446744073709551616]
    exact Nat.mul_lt_mul_of_pos_right hm (by decide)
  have e : hi * 18446744073709551616 = hi % z * 18446744073709551616 + z * (hi / z * 18446744073709551616) := by
    have := Nat.div_add_mod hi z
    have h4 : hi * 18446744073709551616 = (z * (hi / z) + hi % z) * 18446744073709551616 := by rw [this]
    rw [h4, Nat.add_mul]; grind
  have eq : hi * 18446744073709551616 / z = hi / z * 18446744073709551616 + hi % z * 18446744073709551616 / z := by
    rw [e, Nat.add_mul_div_left _ _ hz, Nat.add_comm]
  have er : hi * 18446744073709551616 % z = hi % z * 18446744073709551616 % z := by
    rw [e, Nat.add_mul_mod_self_left]
  unfold wide_U128_Div.f
  have D1 := Div64_ok 0 hi z hz h2 h1
  rw [Nat.zero_mul, Nat.zero_add] at D1
  have D2 := Div64_ok (hi % z) 0 z hm h2 (by decide)
  rw [Nat.add_zero] at D2
  rw [if_neg (by omega), bind_of _ (show bits_Div64.f 0 (hi : Int) (z : Int) = _ from D1)]
  dsimp only
  rw [bind_of _ (show bits_Div64.f ((hi % z : Nat) : Int) 0 (z : Int) = _ from D2), eq, er, tw_join _ _ hl]
theorem dv1 {b x : Nat} (h1 : b < 9007199254740992) (h2 : 9223372036854775808 ≤ x) : 9007199254740992 * b ≤ x * 18446744073709551616 := by omega
theorem Div_ev (a b mode : Nat) (ha : U a) (hb : U b) : Ev (fun k => soft_Div.f k (a : Int) (b : Int) (mode : Int)) (pr (sDiv a b mode)) := by
  unfold soft_Div.f
  refine Ev.b _ (of_ev a ha) (Ev.b _ (of_ev b hb) ?_)
  dsimp only
  have E4 := either_ok (a : Int) (cls a) (sgn a) (spm a : Int) (spe a) (b : Int) (cls b) (sgn b) (spm b : Int) (spe b) 4
  rw [show ((4 : Nat) : Int) = 4 from rfl] at E4
  refine Ev.b _ (Ev.const E4) ?_
  have a0e : ((cls a : Int) == 0) = decide (cls a = 0) := eq_nat _ 0
  have b3e : ((cls b : Int) == 3) = decide (cls b = 3) := eq_nat _ 3
  by_cases c4 : cls a = 4 ∨ cls b = 4
  · have hS : sDiv a b mode = (QN, 0) := by unfold sDiv; rw [if_pos c4]
    rw [hS, decide_eq_true c4]
    exact Ev.congr (fun k => by rw [if_pos rfl]) (Ev.b (f := fun _ x => some (x, (0 : Int))) _ (Ev.const Quiet_ok) (Ev.now _))
  rw [decide_eq_false c4, a0e]
  have J1 : ¬ (cls a = 3 ∧ cls b = 3 ∨ cls a = 0 ∧ cls b = 0) → ¬ cls a = 3 → ¬ cls b = 0 → Ev (fun k => soft_Div.j1 k (mode : Int) (sgn a != sgn b) (decide (cls a = 0 ∨ cls b = 3)) (a : Int) (cls a : Int) (sgn a) (spm a : Int) (spe a) (b : Int) (cls b : Int) (sgn b) (spm b : Int) (spe b)) (pr (sDiv a b mode)) := by
    intro n1 n2 n3
    refine Ev.next ?_
    simp only [soft_Div.j1]
    by_cases c : cls a = 0 ∨ cls b = 3
    · have hS : sDiv a b mode = (sg (sgn a != sgn b), 0) := by unfold sDiv; rw [if_neg c4, if_neg n1, if_neg n2, if_neg n3, if_pos c]
      rw [hS, decide_eq_true c]
      exact Ev.congr (fun k => by rw [if_pos rfl]) (Ev.b (f := fun _ x => some (x, (0 : Int))) _ (zero_ev _) (Ev.now _))
    · have ka : cls a ≤ 2 := by have := cls_le a; omega
      have kb : cls b ≤ 2 := by have := cls_le b; omega
      have za : spm a ≠ 0 := fun h => by have := (spm_zero a ka).1 h; omega
      have zb : spm b ≠ 0 := fun h => by have := (spm_zero b kb).1 h; omega
      have la := spm_lt a
      have lb := spm_lt b
      have ea := spe_bd a
      have eb := spe_bd b
      have hbl := bl_bd (spm a) za
      have hbl2 : bl (spm a) ≤ 53 := bl_le (n := 53) la
      have L : wide_U128_Len.f 0 (spm a : Int) = some (bl (spm a) : Int) := by
        have := Len_tw (spm a) (by omega)
        rw [tw_word (by omega)] at this; exact this
      obtain ⟨sh', hsh⟩ : ∃ n : Nat, n = 64 - bl (spm a) := ⟨_, rfl⟩
      have w1 : wrap64 (64 - (bl (spm a) : Int)) = (sh' : Int) := by rw [w64 (by omega) (by omega)]; omega
      have hx : spm a * 2 ^ sh' < 18446744073709551616 := by
        have : spm a * 2 ^ sh' < 2 ^ bl (spm a) * 2 ^ sh' := Nat.mul_lt_mul_of_pos_right hbl.2.2 (two_pos _)
        rw [← Nat.pow_add, show bl (spm a) + sh' = 64 by omega] at this; exact this
      have hx2 : 9223372036854775808 ≤ spm a * 2 ^ sh' := by
        have : 2 ^ (bl (spm a) - 1) * 2 ^ sh' ≤ spm a * 2 ^ sh' := Nat.mul_le_mul_right _ hbl.2.1
        rw [← Nat.pow_add, show bl (spm a) - 1 + sh' = 63 by omega] at this; exact this
      have S : shl .u64 (spm a : Int) (sh' : Int) = ((spm a * 2 ^ sh' : Nat) : Int) := by rw [shl_nat _ _ (by omega), Nat.mod_eq_of_lt hx]
      have D := U128_Div (spm a * 2 ^ sh') (spm b) hx (by omega) (by omega)
      have hA : spm a * 2 ^ sh' * 18446744073709551616 = spm a * 2 ^ (sh' + 64) := by rw [Nat.pow_add, Nat.mul_assoc]
      have hq1 : 9007199254740992 ≤ spm a * 2 ^ sh' * 18446744073709551616 / spm b := by
        rw [Nat.le_div_iff_mul_le (by omega)]
        exact dv1 lb hx2
      have hq2 : spm a * 2 ^ sh' * 18446744073709551616 / spm b < 340282366920938463463374607431768211456 := by
        exact Nat.lt_of_le_of_lt (Nat.div_le_self _ _) (Nat.mul_lt_mul_of_pos_right hx (by decide))
      obtain ⟨A, hAA⟩ : ∃ A, spm a * 2 ^ sh' * 18446744073709551616 = A := ⟨_, rfl⟩
      rw [hAA] at D hA hq1 hq2
      have w2 : wrap64 (wrap64 (wrap64 (spe a - (sh' : Int)) - 64) - spe b) = spe a - spe b - (sh' + 64 : Nat) := by
        rw [w64 (n := spe a - (sh' : Int)) (by omega) (by omega), w64 (n := spe a - (sh' : Int) - 64) (by omega) (by omega), w64 (by omega) (by omega)]; omega
      have hbl54 : 53 < bl (A / spm b) := by
        by_cases c9 : bl (A / spm b) ≤ 53
        · have := bl_small c9; omega
        · omega
      have hl : (((A % spm b : Nat) : Int) != 0) = decide (A % spm b ≠ 0) := by rw [Bool.eq_iff_iff, bne_iff_ne, decide_eq_true_iff]; omega
      have R := Round_ev (sgn a != sgn b) (A / spm b) (spe a - spe b - (sh' + 64 : Nat)) (decide (A % spm b ≠ 0)) mode hq2
      rw [if_neg (by omega), cl_id (by omega) (by omega), decide_eq_true hbl54, Bool.and_true] at R
      have T := two_step (sgn a != sgn b) A (spm b) (spe a - spe b - (sh' + 64 : Nat)) mode (by omega) (.inr hq1)
      have K := FXS_scale (spm a) (spm b) (sh' + 64) (spe a - spe b) false
      rw [← hA] at K
      rw [T, K.1, K.2] at R
      have hS : RND (sgn a != sgn b) (FX (spm a) (spm b) (spe a - spe b)) (FS (spm a) (spm b) (spe a - spe b) false) mode = sDiv a b mode := by
        unfold sDiv; rw [if_neg c4, if_neg n1, if_neg n2, if_neg n3, if_neg c]
      rw [hS] at R
      rw [decide_eq_false c]
      refine Ev.congr (fun k => by rw [if_neg (by simp)]) (Ev.b _ (Ev.const L) ?_)
      rw [w1, S]
      refine Ev.congr (fun k => by rw [if_pos (by omega)]) (Ev.b _ (Ev.const D) ?_)
      dsimp only
      rw [w2, hl]
      exact Ev.b (f := fun _ x => some (x.1, x.2)) _ R (Ev.now _)
  have J0 : Ev (fun k => soft_Div.j0 k (mode : Int) (sgn a != sgn b) (decide (cls a = 3 ∧ cls b = 3 ∨ cls a = 0 ∧ cls b = 0)) (a : Int) (cls a : Int) (sgn a) (spm a : Int) (spe a) (b : Int) (cls b : Int) (sgn b) (spm b : Int) (spe b)) (pr (sDiv a b mode)) := by
    refine Ev.next ?_
    simp only [soft_Div.j0]
    rw [a0e, b3e]
    by_cases n1 : cls a = 3 ∧ cls b = 3 ∨ cls a = 0 ∧ cls b = 0
    · have hS : sDiv a b mode = (QN, 16) := by unfold sDiv; rw [if_neg c4, if_pos n1]
      rw [hS, decide_eq_true n1]
      exact Ev.congr (fun k => by rw [if_pos rfl]) (Ev.b (f := fun _ x => some (x.1, x.2)) _ (Ev.const invalid_ok) (Ev.now _))
    rw [decide_eq_false n1]
    by_cases n2 : cls a = 3
    · have hS : sDiv a b mode = (sg (sgn a != sgn b) + INF, 0) := by unfold sDiv; rw [if_neg c4, if_neg n1, if_pos n2]
      rw [hS]
      exact Ev.congr (fun k => by rw [if_neg (by simp), if_pos (by omega)]) (Ev.b (f := fun _ x => some (x, (0 : Int))) _ (Inf_ev _) (Ev.now _))
    by_cases n3 : cls b = 0
    · have hS : sDiv a b mode = (sg (sgn a != sgn b) + INF, 8) := by unfold sDiv; rw [if_neg c4, if_neg n1, if_neg n2, if_pos n3]
      rw [hS]
      exact Ev.congr (fun k => by rw [if_neg (by simp), if_neg (by omega), if_pos (by omega)]) (Ev.b (f := fun _ x => some (x, (8 : Int))) _ (Inf_ev _) (Ev.now _))
    have J := J1 n1 n2 n3
    by_cases a0 : cls a = 0
    · rw [decide_eq_true (.inl a0)] at J
      rw [decide_eq_true a0]
      exact Ev.congr (fun k => by rw [if_neg (by simp), if_neg (by omega), if_neg (by omega), if_pos (by omega)]) J
    · rw [show decide (cls a = 0 ∨ cls b = 3) = decide (cls b = 3) by rw [Bool.eq_iff_iff, decide_eq_true_iff, decide_eq_true_iff]; omega] at J
      exact Ev.congr (fun k => by rw [if_neg (by simp), if_neg (by omega), if_neg (by omega), if_neg (by omega)]) J
  by_cases h1 : cls a = cls b
  · by_cases h2 : cls a = 3
    · rw [decide_eq_true (show cls a = 3 ∧ cls b = 3 ∨ cls a = 0 ∧ cls b = 0 by omega)] at J0
      exact Ev.congr (fun k => by rw [if_neg (by simp), if_pos (by omega), if_pos (by omega)]) J0
    · rw [show decide (cls a = 3 ∧ cls b = 3 ∨ cls a = 0 ∧ cls b = 0) = decide (cls a = 0) by rw [Bool.eq_iff_iff, decide_eq_true_iff, decide_eq_true_iff]; omega] at J0
      exact Ev.congr (fun k => by rw [if_neg (by simp), if_pos (by omega), if_neg (by omega)]) J0
  · rw [decide_eq_false (show ¬ (cls a = 3 ∧ cls b = 3 ∨ cls a = 0 ∧ cls b = 0) by omega)] at J0
    exact Ev.congr (fun k => by rw [if_neg (by simp), if_neg (by omega)]) J0
end Go.Proofs.Ytmadjhmecfbcmaa.M
end
section
namespace Go.Proofs.Ytmadjhmecfbcmaa.M
open Go.RowKit Go.Proofs.YtmadjhmecfbcmaaW.PrintWords Go.Proofs.YtmadjhmecfbcmaaW.PrintLast Go.Proofs.YtmadjhmecfbcmaaW.PrintMore Go.Proofs.Ytmadjhmecfbcmaa.F
def isqA (a : Nat) : Nat → Nat → Nat
  | 0, r => r
  | j + 1, r => if (r + 2 ^ j) * (r + 2 ^ j) ≤ a then isqA a j (r + 2 ^ j) else isqA a j r
def isq (a : Nat) : Nat := isqA a 64 0
theorem isqA_spec (a : Nat) : ∀ (j r : Nat), r * r ≤ a → a < (r + 2 ^ j) * (r + 2 ^ j) → isqA a j r * isqA a j r ≤ a ∧ a < (isqA a j r + 1) * (isqA a j r + 1) ∧ r ≤ isqA a j r ∧ isqA a j r < r + 2 ^ j
  | 0, r, h1, h2 => by unfold isqA; rw [Nat.pow_zero] at h2 ⊢; exact ⟨h1, h2, Nat.le_refl _, by omega⟩
  | j + 1, r, h1, h2 => by
    unfold isqA
    have e : 2 ^ (j + 1) = 2 ^ j + 2 ^ j := by rw [Nat.pow_succ]; omega
    have p := two_pos j
    split
    · rename_i c
      have := isqA_spec a j (r + 2 ^ j) c (by rw [Nat.add_assoc, ← e]; exact h2)
      omega
    · rename_i c
      have := isqA_spec a j r h1 (by omega)
      omega
theorem isq_spec (a : Nat) (h : a < 340282366920938463463374607431768211456) : isq a * isq a ≤ a ∧ a < (isq a + 1) * (isq a + 1) ∧ isq a < 18446744073709551616 := by
  have := isqA_spec a 64 0 (by omega) (by simp; omega)
  unfold isq
  refine ⟨this.1, this.2.1, ?_⟩
  have h2 := this.2.2.2
  rw [Nat.zero_add] at h2; exact h2
theorem Cmp_tw (p q : Nat) : wide_U128_Cmp.f (tw p).1 (tw p).2 (tw q).1 (tw q).2 = some (if p < q then -1 else if q < p then 1 else 0) := by
  unfold wide_U128_Cmp.f tw
  dsimp only
  congr 1
  (repeat' split) <;> omega
theorem Sqrt_l (a : Nat) (ha : a < 340282366920938463463374607431768211456) : ∀ (j r : Nat), r % 2 ^ j = 0 → r + 2 ^ j ≤ 18446744073709551616 → r * r ≤ a →
    Ev (fun k => wide_U128_Sqrt.l0 k (r : Int) ((2 ^ j / 2 : Nat) : Int) (tw a).1 (tw a).2) ((isqA a j r : Int), (tw (a - isqA a j r * isqA a j r)).1, (tw (a - isqA a j r * isqA a j r)).2)
  | 0, r, _, h2, h3 => by
    refine Ev.next ?_
    simp only [wide_U128_Sqrt.l0]
    have S := U128_Sub a (r * r) ha h3
    unfold isqA
    have hr : r < 18446744073709551616 := by rw [Nat.pow_zero] at h2; omega
    have e0 : ((2 ^ 0 / 2 : Nat) : Int) = 0 := rfl
    rw [e0]
    refine Ev.congr (fun k => by rw [if_neg (Int.lt_irrefl 0)]) (Ev.b _ (Ev.const (wMul_ok r r hr hr)) ?_)
    dsimp only
    refine Ev.b _ (Ev.const S) (Ev.all fun k => ?_)
    rfl
  | j + 1, r, h1, h2, h3 => by
    have e : 2 ^ (j + 1) / 2 = 2 ^ j := by rw [Nat.pow_succ]; omega
    have e2 : 2 ^ (j + 1) = 2 ^ j + 2 ^ j := by rw [Nat.pow_succ]; omega
    have p := two_pos j
    have h4 : r % 2 ^ j = 0 := by
      have : r % 2 ^ (j + 1) % 2 ^ j = r % 2 ^ j := Nat.mod_mod_of_dvd _ (by rw [Nat.pow_succ]; exact Nat.dvd_mul_right _ _)
      rw [← this, h1]; simp
    have ho : bits .or .u64 (r : Int) ((2 ^ j : Nat) : Int) = ((r + 2 ^ j : Nat) : Int) := or_join r (2 ^ j) (j + 1) (by omega) (by omega) h1 (by omega)
    have eh : ((2 ^ j : Nat) : Int) / 2 = ((2 ^ j / 2 : Nat) : Int) := by omega
    refine Ev.next ?_
    simp only [wide_U128_Sqrt.l0]
    rw [e, ho, eh]
    refine Ev.congr (fun k => by rw [if_pos (by omega)]) (Ev.b _ (Ev.const (wMul_ok (r + 2 ^ j) (r + 2 ^ j) (by omega) (by omega))) ?_)
    dsimp only
    refine Ev.b _ (Ev.const (Cmp_tw _ _)) ?_
    unfold isqA
    by_cases c : (r + 2 ^ j) * (r + 2 ^ j) ≤ a
    · rw [if_pos c]
      have := Sqrt_l a ha j (r + 2 ^ j) (by rw [Nat.add_mod_right, h4]) (by omega) c
      exact Ev.congr (fun k => by rw [if_pos (by (repeat' split) <;> omega)]) this
    · rw [if_neg c]
      have := Sqrt_l a ha j r h4 (by omega) h3
      exact Ev.congr (fun k => by rw [if_neg (by (repeat' split) <;> omega)]) this
theorem U128_Sqrt (a : Nat) (ha : a < 340282366920938463463374607431768211456) :
    Ev (fun k => wide_U128_Sqrt.f k (tw a).1 (tw a).2) ((isq a : Int), (tw (a - isq a * isq a)).1, (tw (a - isq a * isq a)).2) := by
  have := Sqrt_l a ha 64 0 (by decide) (by decide) (by omega)
  exact this
def rk (a : Nat) : Nat := if (spe a - (126 - (bl (spm a) : Int))) % 2 = 0 then 126 - bl (spm a) else 127 - bl (spm a)
def rM (a : Nat) : Nat := spm a * 2 ^ rk a
def rE (a : Nat) : Int := (spe a - rk a) / 2
def sSqrt (a mode : Nat) : Nat × Nat :=
  if cls a = 4 then (QN, 0)
  else if cls a = 0 then (a, 0)
  else if sgn a = true then (QN, 16)
  else if cls a = 3 then (a, 0)
  else RND false (FX (isq (rM a)) 1 (rE a)) (FS (isq (rM a)) 1 (rE a) (decide (rM a - isq (rM a) * isq (rM a) ≠ 0))) mode
theorem root_bd (a : Nat) (h : cls a ≤ 2) (h0 : cls a ≠ 0) : 1 ≤ bl (spm a) ∧ bl (spm a) ≤ 53 ∧ rk a ≤ 126 ∧ 73 ≤ rk a ∧ rM a < 170141183460469231731687303715884105728 ∧ 42535295865117307932921825928971026432 ≤ rM a ∧ (spe a - rk a) % 2 = 0 ∧ spm a ≠ 0 := by
  have z : spm a ≠ 0 := fun h2 => h0 ((spm_zero a h).1 h2)
  have hb := bl_bd (spm a) z
  have hb2 : bl (spm a) ≤ 53 := bl_le (n := 53) (spm_lt a)
  have hk : rk a = 126 - bl (spm a) ∨ rk a = 127 - bl (spm a) := by unfold rk; split; exact .inl rfl; exact .inr rfl
  have hpar : (spe a - rk a) % 2 = 0 := by unfold rk; split <;> omega
  refine ⟨hb.1, hb2, by omega, by omega, ?_, ?_, hpar, z⟩
  · have h1 : spm a * 2 ^ rk a < 2 ^ bl (spm a) * 2 ^ rk a := Nat.mul_lt_mul_of_pos_right hb.2.2 (two_pos _)
    rw [← Nat.pow_add] at h1
    have h2 : 2 ^ (bl (spm a) + rk a) ≤ 2 ^ 127 := pow_le (by omega)
    exact Nat.lt_of_lt_of_le h1 h2
  · have h1 : 2 ^ (bl (spm a) - 1) * 2 ^ rk a ≤ spm a * 2 ^ rk a := Nat.mul_le_mul_right _ hb.2.1
    rw [← Nat.pow_add] at h1
    have h2 : 2 ^ 125 ≤ 2 ^ (bl (spm a) - 1 + rk a) := pow_le (by omega)
    exact Nat.le_trans h2 h1
theorem rt1 {r M : Nat} (h1 : M < (r + 1) * (r + 1)) (h2 : 42535295865117307932921825928971026432 ≤ M) : 9007199254740992 ≤ r := by
  by_cases c : 9007199254740992 ≤ r
  · exact c
  · have : (r + 1) * (r + 1) ≤ 9007199254740992 * 9007199254740992 := Nat.mul_le_mul (by omega) (by omega)
    omega
theorem Sqrt_ev (a mode : Nat) (ha : U a) : Ev (fun k => soft_Sqrt.f k (a : Int) (mode : Int)) (pr (sSqrt a mode)) := by
  unfold soft_Sqrt.f
  refine Ev.b _ (of_ev a ha) ?_
  dsimp only
  have a0e : ((cls a : Int) == 0) = decide (cls a = 0) := eq_nat _ 0
  rw [a0e]
  by_cases c4 : cls a = 4
  · have hS : sSqrt a mode = (QN, 0) := by unfold sSqrt; rw [if_pos c4]
    rw [hS]
    exact Ev.congr (fun k => by rw [if_pos (by omega)]) (Ev.b (f := fun _ x => some (x, (0 : Int))) _ (Ev.const Quiet_ok) (Ev.now _))
  have J : Ev (fun k => soft_Sqrt.j0 k (a : Int) (mode : Int) (decide (cls a = 0 ∨ cls a = 3 ∧ sgn a = false)) (a : Int) (cls a : Int) (sgn a) (spm a : Int) (spe a)) (pr (sSqrt a mode)) := by
    refine Ev.next ?_
    simp only [soft_Sqrt.j0]
    by_cases c : cls a = 0 ∨ cls a = 3 ∧ sgn a = false
    · have hS : sSqrt a mode = (a, 0) := by
        unfold sSqrt; rw [if_neg c4]
        rcases c with c | ⟨c, d⟩
        · rw [if_pos c]
        · rw [if_neg (by omega), if_neg (by rw [d]; simp), if_pos c]
      rw [hS, decide_eq_true c]
      exact Ev.all fun k => by rw [if_pos rfl]; rfl
    rw [decide_eq_false c]
    have n0 : ¬ cls a = 0 := fun h => c (.inl h)
    by_cases cs : sgn a = true
    · have hS : sSqrt a mode = (QN, 16) := by unfold sSqrt; rw [if_neg c4, if_neg n0, if_pos cs]
      rw [hS]
      exact Ev.congr (fun k => by rw [if_neg (by simp), if_pos cs]) (Ev.b (f := fun _ x => some (x.1, x.2)) _ (Ev.const invalid_ok) (Ev.now _))
    have n3 : ¬ cls a = 3 := fun h => c (.inr ⟨h, by cases h2 : sgn a; rfl; exact absurd h2 cs⟩)
    have ka : cls a ≤ 2 := by have := cls_le a; omega
    obtain ⟨b1, b2, b3, b4, b5, b6, b7, b8⟩ := root_bd a ka n0
    have ea := spe_bd a
    have hS : RND false (FX (isq (rM a)) 1 (rE a)) (FS (isq (rM a)) 1 (rE a) (decide (rM a - isq (rM a) * isq (rM a) ≠ 0))) mode = sSqrt a mode := by
      unfold sSqrt; rw [if_neg c4, if_neg n0, if_neg cs, if_neg n3]
    have L : wide_U128_Len.f 0 (spm a : Int) = some (bl (spm a) : Int) := by
      have := Len_tw (spm a) (by have := spm_lt a; omega)
      rw [tw_word (by have := spm_lt a; omega)] at this; exact this
    have Sh : Ev (fun k => wide_U128_Shl.f k 0 (spm a : Int) (rk a : Int)) (tw (rM a)) := by
      have := Shl_tw (spm a) (rk a) (by have := spm_lt a; omega) (by omega)
      rw [tw_word (by have := spm_lt a; omega), Nat.mod_eq_of_lt (by show rM a < _; omega)] at this; exact this
    have Sq := U128_Sqrt (rM a) (by omega)
    have sp := isq_spec (rM a) (by omega)
    have hr := rt1 sp.2.1 b6
    have R := Round_ev false (isq (rM a)) (rE a) (decide (rM a - isq (rM a) * isq (rM a) ≠ 0)) mode (by omega)
    have hbl54 : 53 < bl (isq (rM a)) := by
      by_cases c9 : bl (isq (rM a)) ≤ 53
      · have := bl_small c9; omega
      · omega
    have hrE : -700 ≤ rE a ∧ rE a ≤ 700 := by unfold rE; omega
    rw [if_neg (by omega), cl_id (by omega) (by omega), decide_eq_true hbl54, Bool.and_true, hS, tw_word sp.2.2] at R
    have hz : (!((tw (rM a - isq (rM a) * isq (rM a))).1 == 0) || (!((tw (rM a - isq (rM a) * isq (rM a))).2 == 0))) = decide (rM a - isq (rM a) * isq (rM a) ≠ 0) := by
      have := tw_eq_zero (rM a - isq (rM a) * isq (rM a)) (by omega)
      rw [← Bool.not_and, this, Bool.eq_iff_iff]; simp
    have w1 : wrap64 (126 - (bl (spm a) : Int)) = 126 - (bl (spm a) : Int) := w64 (by omega) (by omega)
    have w2 : wrap64 (spe a - (126 - (bl (spm a) : Int))) = spe a - (126 - (bl (spm a) : Int)) := w64 (by omega) (by omega)
    have w3 : wrap64 (126 - (bl (spm a) : Int) + 1) = 127 - (bl (spm a) : Int) := by rw [w64 (by omega) (by omega)]; omega
    have w4 : wrap64 (spe a - (127 - (bl (spm a) : Int))) = spe a - (127 - (bl (spm a) : Int)) := w64 (by omega) (by omega)
    refine Ev.congr (fun k => by rw [if_neg (by simp), if_neg cs]) (Ev.b _ (Ev.const L) ?_)
    rw [w1, w2, w3, w4]
    by_cases hp : (spe a - (126 - (bl (spm a) : Int))) % 2 = 0
    · have hk : (126 - (bl (spm a) : Int)) = (rk a : Int) := by unfold rk; rw [if_pos hp]; omega
      have ht : Int.tmod (spe a - (126 - (bl (spm a) : Int))) 2 = 0 := by
        rw [hk]; exact Int.tmod_eq_zero_of_dvd (Int.dvd_of_emod_eq_zero b7)
      have hd : wrap64 (Int.tdiv (spe a - (126 - (bl (spm a) : Int))) 2) = rE a := by
        rw [hk, Int.tdiv_eq_ediv_of_dvd (Int.dvd_of_emod_eq_zero b7)]; exact w64 (by unfold rE at hrE; omega) (by unfold rE at hrE; omega)
      rw [hd]
      refine Ev.congr (fun k => by rw [if_pos ht, hk]) (Ev.b _ Sh (Ev.b _ Sq ?_))
      dsimp only
      rw [hz]
      exact Ev.b (f := fun _ x => some (x.1, x.2)) _ R (Ev.now _)
    · have hk : (127 - (bl (spm a) : Int)) = (rk a : Int) := by unfold rk; rw [if_neg hp]; omega
      have ht : ¬ Int.tmod (spe a - (126 - (bl (spm a) : Int))) 2 = 0 := by
        intro h; exact hp (Int.emod_eq_zero_of_dvd (Int.dvd_of_tmod_eq_zero h))
      have hd : wrap64 (Int.tdiv (spe a - (127 - (bl (spm a) : Int))) 2) = rE a := by
        rw [hk, Int.tdiv_eq_ediv_of_dvd (Int.dvd_of_emod_eq_zero b7)]; exact w64 (by unfold rE at hrE; omega) (by unfold rE at hrE; omega)
      rw [hd]
      refine Ev.congr (fun k => by rw [if_neg ht, hk]) (Ev.b _ Sh (Ev.b _ Sq ?_))
      dsimp only
      rw [hz]
      exact Ev.b (f := fun _ x => some (x.1, x.2)) _ R (Ev.now _)
  by_cases n0 : cls a = 0
  · rw [decide_eq_true (.inl n0)] at J
    rw [decide_eq_true n0]
    exact Ev.congr (fun k => by rw [if_neg (by omega), if_pos (by omega)]) J
  · by_cases n3 : cls a = 3
    · have : decide (cls a = 0 ∨ cls a = 3 ∧ sgn a = false) = (!sgn a) := by
        cases h : sgn a
        · rw [decide_eq_true (.inr ⟨n3, rfl⟩)]; rfl
        · rw [decide_eq_false (by simp [n0])]; rfl
      rw [this] at J
      exact Ev.congr (fun k => by rw [if_neg (by omega), if_neg (by omega), if_pos (by omega)]) J
    · rw [decide_eq_false (by simp [n0, n3])] at J
      exact Ev.congr (fun k => by rw [if_neg (by omega), if_neg (by omega), if_neg (by omega)]) J
def sSum (mode : Nat) : Nat → List Nat → Nat
  | s, [] => s
  | s, f :: l => sSum mode (sAdd s f mode).1 l
theorem RND_U (neg : Bool) (X : Nat) (s : Bool) (mode : Nat) : U (RND neg X s mode).1 := by
  unfold U
  by_cases h : 9218868437227405312 ≤ kk X s (dir neg mode)
  · rw [RND_over h]; unfold sg; dsimp only; (repeat' split) <;> omega
  · rw [RND_in h]; unfold sg; dsimp only; split <;> omega
theorem sg_U (b : Bool) : U (sg b) := by unfold U sg; split <;> omega
theorem sAdd_U (a b mode : Nat) (ha : U a) (hb : U b) : U (sAdd a b mode).1 := by
  unfold sAdd
  (repeat' split) <;> first | assumption | exact RND_U _ _ _ _ | exact sg_U _ | (show QN < _; decide)
theorem Sum_ev (mode : Nat) (l : List Nat) (hl : l.length < 1000000) (hU : ∀ x ∈ l, U x) : ∀ (d i s : Nat), l.length - i = d → i ≤ l.length → U s →
    Ev (fun k => soft_Sum.l0 k (mode : Int) (s : Int) (l.map Nat.cast) (l.length : Int) (i : Int)) (sSum mode s (l.drop i) : Int)
  | 0, i, s, hd, hi, hs => by
    refine Ev.next ?_
    simp only [soft_Sum.l0]
    rw [List.drop_eq_nil_of_le (by omega)]
    exact Ev.all fun k => by rw [if_neg (by omega)]; rfl
  | d + 1, i, s, hd, hi, hs => by
    have hlt : i < l.length := by omega
    have hg : rd (l.map Nat.cast) (i : Int) = ((l[i] : Nat) : Int) := by
      unfold rd; rw [Int.toNat_natCast, List.getD_eq_getElem?_getD, List.getElem?_map, List.getElem?_eq_getElem hlt]; rfl
    have w1 : wrap64 ((i : Int) + 1) = ((i + 1 : Nat) : Int) := by rw [w64 (by omega) (by omega)]; omega
    have hUi := hU l[i] (List.getElem_mem hlt)
    refine Ev.next ?_
    simp only [soft_Sum.l0]
    rw [List.drop_eq_getElem_cons hlt, hg, w1, List.length_map]
    unfold sSum
    refine Ev.congr (fun k => by rw [if_pos (by omega), if_pos (by omega), if_pos (by omega)]) (Ev.b _ (Add_ev s l[i] mode hs hUi) ?_)
    exact Sum_ev mode l hl hU d (i + 1) _ (by omega) (by omega) (sAdd_U _ _ _ hs hUi)
theorem softSum_ev (mode : Nat) (l : List Nat) (hl : l.length < 1000000) (hU : ∀ x ∈ l, U x) : Ev (fun k => soft_Sum.f k (mode : Int) (l.map Nat.cast)) (sSum mode 0 l : Int) := by
  have := Sum_ev mode l hl hU l.length 0 0 (by omega) (by omega) (show (0 : Nat) < 18446744073709551616 by decide)
  unfold soft_Sum.f
  rw [List.length_map]; exact this
end Go.Proofs.Ytmadjhmecfbcmaa.M
end
section
namespace Go.Proofs.Ytmadjhmecfbcmaa.M
open Go.RowKit Go.Proofs.YtmadjhmecfbcmaaW.PrintWords Go.Proofs.YtmadjhmecfbcmaaW.PrintLast Go.Proofs.YtmadjhmecfbcmaaW.PrintMore Go.Proofs.Ytmadjhmecfbcmaa.F
def bn (b : Bool) : Nat := if b then 1 else 0
theorem bn_le (b : Bool) : bn b ≤ 1 := by cases b <;> decide
def bv : List Bool → Nat
  | [] => 0
  | b :: l => bn b + 2 * bv l
theorem bv_append (a b : List Bool) : bv (a ++ b) = bv a + 2 ^ a.length * bv b := by
  induction a with
  | nil => simp [bv]
  | cons x a ih => rw [List.cons_append, bv, bv, ih, List.length_cons, Nat.pow_succ]; grind
theorem bv_lt (a : List Bool) : bv a < 2 ^ a.length := by
  induction a with
  | nil => simp [bv]
  | cons x a ih => rw [bv, List.length_cons, Nat.pow_succ]; have := bn_le x; omega
theorem bv_snoc (a : List Bool) (b : Bool) : bv (a ++ [b]) = bv a + 2 ^ a.length * bn b := by rw [bv_append]; simp [bv]
theorem bv_falses (n : Nat) : bv (List.replicate n false) = 0 := by
  induction n with
  | zero => rfl
  | succ n ih => rw [List.replicate_succ, bv, ih]; rfl
theorem bv_shl (a : List Bool) (n : Nat) : bv (List.replicate n false ++ a) = bv a * 2 ^ n := by rw [bv_append, bv_falses, List.length_replicate]; grind
theorem bv_take_drop (a : List Bool) (i : Nat) (h : i ≤ a.length) : bv a = bv (a.take i) + 2 ^ i * bv (a.drop i) := by
  conv => lhs; rw [← List.take_append_drop i a, bv_append, List.length_take, Nat.min_eq_left h]
theorem bv_div (a : List Bool) (i : Nat) : bv a / 2 ^ i = bv (a.drop i) := by
  by_cases h : i ≤ a.length
  · have h1 := bv_take_drop a i h
    have h2 := bv_lt (a.take i)
    rw [List.length_take, Nat.min_eq_left h] at h2
    rw [h1, Nat.add_mul_div_left _ _ (two_pos i), Nat.div_eq_of_lt h2, Nat.zero_add]
  · rw [List.drop_eq_nil_of_le (by omega), Nat.div_eq_of_lt]
    · rfl
    · have := bv_lt a
      have : 2 ^ a.length ≤ 2 ^ i := pow_le (by omega)
      omega
theorem bv_bit (a : List Bool) (i : Nat) : bn (a.getD i false) = bv a / 2 ^ i % 2 := by
  rw [bv_div]
  by_cases h : i < a.length
  · rw [List.drop_eq_getElem_cons h, bv, List.getD_eq_getElem?_getD, List.getElem?_eq_getElem h]
    have := bn_le a[i]; simp; omega
  · rw [List.drop_eq_nil_of_le (by omega), List.getD_eq_getElem?_getD, List.getElem?_eq_none (by omega)]; rfl
theorem bv_step (a : List Bool) (i : Nat) : bv a / 2 ^ i = bn (a.getD i false) + 2 * (bv a / 2 ^ (i + 1)) := by
  rw [bv_bit, Nat.pow_succ, ← Nat.div_div_eq_div_mul]; omega
theorem bv_mod_step (a : List Bool) (i : Nat) : bv a % 2 ^ (i + 1) = bv a % 2 ^ i + 2 ^ i * bn (a.getD i false) := by
  rw [bv_bit, Nat.pow_succ, Nat.mod_mul]
theorem bv_mod_all (a : List Bool) (i : Nat) (h : a.length ≤ i) : bv a % 2 ^ i = bv a := by
  apply Nat.mod_eq_of_lt
  have := bv_lt a
  have : 2 ^ a.length ≤ 2 ^ i := pow_le h
  omega
theorem bv_div_all (a : List Bool) (i : Nat) (h : a.length ≤ i) : bv a / 2 ^ i = 0 := by rw [bv_div, List.drop_eq_nil_of_le h]; rfl
theorem bit_ok (l : List Bool) (i : Nat) : flyballref01_bit.f l (i : Int) = some (l.getD i false) := by
  unfold flyballref01_bit.f rdOf
  by_cases h : i < l.length
  · rw [if_pos (by omega), if_pos (by omega), if_pos (by omega), Int.toNat_natCast]
  · rw [if_pos (by omega), if_neg (by omega), List.getD_eq_getElem?_getD, List.getElem?_eq_none (by omega)]; rfl
theorem inc64 (i : Nat) (h : i < 1000000000) : wrap64 ((i : Int) + 1) = ((i + 1 : Nat) : Int) := by rw [w64 (by omega) (by omega)]; omega
theorem Shl_l (a : List Bool) (n : Nat) (hn : n < 1000000) (ha : a.length < 1000000) : ∀ (d i : Nat), n - i = d → i ≤ n →
    Ev (fun k => flyballref01_Shl.l0 k a (n : Int) (List.replicate i false) (i : Int)) (List.replicate n false ++ a)
  | 0, i, hd, hi => by
    refine Ev.next ?_
    simp only [flyballref01_Shl.l0]
    rw [show i = n by omega, List.length_replicate]
    exact Ev.all fun k => by rw [if_neg (by omega), if_pos (by omega)]
  | d + 1, i, hd, hi => by
    refine Ev.next ?_
    simp only [flyballref01_Shl.l0]
    rw [inc64 i (by omega), List.length_replicate]
    have := Shl_l a n hn ha d (i + 1) (by omega) (by omega)
    rw [List.replicate_succ'] at this
    exact Ev.congr (fun k => by rw [if_pos (by omega), if_pos (by omega)]) this
theorem rShl_ev (a : List Bool) (n : Nat) (hn : n < 1000000) (ha : a.length < 1000000) : Ev (fun k => flyballref01_Shl.f k a (n : Int)) (List.replicate n false ++ a) :=
  Shl_l a n hn ha n 0 (by omega) (by omega)
theorem Len_l (a : List Bool) (ha : a.length < 1000000) : ∀ (n : Nat), n ≤ a.length → bv (a.drop n) = 0 → Ev (fun k => flyballref01_Len.l0 k a (n : Int)) (bl (bv a) : Int)
  | 0, _, h => by
    refine Ev.next ?_
    simp only [flyballref01_Len.l0]
    rw [List.drop_zero] at h
    rw [h]
    exact Ev.all fun k => by rw [if_neg (by omega)]; rfl
  | n + 1, hn, h => by
    have w1 : wrap64 (((n + 1 : Nat) : Int) - 1) = (n : Int) := by rw [w64 (by omega) (by omega)]; omega
    refine Ev.next ?_
    simp only [flyballref01_Len.l0]
    rw [w1]
    have hr : rdOf false a (n : Int) = a.getD n false := by unfold rdOf; rw [Int.toNat_natCast]
    rw [hr]
    have hs := bv_step a n
    rw [bv_div, bv_div, h] at hs
    cases c : a.getD n false
    · rw [c] at hs
      have := Len_l a ha n (by omega) (by rw [hs]; rfl)
      exact Ev.congr (fun k => by rw [if_pos (by omega), if_pos (by omega), if_pos (by omega), if_neg (by simp)]) this
    · rw [c] at hs
      have hb : bl (bv a) = n + 1 := by
        have h1 : bv a / 2 ^ n = 1 := by rw [bv_div, hs]; rfl
        have h2 : bv a / 2 ^ (n + 1) = 0 := by rw [bv_div, h]
        have h3 : bv a < 2 ^ (n + 1) := (Nat.div_eq_zero_iff_lt (two_pos _)).1 h2
        have h4 : 2 ^ n ≤ bv a := by
          by_cases c2 : 2 ^ n ≤ bv a
          · exact c2
          · rw [Nat.div_eq_of_lt (by omega)] at h1; omega
        have h0 : bv a ≠ 0 := by have := two_pos n; omega
        unfold bl; rw [if_neg h0]
        have g1 : n ≤ (bv a).log2 := (Nat.le_log2 h0).2 h4
        have g2 : (bv a).log2 < n + 1 := (Nat.log2_lt h0).2 h3
        omega
      rw [hb]
      exact Ev.all fun k => by rw [if_pos (by omega), if_pos (by omega), if_pos (by omega), if_pos rfl]
theorem rLen_ev (a : List Bool) (ha : a.length < 1000000) : Ev (fun k => flyballref01_Len.f k a) (bl (bv a) : Int) := by
  have := Len_l a ha a.length (Nat.le_refl _) (by rw [List.drop_length]; rfl)
  exact this
theorem bl_len (a : List Bool) : bl (bv a) ≤ a.length := bl_le (bv_lt a)
theorem bv_take_bl (a : List Bool) : bv (a.take (bl (bv a))) = bv a := by
  have h1 := bv_take_drop a _ (bl_len a)
  have h2 : bv a / 2 ^ bl (bv a) = 0 := by rw [Nat.div_eq_of_lt]; exact bl_small (Nat.le_refl _)
  rw [bv_div] at h2
  rw [h2] at h1; omega
theorem Cmp_l (a b : List Bool) : ∀ (n : Nat), n < 1000000 → bv a / 2 ^ n = bv b / 2 ^ n → Ev (fun k => flyballref01_Cmp.l0 k a b ((n : Int) - 1)) (if bv a < bv b then -1 else if bv b < bv a then 1 else 0)
  | 0, _, h => by
    refine Ev.next ?_
    simp only [flyballref01_Cmp.l0]
    rw [Nat.pow_zero, Nat.div_one, Nat.div_one] at h
    rw [if_neg (by omega), if_neg (by omega)]
    exact Ev.all fun k => by rw [if_neg (by omega)]
  | n + 1, hn, h => by
    have w1 : wrap64 ((n : Int) - 1) = (n : Int) - 1 := w64 (by omega) (by omega)
    refine Ev.next ?_
    simp only [flyballref01_Cmp.l0]
    rw [show (((n + 1 : Nat) : Int) - 1) = (n : Int) by omega, w1]
    have ha := bv_step a n
    have hb := bv_step b n
    rw [h] at ha
    refine Ev.congr (fun k => by rw [if_pos (by omega)]) (Ev.b _ (Ev.const (bit_ok a n)) (Ev.b _ (Ev.const (bit_ok b n)) ?_))
    have key : ∀ x y : Nat, x / 2 ^ n < y / 2 ^ n → x < y := fun x y hxy => by
      by_cases c : x < y
      · exact c
      · have : y / 2 ^ n ≤ x / 2 ^ n := Nat.div_le_div_right (by omega)
        omega
    cases c1 : a.getD n false <;> cases c2 : b.getD n false <;> rw [c1] at ha <;> rw [c2] at hb
    · exact Ev.congr (fun k => by rw [if_neg (by simp)]) (Cmp_l a b n (by omega) (by rw [ha, hb]))
    · have hlt := key (bv a) (bv b) (by rw [ha, hb]; simp [bn])
      have hv : (if bv a < bv b then (-1 : Int) else if bv b < bv a then 1 else 0) = -1 := by rw [if_pos hlt]
      rw [hv]
      exact Ev.all fun k => by rw [if_pos (by simp), if_neg (by simp)]
    · have hlt := key (bv b) (bv a) (by rw [ha, hb]; simp [bn])
      have hv : (if bv a < bv b then (-1 : Int) else if bv b < bv a then 1 else 0) = 1 := by rw [if_neg (by omega), if_pos hlt]
      rw [hv]
      exact Ev.all fun k => by rw [if_pos (by simp), if_pos rfl]
    · exact Ev.congr (fun k => by rw [if_neg (by simp)]) (Cmp_l a b n (by omega) (by rw [ha, hb]))
theorem rCmp_ev (a b : List Bool) (ha : a.length < 1000000) (hb : b.length < 1000000) : Ev (fun k => flyballref01_Cmp.f k a b) (if bv a < bv b then -1 else if bv b < bv a then 1 else 0) := by
  unfold flyballref01_Cmp.f
  rw [mx_eq, show max (a.length : Int) (b.length : Int) = ((max a.length b.length : Nat) : Int) by omega, w64 (by omega) (by omega)]
  exact Cmp_l a b (max a.length b.length) (by omega) (by rw [bv_div_all _ _ (by omega), bv_div_all _ _ (by omega)])
theorem Add_l (a b : List Bool) (ha : a.length < 1000000) (hb : b.length < 1000000) : ∀ (d i : Nat) (out : List Bool) (c : Bool), max a.length b.length + 1 - i = d → i ≤ max a.length b.length + 1 → (i = max a.length b.length + 1 → c = false) → out.length = i →
    bv out + 2 ^ i * (bn c + bv a / 2 ^ i + bv b / 2 ^ i) = bv a + bv b →
    ∃ r, Ev (fun k => flyballref01_Add.l0 k a b out c (i : Int)) r ∧ bv r = bv a + bv b ∧ r.length ≤ max a.length b.length + 1 := by
  intro d
  induction d with
  | zero =>
    intro i out c hd hi hc ho hv
    have hc' := hc (by omega)
    subst hc'
    rw [bv_div_all a i (by omega), bv_div_all b i (by omega)] at hv
    refine ⟨out, ?_, by simpa [bn] using hv, by omega⟩
    refine Ev.next (Ev.congr (fun k => ?_) (Ev.later (g := fun k => flyballref01_Add.j1 k a b out false (i : Int) false) 1 fun k => by simp only [flyballref01_Add.j1]; rw [if_neg (by simp)]))
    simp only [flyballref01_Add.l0]
    rw [if_neg (by omega), if_neg (by omega)]
  | succ d ih =>
    intro i out c hd hi hc ho hv
    by_cases stop : ¬ i < a.length ∧ ¬ i < b.length ∧ c = false
    · obtain ⟨s1, s2, rfl⟩ := stop
      rw [bv_div_all a i (by omega), bv_div_all b i (by omega)] at hv
      refine ⟨out, ?_, by simpa [bn] using hv, by omega⟩
      refine Ev.next (Ev.congr (fun k => ?_) (Ev.later (g := fun k => flyballref01_Add.j1 k a b out false (i : Int) false) 1 fun k => by simp only [flyballref01_Add.j1]; rw [if_neg (by simp)]))
      simp only [flyballref01_Add.l0]
      rw [if_neg (by omega), if_neg (by omega)]
    · have e1 := bv_step a i
      have e2 := bv_step b i
      generalize hx : a.getD i false = x at e1
      generalize hy : b.getD i false = y at e2
      have round : ∀ c2 : Bool, bn x + bn y + bn c = bn ((x != y) != c) + 2 * bn c2 → (i + 1 = max a.length b.length + 1 → c2 = false) →
          ∃ r, Ev (fun k => flyballref01_Add.l0 k a b (out ++ [(x != y) != c]) c2 ((i + 1 : Nat) : Int)) r ∧ bv r = bv a + bv b ∧ r.length ≤ max a.length b.length + 1 := by
        intro c2 h2 h3
        apply ih (i + 1) _ c2 (by omega) (by omega) h3 (by simp [ho])
        rw [bv_snoc, ho, ← hv, e1, e2, Nat.pow_succ]
        generalize bv a / (2 ^ i * 2) = A
        generalize bv b / (2 ^ i * 2) = B
        have : bn c + (bn x + 2 * A) + (bn y + 2 * B) = bn ((x != y) != c) + 2 * (bn c2 + A + B) := by omega
        rw [this]; grind
      have last : ∀ c2 : Bool, bn x + bn y + bn c = bn ((x != y) != c) + 2 * bn c2 → (i + 1 = max a.length b.length + 1 → c2 = false) := by
        intro c2 h2 h3
        have x0 : x = false := by rw [← hx, List.getD_eq_getElem?_getD, List.getElem?_eq_none (by omega)]; rfl
        have y0 : y = false := by rw [← hy, List.getD_eq_getElem?_getD, List.getElem?_eq_none (by omega)]; rfl
        subst x0; subst y0
        cases c <;> cases c2 <;> simp [bn] at h2 ⊢
      have J1 : ∀ c2 : Bool, c2 = (if x = true then (if y = true then true else c) else (if y = true then c else false)) →
          ∃ r, Ev (fun k => flyballref01_Add.j1 k a b out c (i : Int) true) r ∧ bv r = bv a + bv b ∧ r.length ≤ max a.length b.length + 1 := by
        intro c2 h2
        have h3 : bn x + bn y + bn c = bn ((x != y) != c) + 2 * bn c2 := by subst h2; cases x <;> cases y <;> cases c <;> rfl
        obtain ⟨r, hr, h4⟩ := round c2 h3 (last c2 h3)
        refine ⟨r, Ev.next ?_, h4⟩
        simp only [flyballref01_Add.j1]
        refine Ev.congr (fun k => by rw [if_pos trivial]) (Ev.b _ (Ev.const (bit_ok a i)) (Ev.b _ (Ev.const (bit_ok b i)) ?_))
        rw [hx, hy, inc64 i (by omega)]
        subst h2
        cases x <;> cases y <;> cases c <;> exact Ev.congr (fun k => by rw [if_pos (by omega)]; rfl) hr
      obtain ⟨r, hr, h4⟩ := J1 _ rfl
      refine ⟨r, Ev.next ?_, h4⟩
      simp only [flyballref01_Add.l0]
      by_cases s1 : i < a.length
      · exact Ev.congr (fun k => by rw [if_pos (by omega)]) hr
      · by_cases s2 : i < b.length
        · exact Ev.congr (fun k => by rw [if_neg (by omega), if_pos (by omega)]) hr
        · have : c = true := by cases c; exact absurd ⟨s1, s2, rfl⟩ stop; rfl
          subst this
          exact Ev.congr (fun k => by rw [if_neg (by omega), if_neg (by omega)]) hr
theorem rAdd_ev (a b : List Bool) (ha : a.length < 1000000) (hb : b.length < 1000000) :
    ∃ r, Ev (fun k => flyballref01_Add.f k a b) r ∧ bv r = bv a + bv b ∧ r.length ≤ max a.length b.length + 1 :=
  Add_l a b ha hb (max a.length b.length + 1) 0 [] false (by omega) (by omega) (fun _ => rfl) rfl (by simp [bv, bn])
theorem Sub_l (a b : List Bool) (n : Nat) (hn : n < 1000000) : ∀ (d i : Nat) (out : List Bool) (c : Bool), n - i = d → i ≤ n → out.length = i →
    bv out + bv b % 2 ^ i = bv a % 2 ^ i + bn c * 2 ^ i →
    ∃ r c', Ev (fun k => flyballref01_Sub.l0 k a b (n : Int) out c (i : Int)) (r, c') ∧ bv r + bv b % 2 ^ n = bv a % 2 ^ n + bn c' * 2 ^ n ∧ r.length = n := by
  intro d
  induction d with
  | zero =>
    intro i out c hd hi ho hv
    obtain rfl : i = n := by omega
    refine ⟨out, c, ?_, hv, ho⟩
    refine Ev.next ?_
    simp only [flyballref01_Sub.l0]
    exact Ev.all fun k => by rw [if_neg (by omega)]
  | succ d ih =>
    intro i out c hd hi ho hv
    have e1 := bv_mod_step a i
    have e2 := bv_mod_step b i
    generalize hx : a.getD i false = x at e1
    generalize hy : b.getD i false = y at e2
    have round : ∀ c2 : Bool, bn ((x != y) != c) + bn y + bn c = bn x + 2 * bn c2 →
        ∃ r c', Ev (fun k => flyballref01_Sub.l0 k a b (n : Int) (out ++ [(x != y) != c]) c2 ((i + 1 : Nat) : Int)) (r, c') ∧ bv r + bv b % 2 ^ n = bv a % 2 ^ n + bn c' * 2 ^ n ∧ r.length = n := by
      intro c2 h2
      apply ih (i + 1) _ c2 (by omega) (by omega) (by simp [ho])
      rw [bv_snoc, ho, e1, e2, Nat.pow_succ]
      have h3 : 2 ^ i * (bn ((x != y) != c) + bn y + bn c) = 2 ^ i * (bn x + 2 * bn c2) := by rw [h2]
      rw [Nat.mul_add, Nat.mul_add, Nat.mul_add] at h3
      have h4 : bn c * 2 ^ i = 2 ^ i * bn c := Nat.mul_comm _ _
      have h5 : bn c2 * (2 ^ i * 2) = 2 ^ i * (2 * bn c2) := by grind
      omega
    obtain ⟨c2, hc2⟩ : ∃ c2 : Bool, c2 = (if x = true then (if y = true then c else false) else (if y = true then true else c)) := ⟨_, rfl⟩
    have h3 : bn ((x != y) != c) + bn y + bn c = bn x + 2 * bn c2 := by subst hc2; cases x <;> cases y <;> cases c <;> rfl
    obtain ⟨r, c', hr, h4⟩ := round c2 h3
    refine ⟨r, c', Ev.next ?_, h4⟩
    simp only [flyballref01_Sub.l0]
    refine Ev.congr (fun k => by rw [if_pos (by omega)]) (Ev.b _ (Ev.const (bit_ok a i)) (Ev.b _ (Ev.const (bit_ok b i)) ?_))
    rw [hx, hy, inc64 i (by omega)]
    subst hc2
    cases x <;> cases y <;> cases c <;> exact Ev.congr (fun k => by rw [if_pos (by omega)]; rfl) hr
theorem rSub_ev (a b : List Bool) (n : Nat) (hn : n < 1000000) (ha : bv a < 2 ^ n) (hb : bv b ≤ bv a) :
    ∃ r c, Ev (fun k => flyballref01_Sub.f k a b (n : Int)) (r, c) ∧ bv r = bv a - bv b ∧ r.length = n := by
  obtain ⟨r, c, h1, h2, h3⟩ := Sub_l a b n hn n 0 [] false (by omega) (by omega) rfl (by simp [bv, bn, Nat.mod_one])
  refine ⟨r, c, h1, ?_, h3⟩
  rw [Nat.mod_eq_of_lt ha, Nat.mod_eq_of_lt (by omega)] at h2
  have h4 := bv_lt r
  rw [h3] at h4
  cases c <;> simp [bn] at h2 <;> omega
theorem Mul_l (a b : List Bool) (ha : a.length < 100000) (hb : b.length < 100000) : ∀ (d i : Nat) (out : List Bool), b.length - i = d → i ≤ b.length → bv out = bv a * (bv b % 2 ^ i) → out.length ≤ a.length + 2 * i + 1 →
    ∃ r, Ev (fun k => flyballref01_Mul.l0 k a b out (i : Int)) r ∧ bv r = bv a * bv b ∧ r.length ≤ a.length + 2 * b.length + 1 := by
  intro d
  induction d with
  | zero =>
    intro i out hd hi hv hl
    refine ⟨out, Ev.next ?_, by rw [hv, bv_mod_all b i (by omega)], by omega⟩
    simp only [flyballref01_Mul.l0]
    exact Ev.all fun k => by rw [if_neg (by omega)]
  | succ d ih =>
    intro i out hd hi hv hl
    have e2 := bv_mod_step b i
    have hb0 : rdOf false b (i : Int) = b.getD i false := by unfold rdOf; rw [Int.toNat_natCast]
    cases hy : b.getD i false <;> rw [hy] at e2
    · obtain ⟨r, hr, h4⟩ := ih (i + 1) out (by omega) (by omega) (by rw [hv, e2]; simp [bn]) (by omega)
      refine ⟨r, Ev.next ?_, h4⟩
      simp only [flyballref01_Mul.l0]
      rw [hb0, hy, inc64 i (by omega)]
      exact Ev.congr (fun k => by rw [if_pos (by omega), if_pos (by omega), if_neg (by simp)]) hr
    · obtain ⟨s, hs, s1, s2⟩ := rAdd_ev out (List.replicate i false ++ a) (by omega) (by simp; omega)
      rw [bv_shl] at s1
      simp at s2
      obtain ⟨r, hr, h4⟩ := ih (i + 1) s (by omega) (by omega) (by rw [s1, hv, e2]; simp [bn, Nat.mul_add]) (by omega)
      refine ⟨r, Ev.next ?_, h4⟩
      simp only [flyballref01_Mul.l0]
      rw [hb0, hy, inc64 i (by omega)]
      exact Ev.congr (fun k => by rw [if_pos (by omega), if_pos (by omega), if_pos rfl]) (Ev.b _ (rShl_ev a i (by omega) (by omega)) (Ev.b _ hs hr))
theorem rMul_ev (a b : List Bool) (ha : a.length < 100000) (hb : b.length < 100000) :
    ∃ r, Ev (fun k => flyballref01_Mul.f k a b) r ∧ bv r = bv a * bv b ∧ r.length ≤ a.length + 2 * b.length + 1 :=
  Mul_l a b ha hb b.length 0 [] (by omega) (by omega) (by simp [bv, Nat.mod_one]) (by simp)
end Go.Proofs.Ytmadjhmecfbcmaa.M
end
section
namespace Go.Proofs.Ytmadjhmecfbcmaa.M
open Go.RowKit Go.Proofs.YtmadjhmecfbcmaaW.PrintWords Go.Proofs.YtmadjhmecfbcmaaW.PrintLast Go.Proofs.YtmadjhmecfbcmaaW.PrintMore Go.Proofs.Ytmadjhmecfbcmaa.F
theorem Of_l1 (m : Nat) (hm : m < 18446744073709551616) (res : List Bool) (hres : ∀ out : List Bool, bv out = m → out.length = 64 → out = res) : ∀ (d i : Nat) (out : List Bool), 64 - i = d → i ≤ 64 → out.length = i → bv out = m % 2 ^ i →
    Ev (fun k => flyballref01_Of.l1 k [(m : Int)] out 0 (i : Int)) res := by
  intro d
  induction d with
  | zero =>
    intro i out hd hi ho hv
    obtain rfl : i = 64 := by omega
    refine Ev.next ?_
    simp only [flyballref01_Of.l1]
    have := hres out (by rw [hv, Nat.mod_eq_of_lt]; exact hm) ho
    rw [this]
    refine Ev.congr (fun k => by rw [if_neg (by omega)]) (Ev.next ?_)
    simp only [flyballref01_Of.l0]
    exact Ev.all fun k => by rw [if_neg (by rw [w64 (by omega) (by omega)]; simp)]
  | succ d ih =>
    intro i out hd hi ho hv
    refine Ev.next ?_
    simp only [flyballref01_Of.l1]
    have hr : rd [(m : Int)] 0 = (m : Int) := rfl
    have hw : IntKind.u64.wrap (i : Int) = (i : Int) := wu64 (by omega) (by omega)
    have hq : m / 2 ^ i < 18446744073709551616 := Nat.lt_of_le_of_lt (Nat.div_le_self _ _) hm
    have hb : (bits .and .u64 (shr .u64 (m : Int) (i : Int)) 1 == 1) = (m / 2 ^ i % 2 == 1) := by
      rw [shr_nat _ _ (by omega), and_1 _ hq, Bool.eq_iff_iff, beq_iff_eq, beq_iff_eq]; omega
    have hbn : bn (m / 2 ^ i % 2 == 1) = m / 2 ^ i % 2 := by
      rcases Nat.mod_two_eq_zero_or_one (m / 2 ^ i) with h | h <;> rw [h] <;> rfl
    rw [hr, hw, hb, inc64 i (by omega)]
    have := ih (i + 1) (out ++ [m / 2 ^ i % 2 == 1]) (by omega) (by omega) (by simp [ho]) (by rw [bv_snoc, hv, ho, hbn, Nat.pow_succ, Nat.mod_mul])
    exact Ev.congr (fun k => by rw [if_pos (by omega), if_pos (by omega), if_pos (by simp), if_pos (by omega), if_pos (by omega)]) this
theorem bv_inj : ∀ (a b : List Bool), a.length = b.length → bv a = bv b → a = b
  | [], [], _, _ => rfl
  | x :: a, y :: b, h1, h2 => by
    rw [bv, bv] at h2
    have hx := bn_le x
    have hy := bn_le y
    have e1 : bn x = bn y := by omega
    have e2 : x = y := by cases x <;> cases y <;> simp [bn] at e1 <;> rfl
    rw [e2, bv_inj a b (by simpa using h1) (by omega)]
def tb (m : Nat) : Nat → List Bool
  | 0 => []
  | n + 1 => (m % 2 == 1) :: tb (m / 2) n
theorem tb_len (n : Nat) : ∀ m, (tb m n).length = n := by
  induction n with
  | zero => intro m; rfl
  | succ n ih => intro m; rw [tb, List.length_cons, ih]
theorem tb_bv (n : Nat) : ∀ m, m < 2 ^ n → bv (tb m n) = m := by
  induction n with
  | zero => intro m h; rw [Nat.pow_zero] at h; simp [tb, bv]; omega
  | succ n ih =>
    intro m h
    rw [Nat.pow_succ] at h
    rw [tb, bv, ih (m / 2) (by omega)]
    have hbn : bn (m % 2 == 1) = m % 2 := by
      rcases Nat.mod_two_eq_zero_or_one m with h | h <;> rw [h] <;> rfl
    rw [hbn]; omega
theorem rOf_ev (m : Nat) (hm : m < 18446744073709551616) : Ev (fun k => flyballref01_Of.f k [(m : Int)]) (tb m 64) := by
  refine Ev.next ?_
  simp only [flyballref01_Of.f, flyballref01_Of.l0]
  have := Of_l1 m hm (tb m 64) (fun out h1 h2 => bv_inj _ _ (by rw [h2, tb_len]) (by rw [h1, tb_bv 64 m hm])) 64 0 [] (by omega) (by omega) rfl (by simp [bv, Nat.mod_one])
  exact Ev.congr (fun k => by rw [if_pos (by simp)]; rfl) this
theorem rbits_ev (m : Nat) (hm : m < 18446744073709551616) : ∃ r, Ev (fun k => flyballref06_bits.f k (m : Int)) r ∧ bv r = m ∧ r.length = bl m := by
  have h1 := tb_bv 64 m hm
  have h2 := tb_len 64 m
  have h3 := bl_len (tb m 64)
  refine ⟨(tb m 64).take (bl m), ?_, ?_, ?_⟩
  · unfold flyballref06_bits.f
    refine Ev.b _ (rOf_ev m hm) (Ev.b _ (rLen_ev (tb m 64) (by omega)) (Ev.const ?_))
    rw [h1] at h3 ⊢
    rw [if_pos (by omega), if_pos (by omega), Int.toNat_natCast]
  · have := bv_take_bl (tb m 64)
    rw [h1] at this; exact this
  · rw [List.length_take, h2]; rw [h1, h2] at h3; omega
theorem Of_ok (neg : Bool) (k : Nat) (hk : k ≤ 9218868437227405312) (kk0 : Int) (hkk : kk0 = if neg then -(k : Int) else k) : Ev (fun n => flyballref04_Of.f n kk0 neg) ((sg neg + k : Nat) : Int) := by
  have hm := ref_Make_ok neg (k / 4503599627370496) (k % 4503599627370496) (by omega) (by omega)
  have he : mk neg (k / 4503599627370496) (k % 4503599627370496) = sg neg + k := by unfold mk; omega
  rw [he] at hm
  have J : Ev (fun n => flyballref04_Of.j0 n kk0 neg) ((sg neg + k : Nat) : Int) := by
    refine Ev.next ?_
    simp only [flyballref04_Of.j0]
    cases neg
    · have hk2 : kk0 = (k : Int) := by rw [hkk]; rfl
      rw [hk2]
      have e1 : wrap64 (Int.tdiv (k : Int) 4503599627370496) = ((k / 4503599627370496 : Nat) : Int) := by
        rw [Int.tdiv_eq_ediv_of_nonneg (by omega), w64 (by omega) (by omega)]; omega
      have e2 : IntKind.u64.wrap (Int.tmod (k : Int) 4503599627370496) = ((k % 4503599627370496 : Nat) : Int) := by
        rw [Int.tmod_eq_emod_of_nonneg (by omega), wu64 (by omega) (by omega)]; omega
      rw [e1, e2]
      exact Ev.congr (fun n => by rw [if_neg (by simp)]) (Ev.b (f := fun _ b => some b) _ (Ev.const hm) (Ev.now _))
    · have hk2 : kk0 = -(k : Int) := by rw [hkk]; rfl
      rw [hk2]
      have e0 : wrap64 (-(-(k : Int))) = (k : Int) := by rw [w64 (by omega) (by omega)]; omega
      have e1 : wrap64 (Int.tdiv (k : Int) 4503599627370496) = ((k / 4503599627370496 : Nat) : Int) := by
        rw [Int.tdiv_eq_ediv_of_nonneg (by omega), w64 (by omega) (by omega)]; omega
      have e2 : IntKind.u64.wrap (Int.tmod (k : Int) 4503599627370496) = ((k % 4503599627370496 : Nat) : Int) := by
        rw [Int.tmod_eq_emod_of_nonneg (by omega), wu64 (by omega) (by omega)]; omega
      rw [e0, e1, e2]
      exact Ev.congr (fun n => by rw [if_pos rfl]) (Ev.b (f := fun _ b => some b) _ (Ev.const hm) (Ev.now _))
  unfold flyballref04_Of.f
  by_cases c1 : kk0 < 0
  · have : neg = true := by cases neg; rw [hkk] at c1; simp at c1; omega; rfl
    subst this
    exact Ev.congr (fun n => by rw [if_pos c1]) J
  · by_cases c2 : kk0 = 0
    · exact Ev.congr (fun n => by rw [if_neg c1, if_pos c2]) J
    · have : neg = false := by cases neg; rfl; rw [hkk] at c1 c2; simp at c1 c2; omega
      subst this
      exact Ev.congr (fun n => by rw [if_neg c1, if_neg c2]) J
def cmpX (X : Nat) (s : Bool) (Y : Nat) : Int := if X < Y then -1 else if Y < X then 1 else if s then 1 else 0
theorem rcmp_ev (A B m : List Bool) (E e : Int) (rest : Bool) (hA : A.length < 10000) (hB : B.length < 10000) (hm : m.length < 1000) (hE : -10000 ≤ E ∧ E ≤ 10000) (he : -1075 ≤ e ∧ e ≤ 10000) (hB0 : 0 < bv B) :
    Ev (fun k => flyballref05_cmp.f k A B E rest m e) (cmpX (FX (bv A) (bv B) E) (FS (bv A) (bv B) E rest) (bv m * 2 ^ (e + 1075).toNat)) := by
  obtain ⟨low, hlow⟩ : ∃ l, min E e = l := ⟨_, rfl⟩
  have w1 : wrap64 (E - mn E e) = ((E - low).toNat : Int) := by rw [mn_eq, hlow, w64 (by omega) (by omega)]; omega
  have w2 : wrap64 (e - mn E e) = ((e - low).toNat : Int) := by rw [mn_eq, hlow, w64 (by omega) (by omega)]; omega
  have S1 := rShl_ev A (E - low).toNat (by omega) (by omega)
  obtain ⟨P, hP, P1, P2⟩ := rMul_ev m B (by omega) (by omega)
  have S2 := rShl_ev P (e - low).toNat (by omega) (by omega)
  have C := rCmp_ev (List.replicate (E - low).toNat false ++ A) (List.replicate (e - low).toNat false ++ P) (by simp; omega) (by simp; omega)
  rw [bv_shl, bv_shl, P1] at C
  unfold flyballref05_cmp.f
  rw [w1, w2]
  refine Ev.b _ S1 (Ev.b _ hP (Ev.b _ S2 (Ev.b _ C (Ev.const ?_))))
  obtain ⟨w, hw⟩ : ∃ w : Nat, (w : Int) = low + 1075 + (-(E + 1075)).toNat := ⟨(low + 1075 + (-(E + 1075)).toNat).toNat, by omega⟩
  have k1 : FN (bv A) E = bv A * 2 ^ (E - low).toNat * 2 ^ w := by
    unfold FN; rw [Nat.mul_assoc, ← Nat.pow_add]; congr 2; omega
  have k2 : bv m * 2 ^ (e + 1075).toNat * FD (bv B) E = bv m * bv B * 2 ^ (e - low).toNat * 2 ^ w := by
    unfold FD
    have : 2 ^ (e - low).toNat * 2 ^ w = 2 ^ (e + 1075).toNat * 2 ^ (-(E + 1075)).toNat := by rw [← Nat.pow_add, ← Nat.pow_add]; congr 1; omega
    rw [Nat.mul_assoc (bv m * bv B), this]; grind
  have pw := two_pos w
  have hD : 0 < FD (bv B) E := by unfold FD; exact Nat.mul_pos hB0 (two_pos _)
  have hmod := Nat.div_add_mod (FN (bv A) E) (FD (bv B) E)
  have hml := Nat.mod_lt (FN (bv A) E) hD
  unfold FX FS
  generalize bv A * 2 ^ (E - low).toNat = a at *
  generalize bv m * bv B * 2 ^ (e - low).toNat = b at *
  generalize bv m * 2 ^ (e + 1075).toNat = Y at *
  generalize FD (bv B) E = D at *
  rw [k1] at hmod hml ⊢
  have lt1 : a < b ↔ a * 2 ^ w / D < Y := by
    rw [Nat.div_lt_iff_lt_mul hD, k2]
    exact ⟨fun h => Nat.mul_lt_mul_of_pos_right h pw, fun h => Nat.lt_of_mul_lt_mul_right h⟩
  have lt2 : b < a ↔ Y < a * 2 ^ w / D ∨ Y = a * 2 ^ w / D ∧ a * 2 ^ w % D ≠ 0 := by
    have h1 : b < a ↔ Y * D < a * 2 ^ w := by
      rw [k2]; exact ⟨fun h => Nat.mul_lt_mul_of_pos_right h pw, fun h => Nat.lt_of_mul_lt_mul_right h⟩
    rw [h1]
    have h2 : ¬ a * 2 ^ w / D < Y ↔ Y * D ≤ a * 2 ^ w := by rw [Nat.div_lt_iff_lt_mul hD]; omega
    constructor
    · intro h
      by_cases c : Y < a * 2 ^ w / D
      · exact .inl c
      · right
        have h3 := h2.2 (by omega)
        have h4 : Y = a * 2 ^ w / D := by omega
        refine ⟨h4, fun h5 => ?_⟩
        rw [h5, ← h4, Nat.mul_comm D Y] at hmod; omega
    · rintro (h | ⟨h, h5⟩)
      · have h6 : D * (Y + 1) ≤ D * (a * 2 ^ w / D) := Nat.mul_le_mul_left _ h
        rw [Nat.mul_add, Nat.mul_one, Nat.mul_comm D Y] at h6; omega
      · rw [← h, Nat.mul_comm D Y] at hmod; omega
  unfold cmpX
  by_cases c1 : a < b
  · rw [if_pos c1, if_neg (by omega), if_pos (lt1.1 c1)]
  · rw [if_neg c1, if_neg (fun h => c1 (lt1.2 h))]
    by_cases c2 : b < a
    · rw [if_pos c2, if_neg (by omega)]
      rcases lt2.1 c2 with h | ⟨h, h5⟩
      · rw [if_pos h]
      · rw [if_neg (by omega), decide_eq_true h5, Bool.or_true, if_pos rfl]
    · have n2 : ¬ Y < a * 2 ^ w / D := fun h => c2 (lt2.2 (.inl h))
      have n3 : ¬ a * 2 ^ w % D ≠ 0 := fun h => c2 (lt2.2 (.inr ⟨by have := fun h => c1 (lt1.2 h); omega, h⟩))
      rw [if_neg c2, if_neg n2, if_pos rfl, decide_eq_false n3, Bool.or_false]
      cases rest
      · rw [if_neg (by simp), if_neg (by simp)]
      · rw [if_pos rfl, if_pos rfl]
theorem i64_and52 (a : Nat) (ha : a < 9223372036854775808) : bits .and .i64 (a : Int) 4503599627370495 = ((a % 4503599627370496 : Nat) : Int) := by
  have := bits_mask .i64 63 (by decide) (fun n h0 h1 => by rw [IntKind.wrap_i64]; omega) 52 (by decide) (a : Int) (by omega) (by omega)
  rw [show ((2 : Int) ^ 52 - 1) = 4503599627370495 from rfl, show ((2 : Int) ^ 52) = 4503599627370496 from rfl] at this
  rw [this]; omega
def tm (k : Nat) : Nat := if k / 4503599627370496 = 0 then k % 4503599627370496 else 4503599627370496 + k % 4503599627370496
def te (k : Nat) : Int := if k / 4503599627370496 = 0 then -1074 else ((k / 4503599627370496 : Nat) : Int) - 1075
theorem tm_lt (k : Nat) : tm k < 9007199254740992 := by unfold tm; split <;> omega
theorem te_bd (k : Nat) (h : k ≤ 9218868437227405312) : -1074 ≤ te k ∧ te k ≤ 972 := by unfold te; split <;> omega
theorem tm_magk (k : Nat) : tm k * 2 ^ (te k + 1075).toNat = 2 * magk k := by
  unfold tm te magk
  split
  · rw [show ((-1074 : Int) + 1075).toNat = 1 from rfl]; omega
  · rename_i h
    rw [show (((k / 4503599627370496 : Nat) : Int) - 1075 + 1075).toNat = (k / 4503599627370496 - 1) + 1 by omega, Nat.pow_succ]; grind
theorem rsplit_ev (k : Nat) (hk : k ≤ 9218868437227405312) : Ev (fun n => flyballref05_split.f n (k : Int)) (tb (tm k) 64, te k) := by
  have h1 : IntKind.u64.wrap (bits .and .i64 (k : Int) 4503599627370495) = ((k % 4503599627370496 : Nat) : Int) := by
    rw [i64_and52 k (by omega), wu64 (by omega) (by omega)]
  unfold flyballref05_split.f
  rw [h1]
  by_cases c : k / 4503599627370496 = 0
  · have e1 : tm k = k % 4503599627370496 := by unfold tm; rw [if_pos c]
    have e2 : te k = -1074 := by unfold te; rw [if_pos c]
    rw [e1, e2]
    exact Ev.congr (fun n => by rw [if_pos (by omega)]) (Ev.b (f := fun _ b => some (b, (-1074 : Int))) _ (rOf_ev (k % 4503599627370496) (by omega)) (Ev.now _))
  · have e1 : tm k = 4503599627370496 + k % 4503599627370496 := by unfold tm; rw [if_neg c]
    have e2 : te k = ((k / 4503599627370496 : Nat) : Int) - 1075 := by unfold te; rw [if_neg c]
    have e3 : IntKind.u64.wrap (((k % 4503599627370496 : Nat) : Int) + 4503599627370496) = ((4503599627370496 + k % 4503599627370496 : Nat) : Int) := by rw [wu64 (by omega) (by omega)]; omega
    have e4 : wrap64 ((k : Int) / 4503599627370496 - 1075) = ((k / 4503599627370496 : Nat) : Int) - 1075 := by rw [w64 (by omega) (by omega)]; omega
    rw [e1, e2, e3, e4]
    exact Ev.congr (fun n => by rw [if_neg (by omega)]) (Ev.b (f := fun _ b => some (b, ((k / 4503599627370496 : Nat) : Int) - 1075)) _ (rOf_ev (4503599627370496 + k % 4503599627370496) (by omega)) (Ev.now _))
theorem rcmp_key (A B : List Bool) (E : Int) (rest : Bool) (k : Nat) (hk : k ≤ 9218868437227405312) (hA : A.length < 10000) (hB : B.length < 10000) (hE : -10000 ≤ E ∧ E ≤ 10000) (hB0 : 0 < bv B) :
    Ev (fun n => flyballref05_cmp.f n A B E rest (tb (tm k) 64) (te k)) (cmpX (FX (bv A) (bv B) E) (FS (bv A) (bv B) E rest) (2 * magk k)) := by
  have h := te_bd k hk
  have := rcmp_ev A B (tb (tm k) 64) E (te k) rest hA hB (by rw [tb_len]; omega) hE (by omega) hB0
  rw [tb_bv 64 _ (by have := tm_lt k; omega), tm_magk] at this; exact this
end Go.Proofs.Ytmadjhmecfbcmaa.M
end
section
namespace Go.Proofs.Ytmadjhmecfbcmaa.M
open Go.RowKit Go.Proofs.YtmadjhmecfbcmaaW.PrintWords Go.Proofs.YtmadjhmecfbcmaaW.PrintLast Go.Proofs.YtmadjhmecfbcmaaW.PrintMore Go.Proofs.Ytmadjhmecfbcmaa.F
theorem cmpX_ge (X : Nat) (s : Bool) (Y : Nat) : cmpX X s Y ≥ 0 ↔ Y ≤ X := by
  unfold cmpX
  by_cases c : X < Y
  · rw [if_pos c]; omega
  · rw [if_neg c]; constructor
    · intro _; omega
    · intro _; (repeat' split) <;> omega
def fkc (X : Nat) : Nat := if 9218868437227405312 ≤ fk X then 9218868437227405312 else fk X
theorem halve (lo hi : Nat) (c : lo < hi) (h : hi ≤ 9218868437227405312) : wrap64 ((hi : Int) - wrap64 (Int.tdiv (wrap64 ((hi : Int) - (lo : Int))) 2)) = ((hi - (hi - lo) / 2 : Nat) : Int) := by
  rw [w64 (n := (hi : Int) - (lo : Int)) (by omega) (by omega), Int.tdiv_eq_ediv_of_nonneg (by omega), w64 (n := ((hi : Int) - (lo : Int)) / 2) (by omega) (by omega), w64 (by omega) (by omega)]; omega
set_option maxHeartbeats 1000000 in
theorem floor_l (A B : List Bool) (E : Int) (rest : Bool) (hA : A.length < 10000) (hB : B.length < 10000) (hE : -10000 ≤ E ∧ E ≤ 10000) (hB0 : 0 < bv B) (X : Nat) (hX : FX (bv A) (bv B) E = X) :
    ∀ (d lo hi : Nat), hi - lo = d → lo ≤ hi → hi ≤ 9218868437227405312 → lo ≤ fk X → (hi = 9218868437227405312 ∨ fk X < hi + 1) →
    Ev (fun k => flyballref05_floor.l0 k (lo : Int) (hi : Int) A B E rest) (fkc X : Int) := by
  intro d
  induction d using Nat.strongRecOn with
  | _ d ih =>
  intro lo hi hd hlh hhi h1 h2
  refine Ev.next ?_
  simp only [flyballref05_floor.l0]
  by_cases c : lo < hi
  · have w0 := halve lo hi c hhi
    obtain ⟨k, hk⟩ : ∃ k, hi - (hi - lo) / 2 = k := ⟨_, rfl⟩
    have k1 : lo < k := by omega
    have k2 : k ≤ hi := by omega
    have w1 : wrap64 ((k : Int) - 1) = ((k - 1 : Nat) : Int) := by rw [w64 (by omega) (by omega)]; omega
    rw [w0, hk, w1]
    have C := rcmp_key A B E rest k (by omega) hA hB hE hB0
    rw [hX] at C
    refine Ev.congr (fun n => by rw [if_pos (by omega)]) (Ev.b _ (rsplit_ev k (by omega)) ?_)
    dsimp only
    refine Ev.b _ C ?_
    by_cases c2 : k ≤ fk X
    · have g : cmpX X (FS (bv A) (bv B) E rest) (2 * magk k) ≥ 0 := (cmpX_ge _ _ _).2 ((fk_iff X k).2 c2)
      exact Ev.congr (fun n => by rw [if_pos g]) (ih (hi - k) (by omega) k hi rfl k2 hhi c2 h2)
    · have g : ¬ cmpX X (FS (bv A) (bv B) E rest) (2 * magk k) ≥ 0 := fun h => c2 ((fk_iff X k).1 ((cmpX_ge _ _ _).1 h))
      exact Ev.congr (fun n => by rw [if_neg g]) (ih (k - 1 - lo) (by omega) lo (k - 1) rfl (by omega) (by omega) h1 (.inr (by omega)))
  · have c' : ¬ (lo : Int) < (hi : Int) := by omega
    have c3 : lo = hi := by omega
    subst c3
    have e : ((fkc X : Nat) : Int) = (lo : Int) := by
      unfold fkc
      by_cases g : 9218868437227405312 ≤ fk X
      · rw [if_pos g]; omega
      · rw [if_neg g]; omega
    refine Ev.all fun n => ?_
    rw [if_neg c', e]
theorem rfloor_ev (A B : List Bool) (E : Int) (rest : Bool) (hA : A.length < 10000) (hB : B.length < 10000) (hE : -10000 ≤ E ∧ E ≤ 10000) (hB0 : 0 < bv B) :
    Ev (fun k => flyballref05_floor.f k A B E rest) (fkc (FX (bv A) (bv B) E) : Int) := by
  have F := floor_l A B E rest hA hB hE hB0 _ rfl _ 0 9218868437227405312 rfl (by omega) (by omega) (by omega) (.inl rfl)
  rw [show ((0 : Nat) : Int) = 0 from rfl, show ((9218868437227405312 : Nat) : Int) = 9218868437227405312 from rfl] at F
  unfold flyballref05_floor.f
  exact F
end Go.Proofs.Ytmadjhmecfbcmaa.M
end
section
namespace Go.Proofs.Ytmadjhmecfbcmaa.M
open Go.RowKit Go.Proofs.YtmadjhmecfbcmaaW.PrintWords Go.Proofs.YtmadjhmecfbcmaaW.PrintLast Go.Proofs.YtmadjhmecfbcmaaW.PrintMore Go.Proofs.Ytmadjhmecfbcmaa.F
theorem key_tm (k : Nat) : k = ((te k + 1075).toNat - 1) * 4503599627370496 + tm k ∧ (((te k + 1075).toNat = 1 ∧ tm k < 9007199254740992) ∨ (2 ≤ (te k + 1075).toNat ∧ 4503599627370496 ≤ tm k ∧ tm k < 9007199254740992)) := by
  unfold te tm
  by_cases c : k / 4503599627370496 = 0
  · rw [if_pos c, if_pos c]; omega
  · rw [if_neg c, if_neg c]; omega
theorem mid_key (k : Nat) : (2 * tm k + 1) * 2 ^ (te k - 1 + 1075).toNat = magk k + magk (k + 1) := by
  obtain ⟨h1, h2⟩ := key_tm k
  have m1 := magk_parts _ _ h2
  have m2 := magk_parts_succ _ _ h2
  rw [← h1] at m1 m2
  rw [m1, m2, show (te k - 1 + 1075).toNat = (te k + 1075).toNat - 1 by omega]; grind
theorem or8 : bits .or .u8 (bits .or .u8 0 1) 2 = 3 ∧ bits .or .u8 0 1 = 1 ∧ bits .or .u8 (bits .or .u8 0 4) 1 = 5 ∧ bits .or .u8 (bits .or .u8 1 4) 1 = 5 := by decide
theorem cmpX_eq (X : Nat) (s : Bool) (Y : Nat) : cmpX X s Y = 0 ↔ X = Y ∧ s = false := by
  unfold cmpX
  by_cases c : X < Y
  · rw [if_pos c]; omega
  · rw [if_neg c]
    by_cases c2 : Y < X
    · rw [if_pos c2]; omega
    · rw [if_neg c2]; cases s <;> simp; omega
theorem cmpX_lt (X : Nat) (s : Bool) (Y : Nat) : cmpX X s Y < 0 ↔ X < Y := by
  have := cmpX_ge X s Y; omega
theorem cmpX_gt (X : Nat) (s : Bool) (Y : Nat) : cmpX X s Y > 0 ↔ Y < X ∨ Y = X ∧ s = true := by
  have h1 := cmpX_ge X s Y
  have h2 := cmpX_eq X s Y
  by_cases c : cmpX X s Y > 0
  · refine ⟨fun _ => ?_, fun _ => c⟩
    by_cases e : Y = X
    · right; refine ⟨e, ?_⟩; cases s
      · have := h2.2 ⟨e.symm, rfl⟩; omega
      · rfl
    · left; have := h1.1 (by omega); omega
  · refine ⟨fun h => absurd h c, ?_⟩
    rintro (h | ⟨h, h3⟩)
    · have g1 := h1.2 (by omega)
      have := h2.1 (by omega); omega
    · have g1 := h1.2 (by omega)
      have := h2.1 (by omega); rw [h3] at this; cases this.2
theorem mag_j1 (d k0 fl : Nat) (up : Bool) (hk : k0 ≤ 9218868437227405312) (hfl : fl = 0 ∨ fl = 1 ∨ fl = 3) (h5 : 9218868437227405311 ≤ k0 → fl ≠ 3) :
    Ev (fun n => flyballref05_Magnitude.j1 n (d : Int) (fl : Int) (k0 : Int) up)
      (if 9218868437227405312 ≤ k0 + (if up = true ∧ k0 ≤ 9218868437227405311 then 1 else 0) then ((if d = 2 then 9218868437227405311 else 9218868437227405312 : Int), (5 : Int))
       else (((k0 + (if up = true ∧ k0 ≤ 9218868437227405311 then 1 else 0) : Nat) : Int), (fl : Int))) := by
  have J3 : ∀ k1 : Nat, k1 ≤ 9218868437227405312 → (9218868437227405312 ≤ k1 → fl ≠ 3) → Ev (fun n => flyballref05_Magnitude.j3 n (d : Int) (fl : Int) (k1 : Int))
      (if 9218868437227405312 ≤ k1 then ((if d = 2 then 9218868437227405311 else 9218868437227405312 : Int), (5 : Int)) else ((k1 : Int), (fl : Int))) := by
    intro k1 h1 h2
    refine Ev.next ?_
    simp only [flyballref05_Magnitude.j3]
    by_cases c : 9218868437227405312 ≤ k1
    · have hf : bits .or .u8 (bits .or .u8 (fl : Int) 4) 1 = 5 := by
        have := h2 c
        rcases hfl with h | h | h
        · rw [h]; exact or8.2.2.1
        · rw [h]; exact or8.2.2.2
        · exact absurd h this
      rw [if_pos c, hf]
      by_cases d2 : d = 2
      · rw [if_pos d2]
        exact Ev.all fun n => by rw [if_pos (by omega), if_pos (by omega)]
      · rw [if_neg d2]
        exact Ev.all fun n => by rw [if_pos (by omega), if_neg (by omega)]
    · rw [if_neg c]
      exact Ev.all fun n => by rw [if_neg (by omega)]
  have J2 : ∀ b : Bool, b = (up && decide (k0 ≤ 9218868437227405311)) → Ev (fun n => flyballref05_Magnitude.j2 n (d : Int) (fl : Int) (k0 : Int) b)
      (if 9218868437227405312 ≤ k0 + (if up = true ∧ k0 ≤ 9218868437227405311 then 1 else 0) then ((if d = 2 then 9218868437227405311 else 9218868437227405312 : Int), (5 : Int))
       else (((k0 + (if up = true ∧ k0 ≤ 9218868437227405311 then 1 else 0) : Nat) : Int), (fl : Int))) := by
    intro b hb
    refine Ev.next ?_
    simp only [flyballref05_Magnitude.j2]
    by_cases c : up = true ∧ k0 ≤ 9218868437227405311
    · have hb' : b = true := by rw [hb, c.1, decide_eq_true c.2]; rfl
      have w : wrap64 ((k0 : Int) + 1) = ((k0 + 1 : Nat) : Int) := by rw [w64 (by omega) (by omega)]; omega
      rw [if_pos c, hb', w]
      exact Ev.congr (fun n => by rw [if_pos rfl]) (J3 (k0 + 1) (by omega) (fun h => h5 (by omega)))
    · have hb' : b = false := by
        rw [hb]; cases up
        · rfl
        · rw [decide_eq_false (fun h => c ⟨rfl, h⟩)]; rfl
      rw [if_neg c, hb', Nat.add_zero]
      exact Ev.congr (fun n => by rw [if_neg (by simp)]) (J3 k0 hk (fun h => h5 (by omega)))
  refine Ev.next ?_
  simp only [flyballref05_Magnitude.j1]
  by_cases c : k0 ≤ 9218868437227405311
  · exact Ev.congr (fun n => by rw [if_pos (by omega)]) (J2 up (by rw [decide_eq_true c, Bool.and_true]))
  · exact Ev.congr (fun n => by rw [if_neg (by omega)]) (J2 false (by rw [decide_eq_false c, Bool.and_false]))
theorem rmid_ev (A B : List Bool) (E : Int) (rest : Bool) (k : Nat) (hk : k ≤ 9218868437227405311) (hA : A.length < 10000) (hB : B.length < 10000) (hE : -10000 ≤ E ∧ E ≤ 10000) (hB0 : 0 < bv B) :
    ∃ m2 : List Bool, ∃ m1 : List Bool, Ev (fun n => flyballref01_Add.f n (List.replicate 1 false ++ tb (tm k) 64) (tb 1 64)) m1 ∧ m2 = m1 ∧
    Ev (fun n => flyballref05_cmp.f n A B E rest m2 (te k - 1)) (cmpX (FX (bv A) (bv B) E) (FS (bv A) (bv B) E rest) (magk k + magk (k + 1))) := by
  have h := te_bd k (by omega)
  have ht := tm_lt k
  obtain ⟨r, hr, h1, h2⟩ := rAdd_ev (List.replicate 1 false ++ tb (tm k) 64) (tb 1 64) (by rw [List.length_append, List.length_replicate, tb_len]; omega) (by rw [tb_len]; omega)
  rw [bv_shl, tb_bv 64 _ (by omega), tb_bv 64 1 (by decide)] at h1
  rw [List.length_append, List.length_replicate, tb_len, tb_len] at h2
  refine ⟨r, r, hr, rfl, ?_⟩
  have C := rcmp_ev A B r E (te k - 1) rest hA hB (by omega) hE (by omega) hB0
  rw [h1, Nat.pow_one, Nat.mul_comm (tm k) 2, mid_key] at C
  exact C
theorem up_near_aux (X Y : Nat) (s hh z o : Bool) (m1 : X < Y ↔ hh = false) (m2 : X ≤ Y ↔ hh = false ∨ z = false) :
    (if cmpX X s Y > 0 then true else if cmpX X s Y = 0 then o else false) = (hh && ((s || z) || o)) := by
  have g := cmpX_gt X s Y
  have e := cmpX_eq X s Y
  cases hh
  · have h := m1.2 rfl
    rw [if_neg (fun hc => by have := g.1 hc; omega), if_neg (fun hc => by have := (e.1 hc).1; omega)]; rfl
  · have n1 : ¬ X < Y := fun h => by have := m1.1 h; cases this
    cases z
    · have n2 : X = Y := by have := m2.2 (.inr rfl); omega
      cases s
      · rw [if_neg (fun hc => by rcases g.1 hc with h | h; omega; cases h.2), if_pos (e.2 ⟨n2, rfl⟩)]; rfl
      · rw [if_pos (g.2 (.inr ⟨n2.symm, rfl⟩))]; rfl
    · have n2 : Y < X := by
        by_cases c : X ≤ Y
        · rcases m2.1 c with h | h
          · cases h
          · cases h
        · omega
      rw [if_pos (g.2 (.inl n2))]; cases s <;> rfl
theorem up_near (X : Nat) (s : Bool) : (if cmpX X s (magk (fk X) + magk (fk X + 1)) > 0 then true else if cmpX X s (magk (fk X) + magk (fk X + 1)) = 0 then (fk X % 2 == 1) else false) = (hf X && (rs X s || X / 2 ^ sh X % 2 == 1)) := by
  rw [← odd_fk X]
  unfold rs
  refine up_near_aux X _ s (hf X) _ (fk X % 2 == 1) (mid_lt X) ?_
  rw [mid_le X, bne_eq_false_iff_eq]
end Go.Proofs.Ytmadjhmecfbcmaa.M
end
section
namespace Go.Proofs.Ytmadjhmecfbcmaa.M
open Go.RowKit Go.Proofs.YtmadjhmecfbcmaaW.PrintWords Go.Proofs.YtmadjhmecfbcmaaW.PrintLast Go.Proofs.YtmadjhmecfbcmaaW.PrintMore Go.Proofs.Ytmadjhmecfbcmaa.F
theorem top_if (up : Bool) : (if up = true ∧ 9218868437227405312 ≤ 9218868437227405311 then 1 else 0) = 0 := if_neg (fun h => absurd h.2 (by decide))
theorem mag_value (X : Nat) (s : Bool) (d fl : Nat) (up : Bool)
    (hfl : fl = if hf X || rs X s then (if X < 9007199254740992 then 3 else 1) else 0)
    (hup : fk X < 9218868437227405312 → up = upw X s d) :
    (if 9218868437227405312 ≤ fkc X + (if up = true ∧ fkc X ≤ 9218868437227405311 then 1 else 0) then ((if d = 2 then 9218868437227405311 else 9218868437227405312 : Int), (5 : Int))
       else (((fkc X + (if up = true ∧ fkc X ≤ 9218868437227405311 then 1 else 0) : Nat) : Int), (fl : Int))) = pr (rnd X s d) := by
  by_cases c : 9218868437227405312 ≤ fk X
  · have e : fkc X = 9218868437227405312 := by unfold fkc; rw [if_pos c]
    have hk : kk X s d ≥ 9218868437227405312 := by unfold kk; omega
    rw [e, top_if, Nat.add_zero, if_pos (Nat.le_refl _)]
    unfold rnd pr; rw [if_pos hk]
    by_cases d2 : d = 2
    · rw [if_pos d2, if_pos d2]; rfl
    · rw [if_neg d2, if_neg d2]; rfl
  · have e : fkc X = fk X := by unfold fkc; rw [if_neg c]
    have hu := hup (by omega)
    have hk : fkc X + (if up = true ∧ fkc X ≤ 9218868437227405311 then 1 else 0) = kk X s d := by
      unfold kk; rw [e, hu]; congr 1
      by_cases h : upw X s d = true
      · rw [if_pos ⟨h, by omega⟩, if_pos h]
      · rw [if_neg (fun g => h g.1), if_neg h]
    rw [hk]
    unfold rnd pr
    by_cases g : 9218868437227405312 ≤ kk X s d
    · rw [if_pos g, if_pos g]
      by_cases d2 : d = 2
      · rw [if_pos d2, if_pos d2]; rfl
      · rw [if_neg d2, if_neg d2]; rfl
    · rw [if_neg g, if_neg (show ¬ kk X s d ≥ 9218868437227405312 from g), hfl]
theorem big_X {X : Nat} (h : 9218868437227405311 ≤ fkc X) : ¬ X < 9007199254740992 := by
  intro hx
  have := fk_of_lt hx
  unfold fkc at h; split at h <;> omega
theorem rMag_ev (A B : List Bool) (E : Int) (rest : Bool) (d : Nat) (hA : A.length < 10000) (hB : B.length < 10000) (hE : -10000 ≤ E ∧ E ≤ 10000) (hB0 : 0 < bv B) :
    Ev (fun k => flyballref05_Magnitude.f k A B E rest (d : Int)) (pr (rnd (FX (bv A) (bv B) E) (FS (bv A) (bv B) E rest) d)) := by
  have F := rfloor_ev A B E rest hA hB hE hB0
  have hkc : fkc (FX (bv A) (bv B) E) ≤ 9218868437227405312 := by unfold fkc; split <;> omega
  have S := rsplit_ev _ hkc
  have C := rcmp_key A B E rest _ hkc hA hB hE hB0
  have O : Ev (fun k => flyballref01_Of.f k [1]) (tb 1 64) := rOf_ev 1 (by decide)
  have C2 := rcmp_ev A B (tb 1 64) E (-1022) rest hA hB (by rw [tb_len]; omega) hE (by omega) hB0
  rw [tb_bv 64 1 (by decide), Nat.one_mul, show ((-1022 : Int) + 1075).toNat = 53 from rfl] at C2
  have M := fun hk => rmid_ev A B E rest (fkc (FX (bv A) (bv B) E)) hk hA hB hE hB0
  have Mt := rmid_ev A B E rest 9218868437227405311 (by omega) hA hB hE hB0
  generalize hX : FX (bv A) (bv B) E = X at *
  generalize hs : FS (bv A) (bv B) E rest = s at *
  have hex : fk X < 9218868437227405312 → (cmpX X s (2 * magk (fkc X)) = 0 ↔ (hf X || rs X s) = false) := by
    intro c
    have e : fkc X = fk X := by unfold fkc; rw [if_neg (by omega)]
    rw [cmpX_eq, exact_iff, e]
  have J0 : ∀ (fl : Nat) (eq : Bool), (fl = 0 ∨ fl = 1 ∨ fl = 3) → (9218868437227405311 ≤ fkc X → fl ≠ 3) → (fk X < 9218868437227405312 → fl = if hf X || rs X s then (if X < 9007199254740992 then 3 else 1) else 0) → (fk X < 9218868437227405312 → eq = !(hf X || rs X s)) →
      Ev (fun k => flyballref05_Magnitude.j0 k (d : Int) (fl : Int) (fkc X : Int) eq (tb 1 64) A B E rest) (pr (rnd X s d)) := by
    intro fl eq h1 h2 h3 h4
    have V : ∀ up : Bool, (fk X < 9218868437227405312 → up = upw X s d) → Ev (fun n => flyballref05_Magnitude.j1 n (d : Int) (fl : Int) (fkc X : Int) up) (pr (rnd X s d)) := by
      intro up hup
      have J := mag_j1 d (fkc X) fl up hkc h1 h2
      by_cases c : fk X < 9218868437227405312
      · rw [mag_value X s d fl up (h3 c) hup] at J; exact J
      · have e : fkc X = 9218868437227405312 := by unfold fkc; rw [if_pos (by omega)]
        have g := mag_value X s d (if hf X || rs X s then (if X < 9007199254740992 then 3 else 1) else 0) up rfl hup
        rw [e, top_if, Nat.add_zero, if_pos (Nat.le_refl _)] at g
        rw [e, top_if, Nat.add_zero, if_pos (Nat.le_refl _), g, ← e] at J; exact J
    refine Ev.next ?_
    simp only [flyballref05_Magnitude.j0]
    by_cases d1 : d = 1
    · exact Ev.congr (fun k => by rw [if_pos (by omega)]) (V (!eq) (fun c => by rw [h4 c]; unfold upw; rw [if_pos d1, Bool.not_not]))
    · by_cases d2 : d = 2
      · exact Ev.congr (fun k => by rw [if_neg (by omega), if_pos (by omega)]) (V false (fun c => by unfold upw; rw [if_neg d1, if_pos d2]))
      · refine Ev.congr (fun k => by rw [if_neg (by omega), if_neg (by omega)]) (Ev.b _ S ?_)
        dsimp only
        by_cases c : fkc X ≤ 9218868437227405311
        · have c' : fk X < 9218868437227405312 := by unfold fkc at c; split at c <;> omega
          have e : fkc X = fk X := by unfold fkc; rw [if_neg (by omega)]
          obtain ⟨m2, m1, hm, rfl, hc⟩ := M c
          have w1 : wrap64 (te (fkc X) - 1) = te (fkc X) - 1 := by have := te_bd _ hkc; exact w64 (by omega) (by omega)
          have odd : (Int.tmod (fkc X : Int) 2 == 1) = (fk X % 2 == 1) := by
            rw [Int.tmod_eq_emod_of_nonneg (by omega), e, Bool.eq_iff_iff, beq_iff_eq, beq_iff_eq]; omega
          rw [w1, odd]
          have hu := up_near X s
          rw [e] at hc
          have sh1 : Ev (fun n => flyballref01_Shl.f n (tb (tm (fkc X)) 64) 1) (List.replicate 1 false ++ tb (tm (fkc X)) 64) := rShl_ev (tb (tm (fkc X)) 64) 1 (by omega) (by rw [tb_len]; omega)
          rw [← e] at hc
          refine Ev.congr (fun k => by rw [if_neg (by omega)]) (Ev.b _ sh1 (Ev.b _ hm (Ev.b _ hc ?_)))
          rw [e]
          have U : ∀ b : Bool, (if cmpX X s (magk (fk X) + magk (fk X + 1)) > 0 then true else if cmpX X s (magk (fk X) + magk (fk X + 1)) = 0 then (fk X % 2 == 1) else false) = b → Ev (fun n => flyballref05_Magnitude.j1 n (d : Int) (fl : Int) (fk X : Int) b) (pr (rnd X s d)) := by
            intro b hb
            have := V b (fun _ => by rw [← hb, hu]; unfold upw; rw [if_neg d1, if_neg d2])
            rw [e] at this; exact this
          by_cases g1 : cmpX X s (magk (fk X) + magk (fk X + 1)) > 0
          · exact Ev.congr (fun k => by rw [if_pos g1]) (U true (by rw [if_pos g1]))
          · by_cases g2 : cmpX X s (magk (fk X) + magk (fk X + 1)) = 0
            · exact Ev.congr (fun k => by rw [if_neg g1, if_pos g2]) (U _ (by rw [if_neg g1, if_pos g2]))
            · exact Ev.congr (fun k => by rw [if_neg g1, if_neg g2]) (U false (by rw [if_neg g1, if_neg g2]))
        · have c' : ¬ fk X < 9218868437227405312 := by unfold fkc at c; split at c <;> omega
          obtain ⟨m2, m1, hm, rfl, hc⟩ := Mt
          have St := rsplit_ev 9218868437227405311 (by omega)
          rw [show ((9218868437227405311 : Nat) : Int) = 9218868437227405311 from rfl] at St
          obtain ⟨r, hr, r1, r2⟩ := rAdd_ev (tb (tm 9218868437227405311) 64) (tb 1 64) (by rw [tb_len]; omega) (by rw [tb_len]; omega)
          rw [tb_len, tb_len] at r2
          have sh1 : Ev (fun n => flyballref01_Shl.f n r 1) (List.replicate 1 false ++ r) := rShl_ev r 1 (by omega) (by omega)
          obtain ⟨r', hr', r1', r2'⟩ := rAdd_ev (List.replicate 1 false ++ r) (tb 1 64) (by rw [List.length_append, List.length_replicate]; omega) (by rw [tb_len]; omega)
          rw [List.length_append, List.length_replicate, tb_len] at r2'
          have tb2 := te_bd 9218868437227405311 (by omega)
          have C3 := rcmp_ev A B r' E (te 9218868437227405311 - 1) rest hA hB (by omega) hE (by omega) hB0
          have w1 : wrap64 (te 9218868437227405311 - 1) = te 9218868437227405311 - 1 := w64 (by omega) (by omega)
          have W : ∀ b : Bool, Ev (fun n => flyballref05_Magnitude.j1 n (d : Int) (fl : Int) (fkc X : Int) b) (pr (rnd X s d)) := fun b => V b (fun h => absurd h c')
          refine Ev.congr (fun k => by rw [if_pos (by omega)]) (Ev.b _ St ?_)
          dsimp only
          rw [w1]
          refine Ev.b _ hr (Ev.b _ sh1 (Ev.b _ hr' (Ev.b _ C3 ?_)))
          generalize cmpX (FX (bv A) (bv B) E) (FS (bv A) (bv B) E rest) (bv r' * 2 ^ (te 9218868437227405311 - 1 + 1075).toNat) = g
          by_cases g1 : g > 0
          · exact Ev.congr (fun k => by rw [if_pos g1]) (W true)
          · by_cases g2 : g = 0
            · exact Ev.congr (fun k => by rw [if_neg g1, if_pos g2]) (W _)
            · exact Ev.congr (fun k => by rw [if_neg g1, if_neg g2]) (W false)
  unfold flyballref05_Magnitude.f
  refine Ev.b _ F (Ev.b _ S ?_)
  dsimp only
  refine Ev.b _ C (Ev.b _ O ?_)
  by_cases z : cmpX X s (2 * magk (fkc X)) = 0
  · have J := J0 0 true (.inl rfl) (fun _ => by omega) (fun c => by rw [(hex c).1 z]; rfl) (fun c => by rw [(hex c).1 z]; rfl)
    rw [beq_iff_eq.2 z]
    rw [show ((0 : Nat) : Int) = 0 from rfl] at J
    exact Ev.congr (fun k => by rw [if_pos z]) J
  · have z' : (cmpX X s (2 * magk (fkc X)) == 0) = false := beq_eq_false_iff_ne.2 z
    have hin : fk X < 9218868437227405312 → (hf X || rs X s) = true := by
      intro c
      cases h : (hf X || rs X s)
      · exact absurd ((hex c).2 h) z
      · rfl
    rw [z']
    refine Ev.congr (fun k => by rw [if_neg z]) (Ev.b _ C2 ?_)
    rw [or8.1, or8.2.1]
    by_cases lt : X < 9007199254740992
    · have J := J0 3 false (.inr (.inr rfl)) (fun h => absurd lt (big_X h)) (fun c => by rw [hin c, if_pos rfl, if_pos lt]) (fun c => by rw [hin c]; rfl)
      rw [show ((3 : Nat) : Int) = 3 from rfl] at J
      exact Ev.congr (fun k => by rw [if_pos ((cmpX_lt _ _ _).2 lt)]) J
    · have J := J0 1 false (.inr (.inl rfl)) (fun h => by omega) (fun c => by rw [hin c, if_pos rfl, if_neg lt]) (fun c => by rw [hin c]; rfl)
      rw [show ((1 : Nat) : Int) = 1 from rfl] at J
      exact Ev.congr (fun k => by rw [if_neg (fun h => lt ((cmpX_lt _ _ _).1 h))]) J
end Go.Proofs.Ytmadjhmecfbcmaa.M
end
section
namespace Go.Proofs.Ytmadjhmecfbcmaa.M
open Go.RowKit Go.Proofs.YtmadjhmecfbcmaaW.PrintWords Go.Proofs.YtmadjhmecfbcmaaW.PrintLast Go.Proofs.YtmadjhmecfbcmaaW.PrintMore Go.Proofs.Ytmadjhmecfbcmaa.F
theorem rnd_le (X : Nat) (s : Bool) (d : Nat) : (rnd X s d).1 ≤ 9218868437227405312 := by
  unfold rnd
  by_cases h : kk X s d ≥ 9218868437227405312
  · rw [if_pos h]
    by_cases d2 : d = 2
    · rw [if_pos d2]; decide
    · rw [if_neg d2]; decide
  · rw [if_neg h]; exact Nat.le_of_lt (Nat.lt_of_not_le h)
theorem rSigned_ev (neg : Bool) (A B : List Bool) (E : Int) (rest : Bool) (mode : Nat) (hA : A.length < 10000) (hB : B.length < 10000) (hE : -10000 ≤ E ∧ E ≤ 10000) (hB0 : 0 < bv B) :
    Ev (fun k => flyballref05_Signed.f k neg A B E rest (mode : Int)) (pr (RND neg (FX (bv A) (bv B) E) (FS (bv A) (bv B) E rest) mode)) := by
  have J1 : ∀ w : Nat, Ev (fun k => flyballref05_Signed.j1 k neg (w : Int) A B E rest) (pr (sg neg + (rnd (FX (bv A) (bv B) E) (FS (bv A) (bv B) E rest) w).1, (rnd (FX (bv A) (bv B) E) (FS (bv A) (bv B) E rest) w).2)) := by
    intro w
    have M := rMag_ev A B E rest w hA hB hE hB0
    have hle := rnd_le (FX (bv A) (bv B) E) (FS (bv A) (bv B) E rest) w
    refine Ev.next ?_
    simp only [flyballref05_Signed.j1]
    refine Ev.b _ M ?_
    obtain ⟨r, hr⟩ : ∃ r, rnd (FX (bv A) (bv B) E) (FS (bv A) (bv B) E rest) w = r := ⟨_, rfl⟩
    rw [hr] at hle ⊢
    unfold pr
    dsimp only
    cases neg
    · have O := Of_ok false r.1 hle (r.1 : Int) rfl
      exact Ev.congr (fun k => by rw [if_neg (by simp)]) (Ev.b (f := fun _ x => some (x, (r.2 : Int))) _ O (Ev.now _))
    · have O := Of_ok true r.1 hle (wrap64 (-(r.1 : Int))) (by rw [w64 (by omega) (by omega)]; rfl)
      exact Ev.congr (fun k => by rw [if_pos rfl]) (Ev.b (f := fun _ x => some (x, (r.2 : Int))) _ O (Ev.now _))
  have hR : ∀ w, dir neg mode = w ∨ rnd (FX (bv A) (bv B) E) (FS (bv A) (bv B) E rest) (dir neg mode) = rnd (FX (bv A) (bv B) E) (FS (bv A) (bv B) E rest) w →
      pr (sg neg + (rnd (FX (bv A) (bv B) E) (FS (bv A) (bv B) E rest) w).1, (rnd (FX (bv A) (bv B) E) (FS (bv A) (bv B) E rest) w).2) = pr (RND neg (FX (bv A) (bv B) E) (FS (bv A) (bv B) E rest) mode) := by
    rintro w (h | h)
    · unfold RND; rw [h]
    · unfold RND; rw [h]
  have other : ∀ w X s, w ≠ 1 → w ≠ 2 → rnd X s 0 = rnd X s w := by
    intro w X s h1 h2
    have e : kk X s 0 = kk X s w := by unfold kk upw; rw [if_neg (show ¬ (0 : Nat) = 1 by decide), if_neg (show ¬ (0 : Nat) = 2 by decide), if_neg h1, if_neg h2]
    unfold rnd; rw [e, if_neg (show ¬ (0 : Nat) = 2 by decide), if_neg h2]
  have j1 := J1 1
  have j2 := J1 2
  rw [show ((1 : Nat) : Int) = 1 from rfl] at j1
  rw [show ((2 : Nat) : Int) = 2 from rfl] at j2
  unfold flyballref05_Signed.f
  by_cases m1 : mode = 1
  · have e0 : (mode : Int) = 1 := by omega
    rw [e0]
    cases neg
    · rw [hR 1 (.inl (by unfold dir; rw [if_pos m1]; rfl))] at j1
      refine Ev.congr (fun k => by rw [if_neg (by simp)]) (Ev.next ?_)
      simp only [flyballref05_Signed.j0]
      exact Ev.congr (fun k => by rw [if_neg (by simp), if_neg (by simp)]) j1
    · rw [hR 2 (.inl (by unfold dir; rw [if_pos m1]; rfl))] at j2
      have b1 : ((1 : Int) == 1) = true := rfl
      refine Ev.congr (fun k => by rw [if_pos rfl, b1]) (Ev.next ?_)
      simp only [flyballref05_Signed.j0]
      exact Ev.congr (fun k => by rw [if_pos trivial]) j2
  · have e1 : ((mode : Int) == 1) = false := by rw [beq_eq_false_iff_ne]; omega
    by_cases m2 : mode = 2
    · have e0 : (mode : Int) = 2 := by omega
      rw [e0]
      cases neg
      · rw [hR 2 (.inl (by unfold dir; rw [if_neg m1, if_pos m2]; rfl))] at j2
        refine Ev.congr (fun k => by rw [if_neg (by simp)]) (Ev.next ?_)
        simp only [flyballref05_Signed.j0]
        exact Ev.congr (fun k => by rw [if_neg (by simp), if_neg (by simp)]) j2
      · rw [hR 1 (.inl (by unfold dir; rw [if_neg m1, if_pos m2]; rfl))] at j1
        have b1 : ((2 : Int) == 1) = false := rfl
        refine Ev.congr (fun k => by rw [if_pos rfl, b1]) (Ev.next ?_)
        simp only [flyballref05_Signed.j0]
        exact Ev.congr (fun k => by rw [if_neg (by simp), if_pos trivial, if_pos trivial]) j1
    · have jm := J1 mode
      rw [hR mode (.inr (by
        have : dir neg mode = 0 := by unfold dir; rw [if_neg m1, if_neg m2]
        rw [this]; exact other _ _ _ m1 m2))] at jm
      cases neg
      · refine Ev.congr (fun k => by rw [if_neg (by simp)]) (Ev.next ?_)
        simp only [flyballref05_Signed.j0]
        exact Ev.congr (fun k => by rw [if_neg (by simp), if_neg (by simp)]) jm
      · refine Ev.congr (fun k => by rw [if_pos rfl, e1]) (Ev.next ?_)
        simp only [flyballref05_Signed.j0]
        exact Ev.congr (fun k => by rw [if_neg (by simp), if_pos trivial, if_neg (by omega)]) jm
theorem rRound_ev (neg : Bool) (m : List Bool) (e : Int) (rest : Bool) (mode : Nat) (hm : m.length < 10000) :
    Ev (fun k => flyballref05_Round.f k neg m e rest (mode : Int))
      (if bv m = 0 then ((sg neg : Int), 0) else pr (RND neg (FX (bv m) 1 (cl e)) (FS (bv m) 1 (cl e) (rest && decide (53 < bl (bv m)))) mode)) := by
  have L := rLen_ev m (by omega)
  have hbl := bl_len m
  unfold flyballref05_Round.f
  refine Ev.b _ L ?_
  by_cases c : bv m = 0
  · rw [if_pos c]
    have : (bl (bv m) : Int) = 0 := by rw [c]; rfl
    have O := Of_ok neg 0 (by omega) 0 (by cases neg <;> rfl)
    refine Ev.congr (fun k => by rw [if_pos this]) (Ev.b (f := fun _ x => some (x, (0 : Int))) _ O (Ev.now _))
  · rw [if_neg c]
    have h1 := (bl_bd _ c).1
    have e1 : mn (mx e (-5000)) 5000 = cl e := by rw [mx_eq, mn_eq]; rfl
    have e2 : decide ((bl (bv m) : Int) ≥ 54) = decide (53 < bl (bv m)) := by rw [Bool.eq_iff_iff, decide_eq_true_iff, decide_eq_true_iff]; omega
    have ht := bv_take_bl m
    have hl : (m.take (bl (bv m))).length < 10000 := by rw [List.length_take]; omega
    have hc : -5000 ≤ cl e ∧ cl e ≤ 5000 := by unfold cl; omega
    have S := fun r => rSigned_ev neg (m.take (bl (bv m))) [true] (cl e) r mode hl (by decide) (by omega) (by decide)
    have b1 : bv [true] = 1 := rfl
    rw [ht, b1] at S
    rw [e1, e2, Int.toNat_natCast]
    cases rest
    · exact Ev.congr (fun k => by rw [if_neg (by omega), if_pos (by omega), if_pos (by omega), Option.bind_some, if_neg (by simp)]) (Ev.b (f := fun _ x => some (x.1, x.2)) _ (S false) (Ev.now _))
    · exact Ev.congr (fun k => by rw [if_neg (by omega), if_pos (by omega), if_pos (by omega), Option.bind_some, if_pos rfl]) (Ev.b (f := fun _ x => some (x.1, x.2)) _ (S (decide (53 < bl (bv m)))) (Ev.now _))
end Go.Proofs.Ytmadjhmecfbcmaa.M
end
section
namespace Go.Proofs.Ytmadjhmecfbcmaa.M
open Go.RowKit Go.Proofs.YtmadjhmecfbcmaaW.PrintWords Go.Proofs.YtmadjhmecfbcmaaW.PrintLast Go.Proofs.YtmadjhmecfbcmaaW.PrintMore Go.Proofs.Ytmadjhmecfbcmaa.F
theorem is4 (a : Nat) (h : U a) : Ev (fun k => flyballref06_is.f k (a : Int) 4) (decide (cls a = 4)) := ref_is_ev a 4 h
theorem is3 (a : Nat) (h : U a) : Ev (fun k => flyballref06_is.f k (a : Int) 3) (decide (cls a = 3)) := ref_is_ev a 3 h
theorem rRound_exact (neg : Bool) (m : List Bool) (e : Int) (mode : Nat) (hm : m.length < 10000) (h0 : bv m ≠ 0) (he : -1074 ≤ e) (he2 : e ≤ 5000) :
    Ev (fun k => flyballref05_Round.f k neg m e false (mode : Int)) (pr (RND neg (2 * (bv m * 2 ^ (e + 1074).toNat)) false mode)) := by
  have R := rRound_ev neg m e false mode hm
  have X := exact_scale (bv m) 0 e e (by omega) he
  rw [Nat.pow_zero] at X
  rw [if_neg h0, cl_id (by omega) (by omega), Bool.false_and, X.1, X.2] at R
  exact R
theorem sAdd_of (a b mode : Nat) (ca : cls a ≤ 2) (cb : cls b ≤ 2) (p q P : Nat) (hp : mg a = p * P) (hq : mg b = q * P) (hP : 0 < P) :
    (sgn a = sgn b → sAdd a b mode = if p + q = 0 then (sg (sgn a), 0) else RND (sgn a) (2 * ((p + q) * P)) false mode) ∧
    (sgn a ≠ sgn b → q ≤ p → sAdd a b mode = if p - q = 0 then (sg (decide (mode = 2)), 0) else RND (sgn a) (2 * ((p - q) * P)) false mode) ∧
    (sgn a ≠ sgn b → p ≤ q → sAdd a b mode = if q - p = 0 then (sg (decide (mode = 2)), 0) else RND (sgn b) (2 * ((q - p) * P)) false mode) := by
  have key : ∀ (s : Bool) (n : Nat), sv a + sv b = (if s then -((n * P : Nat) : Int) else ((n * P : Nat) : Int)) → sAdd a b mode = if n = 0 then (sg (if sgn a = sgn b then sgn a else decide (mode = 2)), 0) else RND s (2 * (n * P)) false mode := by
    intro s n h
    rw [sAdd_fin mode ca cb]
    by_cases z : n = 0
    · rw [if_pos z, if_pos (by rw [h, z, Nat.zero_mul]; cases s <;> rfl)]
    · have hn : n * P ≠ 0 := by intro h2; rcases Nat.mul_eq_zero.1 h2 with h3 | h3 <;> omega
      obtain ⟨N, hN⟩ : ∃ N, n * P = N := ⟨_, rfl⟩
      rw [hN] at h hn ⊢
      have hne : ¬ sv a + sv b = 0 := by rw [h]; cases s <;> simp <;> omega
      have e1 : decide (sv a + sv b < 0) = s := by
        rw [h]; cases s
        · exact decide_eq_false (by rw [if_neg (by simp)]; omega)
        · exact decide_eq_true (by rw [if_pos rfl]; omega)
      have e2 : (sv a + sv b).natAbs = N := by rw [h]; cases s <;> simp
      rw [if_neg z, if_neg hne, e1, e2]
  refine ⟨fun h => ?_, fun h hle => ?_, fun h hle => ?_⟩
  · have := key (sgn a) (p + q) (by rw [sv_eq, sv_eq, ← h, hp, hq, Nat.add_mul]; cases sgn a <;> simp <;> omega)
    rw [if_pos h] at this; exact this
  · have hb2 : sgn b = !sgn a := by revert h; cases sgn a <;> cases sgn b <;> simp
    have hm : q * P ≤ p * P := Nat.mul_le_mul_right _ hle
    have := key (sgn a) (p - q) (by rw [sv_eq, sv_eq, hb2, hp, hq, Nat.sub_mul]; cases sgn a <;> simp <;> omega)
    rw [if_neg h] at this; exact this
  · have hb2 : sgn a = !sgn b := by revert h; cases sgn a <;> cases sgn b <;> simp
    have hm : p * P ≤ q * P := Nat.mul_le_mul_right _ hle
    have := key (sgn b) (q - p) (by rw [sv_eq, sv_eq, hb2, hp, hq, Nat.sub_mul]; cases sgn b <;> simp <;> omega)
    rw [if_neg h] at this; exact this
theorem rAdd_j4 (a b mode : Nat) (low : Int) (n : Bool) (s : List Bool) (r : Nat × Nat) (hl : s.length < 10000) (h1 : -1074 ≤ low) (h2 : low ≤ 5000)
    (hr : r = if bv s = 0 then (sg (if sgn a = sgn b then sgn a else decide (mode = 2)), 0) else RND n (2 * (bv s * 2 ^ (low + 1074).toNat)) false mode) :
    Ev (fun k => flyballref06_Add.j4 k (a : Int) (b : Int) (mode : Int) low n s) (pr r) := by
  have m2 : ((mode : Int) == 2) = decide (mode = 2) := eq_nat mode 2
  refine Ev.next ?_
  simp only [flyballref06_Add.j4]
  refine Ev.b _ (rLen_ev s (by omega)) ?_
  by_cases z : bv s = 0
  · have z0 : (bl (bv s) : Int) = 0 := by rw [z]; rfl
    rw [hr, if_pos z, m2]
    refine Ev.congr (fun k => by rw [if_pos z0]) (Ev.b _ (Ev.const (ref_neg_ok a)) (Ev.b _ (Ev.const (ref_neg_ok b)) ?_))
    by_cases e : sgn a = sgn b
    · rw [if_pos e]
      refine Ev.congr (fun k => by rw [if_pos (beq_iff_eq.2 e)]) (Ev.b _ (Ev.const (ref_neg_ok a)) ?_)
      exact Ev.b (f := fun _ x => some (x, (0 : Int))) _ (Ev.const (ref_zero_ok _)) (Ev.now _)
    · rw [if_neg e]
      refine Ev.congr (fun k => by rw [if_neg (fun h => e (beq_iff_eq.1 h))]) ?_
      exact Ev.b (f := fun _ x => some (x, (0 : Int))) _ (Ev.const (ref_zero_ok _)) (Ev.now _)
  · have hb := (bl_bd _ z).1
    rw [hr, if_neg z]
    refine Ev.congr (fun k => by rw [if_neg (by omega)]) ?_
    exact Ev.b (f := fun _ x => some (x.1, x.2)) _ (rRound_exact n s low mode hl z h1 h2) (Ev.now _)
theorem rAdd_j3 (a b mode : Nat) (e f : Int) (ca : cls a ≤ 2) (cb : cls b ≤ 2) (h1 : -1074 ≤ e ∧ e ≤ 971) (h2 : -1074 ≤ f ∧ f ≤ 971) (he : spm a ≠ 0 → e = spe a) (hf : spm b ≠ 0 → f = spe b) :
    Ev (fun k => flyballref06_Add.j3 k (a : Int) (b : Int) (mode : Int) (spm a : Int) e (spm b : Int) f) (pr (sAdd a b mode)) := by
  have la := spm_lt a
  have lb := spm_lt b
  obtain ⟨low, hlow⟩ : ∃ l, min e f = l := ⟨_, rfl⟩
  obtain ⟨A, hA, A1, A2⟩ := rbits_ev (spm a) (by omega)
  obtain ⟨B, hB, B1, B2⟩ := rbits_ev (spm b) (by omega)
  have a3 : A.length ≤ 53 := by rw [A2]; exact bl_le (n := 53) la
  have b3 : B.length ≤ 53 := by rw [B2]; exact bl_le (n := 53) lb
  have w1 : wrap64 (e - mn e f) = ((e - low).toNat : Int) := by rw [mn_eq, hlow, w64 (by omega) (by omega)]; omega
  have w2 : wrap64 (f - mn e f) = ((f - low).toNat : Int) := by rw [mn_eq, hlow, w64 (by omega) (by omega)]; omega
  have S1 := rShl_ev A (e - low).toNat (by omega) (by omega)
  have S2 := rShl_ev B (f - low).toNat (by omega) (by omega)
  obtain ⟨p, hp⟩ : ∃ p, List.replicate (e - low).toNat false ++ A = p := ⟨_, rfl⟩
  obtain ⟨q, hq⟩ : ∃ q, List.replicate (f - low).toNat false ++ B = q := ⟨_, rfl⟩
  have pl : p.length ≤ 3000 := by rw [← hp, List.length_append, List.length_replicate]; omega
  have ql : q.length ≤ 3000 := by rw [← hq, List.length_append, List.length_replicate]; omega
  have pv : mg a = bv p * 2 ^ (low + 1074).toNat := by
    rw [← hp, bv_shl, A1, mg_split a ca]
    by_cases z : spm a = 0
    · rw [z]; simp
    · rw [← he z, Nat.mul_assoc, ← Nat.pow_add]; congr 2; omega
  have qv : mg b = bv q * 2 ^ (low + 1074).toNat := by
    rw [← hq, bv_shl, B1, mg_split b cb]
    by_cases z : spm b = 0
    · rw [z]; simp
    · rw [← hf z, Nat.mul_assoc, ← Nat.pow_add]; congr 2; omega
  rw [hp] at S1
  rw [hq] at S2
  have p6 : p.length < 1000000 := by omega
  have q6 : q.length < 1000000 := by omega
  have pq6 : p.length + q.length < 1000000 := by omega
  have pp : bv p < 2 ^ (p.length + q.length) := Nat.lt_of_lt_of_le (bv_lt p) (pow_le (by omega))
  have qq : bv q < 2 ^ (p.length + q.length) := Nat.lt_of_lt_of_le (bv_lt q) (pow_le (by omega))
  have l1 : -1074 ≤ low := by omega
  have l2 : low ≤ 5000 := by omega
  have lm : ∀ s : List Bool, s.length ≤ max p.length q.length + 1 → s.length < 10000 := fun s h => by omega
  have ln : ∀ s : List Bool, s.length = p.length + q.length → s.length < 10000 := fun s h => by omega
  have V := sAdd_of a b mode ca cb (bv p) (bv q) _ pv qv (two_pos _)
  have w3 : wrap64 ((p.length : Int) + (q.length : Int)) = ((p.length + q.length : Nat) : Int) := by rw [w64 (by omega) (by omega)]; omega
  refine Ev.next ?_
  simp only [flyballref06_Add.j3]
  rw [w1, w2, mn_eq, hlow]
  refine Ev.b _ hA (Ev.b _ S1 (Ev.b _ hB (Ev.b _ S2 (Ev.b _ (Ev.const (ref_neg_ok a)) (Ev.b _ (Ev.const (ref_neg_ok a)) (Ev.b _ (Ev.const (ref_neg_ok b)) ?_))))))
  rw [w3]
  by_cases hs : sgn a = sgn b
  · obtain ⟨s, h3, s1, s2⟩ := rAdd_ev p q p6 q6
    have J := rAdd_j4 a b mode low (sgn a) s (sAdd a b mode) (lm s s2) l1 l2 (by rw [V.1 hs, s1, if_pos hs])
    refine Ev.congr (fun k => by rw [if_pos (beq_iff_eq.2 hs)]) ?_
    refine Ev.b _ h3 ?_
    exact J
  · refine Ev.congr (fun k => by rw [if_neg (fun h => hs (beq_iff_eq.1 h))]) ?_
    refine Ev.b _ (rCmp_ev p q p6 q6) ?_
    obtain ⟨g0, hg0⟩ : ∃ g0, (if bv p < bv q then (-1 : Int) else if bv q < bv p then 1 else 0) = g0 := ⟨_, rfl⟩
    rw [hg0]
    by_cases c : bv q ≤ bv p
    · have g : g0 ≥ 0 := by rw [← hg0, if_neg (Nat.not_lt.2 c)]; split <;> decide
      obtain ⟨s, c', h3, s1, s2⟩ := rSub_ev p q (p.length + q.length) pq6 pp c
      have J := rAdd_j4 a b mode low (sgn a) s (sAdd a b mode) (ln s s2) l1 l2 (by rw [V.2.1 hs c, s1, if_neg hs])
      refine Ev.congr (fun k => by rw [if_pos g]) (Ev.b _ h3 ?_)
      dsimp only
      exact J
    · have c2 := Nat.lt_of_not_le c
      have g : ¬ g0 ≥ 0 := by rw [← hg0, if_pos c2]; decide
      obtain ⟨s, c', h3, s1, s2⟩ := rSub_ev q p (p.length + q.length) pq6 qq (Nat.le_of_lt c2)
      have J := rAdd_j4 a b mode low (sgn b) s (sAdd a b mode) (ln s s2) l1 l2 (by rw [V.2.2 hs (Nat.le_of_lt c2), s1, if_neg hs])
      refine Ev.congr (fun k => by rw [if_neg g]) (Ev.b _ h3 ?_)
      dsimp only
      refine Ev.b _ (Ev.const (ref_neg_ok b)) ?_
      exact J
theorem refAdd_ev (a b mode : Nat) (ha : U a) (hb : U b) : Ev (fun k => flyballref06_Add.f k (a : Int) (b : Int) (mode : Int)) (pr (sAdd a b mode)) := by
  have la := cls_le a
  have lb := cls_le b
  have J1 : ¬ (cls a = 4 ∨ cls b = 4) → Ev (fun k => flyballref06_Add.j1 k (a : Int) (b : Int) (mode : Int) (decide (cls a = 3 ∧ cls b = 3 ∧ sgn a ≠ sgn b))) (pr (sAdd a b mode)) := by
    intro c4
    refine Ev.next ?_
    simp only [flyballref06_Add.j1]
    by_cases c : cls a = 3 ∧ cls b = 3 ∧ sgn a ≠ sgn b
    · have hS : sAdd a b mode = (QN, 16) := by unfold sAdd; rw [if_neg c4, if_pos c]
      rw [hS, decide_eq_true c]
      exact Ev.all fun k => by rw [if_pos rfl]; rfl
    rw [decide_eq_false c]
    refine Ev.congr (fun k => by rw [if_neg (by simp)]) (Ev.b _ (is3 a ha) ?_)
    by_cases a3 : cls a = 3
    · have hS : sAdd a b mode = (a, 0) := by unfold sAdd; rw [if_neg c4, if_neg c, if_pos a3]
      rw [hS, decide_eq_true a3]
      exact Ev.all fun k => by rw [if_pos rfl]; rfl
    rw [decide_eq_false a3]
    refine Ev.congr (fun k => by rw [if_neg (by simp)]) (Ev.b _ (is3 b hb) ?_)
    by_cases b3 : cls b = 3
    · have hS : sAdd a b mode = (b, 0) := by unfold sAdd; rw [if_neg c4, if_neg c, if_neg a3, if_pos b3]
      rw [hS, decide_eq_true b3]
      exact Ev.all fun k => by rw [if_pos rfl]; rfl
    rw [decide_eq_false b3]
    have ka : cls a ≤ 2 := by omega
    have kb : cls b ≤ 2 := by omega
    have ea := spe_bd a
    have eb := spe_bd b
    refine Ev.congr (fun k => by rw [if_neg (by simp)]) (Ev.b _ (ref_Split_ev a ha) (Ev.b _ (ref_Split_ev b hb) ?_))
    dsimp only
    have J2 : ∀ e, -1074 ≤ e ∧ e ≤ 971 → (spm a ≠ 0 → e = spe a) → Ev (fun k => flyballref06_Add.j2 k (a : Int) (b : Int) (mode : Int) (spm a : Int) e (spm b : Int) (spe b)) (pr (sAdd a b mode)) := by
      intro e h1 h2
      refine Ev.next ?_
      simp only [flyballref06_Add.j2]
      by_cases z : spm b = 0
      · exact Ev.congr (fun k => by rw [if_pos (by omega)]) (rAdd_j3 a b mode e e ka kb h1 h1 h2 (fun h => absurd z h))
      · exact Ev.congr (fun k => by rw [if_neg (by omega)]) (rAdd_j3 a b mode e (spe b) ka kb h1 eb h2 (fun _ => rfl))
    by_cases z : spm a = 0
    · exact Ev.congr (fun k => by rw [if_pos (by omega)]) (J2 (spe b) eb (fun h => absurd z h))
    · exact Ev.congr (fun k => by rw [if_neg (by omega)]) (J2 (spe a) ea (fun _ => rfl))
  have J0 : Ev (fun k => flyballref06_Add.j0 k (a : Int) (b : Int) (mode : Int) (decide (cls a = 4 ∨ cls b = 4))) (pr (sAdd a b mode)) := by
    refine Ev.next ?_
    simp only [flyballref06_Add.j0]
    by_cases c4 : cls a = 4 ∨ cls b = 4
    · have hS : sAdd a b mode = (QN, 0) := by unfold sAdd; rw [if_pos c4]
      rw [hS, decide_eq_true c4]
      exact Ev.all fun k => by rw [if_pos rfl]; rfl
    have J := J1 c4
    rw [decide_eq_false c4]
    refine Ev.congr (fun k => by rw [if_neg (by simp)]) (Ev.b _ (is3 a ha) ?_)
    by_cases a3 : cls a = 3
    · rw [decide_eq_true a3]
      refine Ev.congr (fun k => by rw [if_pos rfl]) (Ev.b _ (is3 b hb) ?_)
      by_cases b3 : cls b = 3
      · rw [decide_eq_true b3]
        have : decide (cls a = 3 ∧ cls b = 3 ∧ sgn a ≠ sgn b) = (sgn a != sgn b) := by rw [ne_sgn, Bool.eq_iff_iff, decide_eq_true_iff, decide_eq_true_iff]; exact ⟨fun h => h.2.2, fun h => ⟨a3, b3, h⟩⟩
        rw [this] at J
        exact Ev.congr (fun k => by rw [if_pos rfl]) (Ev.b _ (Ev.const (ref_neg_ok a)) (Ev.b _ (Ev.const (ref_neg_ok b)) J))
      · rw [decide_eq_false b3]
        rw [decide_eq_false (fun h => b3 h.2.1)] at J
        exact Ev.congr (fun k => by rw [if_neg (by simp)]) J
    · rw [decide_eq_false a3]
      rw [decide_eq_false (fun h => a3 h.1)] at J
      exact Ev.congr (fun k => by rw [if_neg (by simp)]) J
  unfold flyballref06_Add.f
  refine Ev.b _ (is4 a ha) ?_
  by_cases a4 : cls a = 4
  · rw [decide_eq_true (.inl a4)] at J0
    rw [decide_eq_true a4]
    exact Ev.congr (fun k => by rw [if_pos rfl]) J0
  · rw [decide_eq_false a4]
    have : decide (cls a = 4 ∨ cls b = 4) = decide (cls b = 4) := by rw [Bool.eq_iff_iff, decide_eq_true_iff, decide_eq_true_iff]; omega
    rw [this] at J0
    exact Ev.congr (fun k => by rw [if_neg (by simp)]) (Ev.b _ (is4 b hb) J0)
end Go.Proofs.Ytmadjhmecfbcmaa.M
end
section
namespace Go.Proofs.Ytmadjhmecfbcmaa.M
open Go.RowKit Go.Proofs.YtmadjhmecfbcmaaW.PrintWords Go.Proofs.YtmadjhmecfbcmaaW.PrintLast Go.Proofs.YtmadjhmecfbcmaaW.PrintMore Go.Proofs.Ytmadjhmecfbcmaa.F
def low (l : List Bool) (j : Nat) : Prop := ∀ i, i < j → l.getD i false = false
end Go.Proofs.Ytmadjhmecfbcmaa.M
end
section
namespace Go.Proofs.Ytmadjhmecfbcmaa.M
open Go.RowKit Go.Proofs.YtmadjhmecfbcmaaW.PrintWords Go.Proofs.YtmadjhmecfbcmaaW.PrintLast Go.Proofs.YtmadjhmecfbcmaaW.PrintMore Go.Proofs.Ytmadjhmecfbcmaa.F
theorem c1 : sAdd 4607182418800017408 4368491638549381120 0 = (4607182418800017408, 1) := by decide +kernel
theorem c2 : (sAdd 4607182418800017408 4368491638549381120 1).1 = 4607182418800017409 := by decide +kernel
theorem c3 : (sAdd 4607182418800017408 (ng 4607182418800017408) 0).1 = 0 := by decide +kernel
theorem c4' : (sAdd 4607182418800017408 (ng 4607182418800017408) 2).1 = 9223372036854775808 := by decide +kernel
theorem c5 : sDiv 13830554455654793216 0 0 = (18442240474082181120, 8) := by decide +kernel
theorem c6 : (sSqrt 4611686018427387904 0).1 = 4609047870845172685 := by decide +kernel
theorem c7 : sMul 0 9218868437227405312 0 = (QN, 16) := by decide +kernel
theorem c8 : sSum 0 0 [4607182418800017408, 4607182418800017408, 4607182418800017408] = 4613937818241073152 := by decide +kernel
theorem wf_u64 {x : Int} (h : (Lit.int .u64 x).wf = true) : ∃ a : Nat, x = a ∧ U a := by
  have h2 := (Bool.and_eq_true _ _).mp h
  have h0 : (0 : Int) ≤ x := of_decide_eq_true h2.1
  have h1 : x ≤ 18446744073709551615 := of_decide_eq_true h2.2
  exact ⟨x.toNat, by omega, by unfold U; omega⟩
theorem wf_u8 {x : Int} (h : (Lit.int .u8 x).wf = true) : ∃ a : Nat, x = a ∧ a < 256 := by
  have h2 := (Bool.and_eq_true _ _).mp h
  have h0 : (0 : Int) ≤ x := of_decide_eq_true h2.1
  have h1 : x ≤ 255 := of_decide_eq_true h2.2
  exact ⟨x.toNat, by omega, by omega⟩
theorem Ev.ex {α : Type} {g : Nat → Option α} {r : α} (h : Ev g r) : ∃ k, g k = some r := by
  obtain ⟨k, hk⟩ := h; exact ⟨k, hk k (Nat.le_refl _)⟩
instance (a : Nat) : Decidable (U a) := by unfold U; infer_instance
theorem w1 : Ev (fun k => soft_Add.f k 4607182418800017408 4368491638549381120 0) (4607182418800017408, 1) := by
  have := Add_ev 4607182418800017408 4368491638549381120 0 (by decide) (by decide)
  rw [c1] at this; exact this
theorem w2 : ∃ y, Ev (fun k => soft_Add.f k 4607182418800017408 4368491638549381120 1) (4607182418800017409, y) := by
  have := Add_ev 4607182418800017408 4368491638549381120 1 (by decide) (by decide)
  unfold pr at this
  rw [c2] at this; exact ⟨_, this⟩
theorem w3 : ∃ y, Ev (fun k => soft_Sub.f k 4607182418800017408 4607182418800017408 0) (0, y) := by
  have := Sub_ev 4607182418800017408 4607182418800017408 0 (by decide) (by decide)
  unfold pr at this
  rw [c3] at this; exact ⟨_, this⟩
theorem w4 : ∃ y, Ev (fun k => soft_Sub.f k 4607182418800017408 4607182418800017408 2) (9223372036854775808, y) := by
  have := Sub_ev 4607182418800017408 4607182418800017408 2 (by decide) (by decide)
  unfold pr at this
  rw [c4'] at this; exact ⟨_, this⟩
theorem w5 : Ev (fun k => soft_Div.f k 13830554455654793216 0 0) (18442240474082181120, 8) := by
  have := Div_ev 13830554455654793216 0 0 (by decide) (by decide)
  rw [c5] at this; exact this
theorem w6 : ∃ y, Ev (fun k => soft_Sqrt.f k 4611686018427387904 0) (4609047870845172685, y) := by
  have := Sqrt_ev 4611686018427387904 0 (by decide)
  unfold pr at this
  rw [c6] at this; exact ⟨_, this⟩
theorem w7 : Ev (fun k => soft_Mul.f k 0 9218868437227405312 0) (QN, 16) := by
  have := Mul_ev 0 9218868437227405312 0 (by decide) (by decide)
  rw [c7] at this; exact this
theorem w8 : Ev (fun k => soft_Sum.f k 0 [4607182418800017408, 4607182418800017408, 4607182418800017408]) 4613937818241073152 := by
  have := softSum_ev 0 [4607182418800017408, 4607182418800017408, 4607182418800017408] (by decide) (by intro x hx; simp at hx; subst hx; decide)
  rw [c8] at this; exact this
theorem w9 : Ev (fun k => pattern_Inf.f k false) 9218868437227405312 := Inf_ev false
theorem w10 : Ev (fun k => pattern_Inf.f k true) 18442240474082181120 := Inf_ev true
theorem works_ev : Ev (fun k => flyballlaw06_works.f k) true := by
  obtain ⟨y2, w2⟩ := w2
  obtain ⟨y3, w3⟩ := w3
  obtain ⟨y4, w4⟩ := w4
  obtain ⟨y6, w6⟩ := w6
  unfold flyballlaw06_works.f
  refine Ev.b _ w1 ?_
  refine Ev.b _ w2 ?_
  refine Ev.b _ w3 ?_
  refine Ev.b _ w4 ?_
  refine Ev.b _ w5 ?_
  refine Ev.b _ w6 ?_
  refine Ev.b _ w9 ?_
  refine Ev.b _ w7 ?_
  refine Ev.b _ w8 ?_
  dsimp only
  refine Ev.congr (fun k => by rw [if_pos rfl, if_pos rfl, if_pos rfl, if_pos rfl, if_pos rfl]) ?_
  refine Ev.b _ w10 ?_
  refine Ev.congr (fun k => by rw [if_pos rfl, if_pos rfl, if_pos rfl]) ?_
  refine Ev.b _ (Ev.const Quiet_ok) ?_
  exact Ev.congr (fun k => by rw [if_pos rfl, if_pos rfl, beq_self_eq_true]) (Ev.now _)
theorem Sums_l (mode : Nat) (l : List Nat) (hl : l.length < 1000) (hU : ∀ x ∈ l, U x) : ∀ (d i s : Nat), l.length - i = d → i ≤ l.length → U s → sSum mode s (l.drop i) = sSum mode 0 l →
    Ev (fun k => flyballlaw06_SoftSums.l0 k (mode : Int) (l.map Nat.cast) true (s : Int) (i : Int)) true
  | 0, i, s, hd, hi, hs, he => by
    refine Ev.next ?_
    simp only [flyballlaw06_SoftSums.l0]
    rw [List.drop_eq_nil_of_le (by omega)] at he
    rw [List.length_map]
    refine Ev.congr (fun k => by rw [if_neg (by omega), if_pos trivial]) ?_
    refine Ev.b _ (softSum_ev mode l (by omega) hU) ?_
    have : s = sSum mode 0 l := he
    rw [← this, beq_self_eq_true]
    exact Ev.now _
  | d + 1, i, s, hd, hi, hs, he => by
    have hlt : i < l.length := by omega
    have hg : rd (l.map Nat.cast) (i : Int) = ((l[i] : Nat) : Int) := by
      unfold rd; rw [Int.toNat_natCast, List.getD_eq_getElem?_getD, List.getElem?_map, List.getElem?_eq_getElem hlt]; rfl
    have w1 : wrap64 ((i : Int) + 1) = ((i + 1 : Nat) : Int) := by rw [w64 (by omega) (by omega)]; omega
    have hUi := hU l[i] (List.getElem_mem hlt)
    rw [List.drop_eq_getElem_cons hlt] at he
    refine Ev.next ?_
    simp only [flyballlaw06_SoftSums.l0]
    rw [hg, w1, List.length_map]
    refine Ev.congr (fun k => by rw [if_pos (by omega), if_pos (by omega)]) ?_
    refine Ev.b _ (refAdd_ev s l[i] mode hs hUi) ?_
    exact Sums_l mode l hl hU d (i + 1) _ (by omega) (by omega) (sAdd_U _ _ _ hs hUi) he
theorem map_nat : ∀ (l : List Int), (∀ x ∈ l, (Lit.int .u64 x).wf = true) → ∃ l' : List Nat, l = l'.map Nat.cast ∧ ∀ x ∈ l', U x
  | [], _ => ⟨[], rfl, by simp⟩
  | x :: l, h => by
    obtain ⟨a, ha, hU⟩ := wf_u64 (h x (by simp))
    obtain ⟨l', h1, h2⟩ := map_nat l (fun y hy => h y (by simp [hy]))
    exact ⟨a :: l', by rw [h1, ha]; rfl, by intro y hy; rcases List.mem_cons.1 hy with rfl | hy; exact hU; exact h2 y hy⟩
theorem SoftSums : flyballlaw06_SoftSums.Pure := by
  intro a0 l1 h0 _ _ h3
  obtain ⟨m, rfl, _⟩ := wf_u8 h0
  obtain ⟨l, rfl, hU⟩ := map_nat l1 h3
  refine Ev.ex (r := true) ?_
  unfold flyballlaw06_SoftSums.f
  refine Ev.b _ works_ev ?_
  by_cases c : ((l.map Nat.cast : List Int).length : Int) > 100
  · exact Ev.congr (fun k => by rw [if_pos rfl, if_pos c]) (Ev.now _)
  · have hl : l.length ≤ 100 := by rw [List.length_map] at c; omega
    refine Ev.congr (fun k => by rw [if_pos rfl, if_neg c]) ?_
    exact Sums_l m l (by omega) hU l.length 0 0 (by omega) (by omega) (by decide) rfl
end Go.Proofs.Ytmadjhmecfbcmaa.M
end
