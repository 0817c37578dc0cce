/- The walk of the law SpanTests and what it computes, part 6 of 6: no conditions. -/
import Derived.Test.YtmadjhmecfbcmaaASpanTests5
set_option linter.unusedVariables false
set_option linter.unusedSimpArgs false
section
namespace Go.Proofs.Ytmadjhmecfbcmaa.M
open Go.RowKit Go.Proofs.YtmadjhmecfbcmaaW.PrintWords Go.Proofs.YtmadjhmecfbcmaaW.PrintLast Go.Proofs.YtmadjhmecfbcmaaW.PrintMore Go.Proofs.Ytmadjhmecfbcmaa.F
theorem tw_word {m : Nat} (h : m < 18446744073709551616) : tw m = (0, (m : Int)) := by
 unfold tw; rw [Nat.div_eq_of_lt h, Nat.mod_eq_of_lt h]; rfl
theorem U128_Add (p q : Nat) (h : p + q < 340282366920938463463374607431768211456) :
  wide_U128_Add.f (tw p).1 (tw p).2 (tw q).1 (tw q).2 = some ((tw (p + q)).1, (tw (p + q)).2, 0) := by
 unfold wide_U128_Add.f tw
 dsimp only
 rw [if_pos (by omega)]
 congr 1
 ext <;> dsimp only <;> omega
theorem U128_Sub (p q : Nat) (_hp : p < 340282366920938463463374607431768211456) (h : q ≤ p) :
  wide_U128_Sub.f (tw p).1 (tw p).2 (tw q).1 (tw q).2 = some ((tw (p - q)).1, (tw (p - q)).2, 0) := by
 unfold wide_U128_Sub.f tw
 dsimp only
 rw [if_pos (by omega)]
 congr 1
 by_cases c : p % 18446744073709551616 < q % 18446744073709551616
 ·rw [if_pos (by omega)]
  ext <;> dsimp only <;> (try split) <;> omega
 ·rw [if_neg (by omega)]
  ext <;> dsimp only <;> (try split) <;> omega
theorem tw_eq_zero (p : Nat) (_hp : p < 340282366920938463463374607431768211456) : ((tw p).1 == 0 && ((tw p).2 == 0)) = decide (p = 0) := by
 unfold tw
 rw [Bool.eq_iff_iff, Bool.and_eq_true, beq_iff_eq, beq_iff_eq, decide_eq_true_iff]; dsimp only; omega
theorem cl_id {e : Int} (h : -5000 ≤ e) (h2 : e ≤ 5000) : cl e = e := by unfold cl; omega
theorem exact_scale (N d : Nat) (ea eb : Int) (he : ea = eb + d) (hb : -1074 ≤ eb) : FX N (2 ^ d) ea = 2 * (N * 2 ^ (eb + 1074).toNat) ∧ FS N (2 ^ d) ea false = false := by
 have h0 : (-(ea + 1075)).toNat = 0 := by omega
 have e1 : N * 2 ^ (ea + 1075).toNat = 2 ^ d * (2 * (N * 2 ^ (eb + 1074).toNat)) := by
  have : 2 ^ (ea + 1075).toNat = 2 ^ d * (2 ^ (eb + 1074).toNat * 2) := by rw [← Nat.pow_succ, ← Nat.pow_add]; congr 1; omega
  rw [this]; grind
 unfold FX FS FN FD
 rw [h0, Nat.pow_zero, Nat.mul_one, e1, Nat.mul_div_cancel_left _ (two_pos d), Nat.mul_mod_right]
 exact ⟨rfl, rfl⟩
theorem ar1 {n m P Q r : Nat} (h1 : n + m = P) (h2 : Q + r = m) (h3 : r = 0) : n = P - Q := by omega
theorem ar3 {m D : Nat} (h1 : m < 9007199254740992) (h2 : 2 ^ 71 ≤ D) : m * 1180591620717411303424 < 9007199254740992 * D := by
 have h3 : 2361183241434822606848 ≤ D := h2
 have := Nat.mul_le_mul_left 9007199254740992 h3; omega
theorem ar2 {n m P Q r D : Nat} (h1 : n + m = P) (h2 : Q + r = m) (h3 : Q + D ≤ P) (h4 : r < D) : n = (D - r) + (P - Q - D) := by omega
theorem num_add_ev (fa fb ca cb : Int) (na nb : Bool) (ma mb : Nat) (ea eb : Int) (mode : Nat) (h1 : 1 ≤ ma) (h2 : ma < 9007199254740992) (h3 : 1 ≤ mb) (h4 : mb < 9007199254740992)
    (h5 : -1074 ≤ eb) (h6 : eb ≤ ea) (h7 : ea ≤ 971) (h8 : ea = eb → mb ≤ ma) (h9 : -1074 < ea → 4503599627370496 ≤ ma) :
    mb ≤ ma * 2 ^ (ea - eb).toNat ∧
    Ev (fun k => soft_num_add.f k fa ca na (ma : Int) ea fb cb nb (mb : Int) eb (mode : Int))
      (if na = nb then pr (RND na (2 * ((ma * 2 ^ (ea - eb).toNat + mb) * 2 ^ (eb + 1074).toNat)) false mode)
       else if ma * 2 ^ (ea - eb).toNat = mb then ((sg (decide (mode = 2)) : Int), 0)
       else pr (RND na (2 * ((ma * 2 ^ (ea - eb).toNat - mb) * 2 ^ (eb + 1074).toNat)) false mode)) := by
  obtain ⟨d, hd⟩ : ∃ d : Nat, ea - eb = d := ⟨(ea - eb).toNat, by omega⟩
  rw [show (ea - eb).toNat = d by omega]
  have pd := two_pos d
  have hge : mb ≤ ma * 2 ^ d := by
    by_cases c : d = 0
    · subst c; have := h8 (by omega); omega
    · have := h9 (by omega)
      obtain ⟨u, rfl⟩ : ∃ u, d = u + 1 := ⟨d - 1, by omega⟩
      have pu := two_pos u
      have : ma * 1 ≤ ma * 2 ^ u := Nat.mul_le_mul_left _ pu
      rw [Nat.pow_succ, ← Nat.mul_assoc]; omega
  refine ⟨hge, ?_⟩
  have S1 : Ev (fun k => wide_U128_Shl.f k 0 (ma : Int) 70) (tw (ma * 1180591620717411303424)) := by
    have := Shl_tw ma 70 (by omega) (by omega)
    rw [tw_word (by omega), show (2 : Nat) ^ 70 = 1180591620717411303424 from rfl, Nat.mod_eq_of_lt (by omega)] at this; exact this
  have S2 : Ev (fun k => wide_U128_Shl.f k 0 (mb : Int) 70) (tw (mb * 1180591620717411303424)) := by
    have := Shl_tw mb 70 (by omega) (by omega)
    rw [tw_word (by omega), show (2 : Nat) ^ 70 = 1180591620717411303424 from rfl, Nat.mod_eq_of_lt (by omega)] at this; exact this
  have S3 := Shr_tw (mb * 1180591620717411303424) d (by omega) (by omega)
  have w1 : wrap64 (ea - eb) = (d : Int) := by rw [w64 (by omega) (by omega)]; omega
  have w2 : wrap64 (ea - 70) = ea - 70 := w64 (by omega) (by omega)
  have hc : cl (ea - 70) = ea - 70 := cl_id (by omega) (by omega)
  have hqd := Nat.div_add_mod (mb * 1180591620717411303424) (2 ^ d)
  have hqm := Nat.mod_lt (mb * 1180591620717411303424) pd
  have hql : mb * 1180591620717411303424 / 2 ^ d ≤ mb * 1180591620717411303424 := Nat.div_le_self _ _
  have hqp : mb * 1180591620717411303424 / 2 ^ d ≤ ma * 1180591620717411303424 := by
    have h10 : mb * 1180591620717411303424 ≤ 2 ^ d * (ma * 1180591620717411303424) := by
      have : mb * 1180591620717411303424 ≤ ma * 2 ^ d * 1180591620717411303424 := Nat.mul_le_mul_right _ hge
      rw [show ma * 2 ^ d * 1180591620717411303424 = 2 ^ d * (ma * 1180591620717411303424) by grind] at this; exact this
    exact Nat.div_le_of_le_mul h10
  have hlostd : mb * 1180591620717411303424 % 2 ^ d ≠ 0 → 71 ≤ d := by
    intro hne
    by_cases c : d ≤ 70
    · exfalso; apply hne
      have : (1180591620717411303424 : Nat) = 2 ^ d * 2 ^ (70 - d) := by rw [← Nat.pow_add, show d + (70 - d) = 70 by omega]
      rw [this, Nat.mul_left_comm, Nat.mul_mod_right]
    · omega
  have fin : ∀ (N s : Nat) (lost : Bool), N ≠ 0 → s < 340282366920938463463374607431768211456 → N * 1180591620717411303424 / 2 ^ d = s → lost = decide (N * 1180591620717411303424 % 2 ^ d ≠ 0) → s ≠ 0 →
      (lost = true → 9007199254740992 ≤ s) →
      Ev (fun k => round_Round.f k na (tw s).1 (tw s).2 (ea - 70) lost (mode : Int)) (pr (RND na (2 * (N * 2 ^ (eb + 1074).toNat)) false mode)) := by
    intro N s lost hN hs e1 e2 hs0 hl
    have R := Round_ev na s (ea - 70) lost mode hs
    rw [if_neg hs0, hc] at R
    have e3 : (lost && decide (53 < bl s)) = lost := by
      cases lost
      · rfl
      · rw [Bool.true_and, decide_eq_true_iff]
        have h11 := hl rfl
        by_cases c : bl s ≤ 53
        · have := bl_small c; omega
        · omega
    rw [e3] at R
    have T := two_step na (N * 1180591620717411303424) (2 ^ d) (ea - 70) mode pd (by
      by_cases c : N * 1180591620717411303424 % 2 ^ d = 0
      · exact .inl c
      · right; rw [e1]; apply hl; rw [e2, decide_eq_true c])
    rw [e1, ← e2] at T
    have K := FXS_scale N (2 ^ d) 70 ea false
    rw [show (2 : Nat) ^ 70 = 1180591620717411303424 from rfl, show ((70 : Nat) : Int) = 70 from rfl] at K
    have X := exact_scale N d ea eb (by omega) h5
    rw [K.1, K.2, X.1, X.2] at T
    rw [T] at R
    exact R
  unfold soft_num_add.f
  refine Ev.b _ S1 (Ev.b _ S2 ?_)
  rw [w1]
  refine Ev.b _ S3 ?_
  dsimp only
  rw [w2]
  by_cases hs : na = nb
  · rw [if_pos hs]
    have hs' : (na == nb) = true := by rw [beq_iff_eq]; exact hs
    have hq : (ma * 2 ^ d + mb) * 1180591620717411303424 / 2 ^ d = ma * 1180591620717411303424 + mb * 1180591620717411303424 / 2 ^ d := by
      rw [show (ma * 2 ^ d + mb) * 1180591620717411303424 = mb * 1180591620717411303424 + 2 ^ d * (ma * 1180591620717411303424) by grind, Nat.add_mul_div_left _ _ pd]; omega
    have hm : (ma * 2 ^ d + mb) * 1180591620717411303424 % 2 ^ d = mb * 1180591620717411303424 % 2 ^ d := by
      rw [show (ma * 2 ^ d + mb) * 1180591620717411303424 = mb * 1180591620717411303424 + 2 ^ d * (ma * 1180591620717411303424) by grind, Nat.add_mul_mod_self_left]
    have g1 : ma * 1180591620717411303424 + mb * 1180591620717411303424 / 2 ^ d < 340282366920938463463374607431768211456 := by omega
    have g2 : 9007199254740992 ≤ ma * 1180591620717411303424 + mb * 1180591620717411303424 / 2 ^ d := Nat.le_trans (by omega) (Nat.le_add_right _ _)
    have F := fin (ma * 2 ^ d + mb) _ (decide (mb * 1180591620717411303424 % 2 ^ d ≠ 0)) (by omega) g1 hq (by rw [hm]) (Nat.ne_of_gt (Nat.lt_of_lt_of_le (by decide) g2)) (fun _ => g2)
    have UA := U128_Add _ _ g1
    refine Ev.congr (fun k => by rw [if_pos hs']) (Ev.b _ (Ev.const UA) ?_)
    dsimp only
    exact Ev.b (f := fun _ b => some (b.1, b.2)) _ F (Ev.now _)
  · rw [if_neg hs]
    have hs' : ¬ (na == nb) = true := by rw [beq_iff_eq]; exact hs
    have g0 : ma * 1180591620717411303424 < 340282366920938463463374607431768211456 := by omega
    have US := U128_Sub _ _ g0 hqp
    refine Ev.congr (fun k => by rw [if_neg hs']) (Ev.b _ (Ev.const US) ?_)
    dsimp only
    rw [tw_eq_zero _ (Nat.lt_of_le_of_lt (Nat.sub_le _ _) g0)]
    by_cases hz : ma * 2 ^ d = mb
    · rw [if_pos hz]
      have z : ma * 1180591620717411303424 - mb * 1180591620717411303424 / 2 ^ d = 0 := by
        rw [← hz, show ma * 2 ^ d * 1180591620717411303424 = 2 ^ d * (ma * 1180591620717411303424) by grind, Nat.mul_div_cancel_left _ pd]; omega
      have hmz : ((mode : Int) == 2) = decide (mode = 2) := by rw [Bool.eq_iff_iff, beq_iff_eq, decide_eq_true_iff]; omega
      rw [decide_eq_true z]
      refine Ev.congr (fun k => by rw [if_pos rfl, hmz]) (Ev.b (f := fun _ b => some (b, (0 : Int))) _ (zero_ev _) (Ev.now _))
    · rw [if_neg hz]
      have hlt : mb < ma * 2 ^ d := by omega
      have hA : (ma * 2 ^ d - mb) * 1180591620717411303424 + mb * 1180591620717411303424 = 2 ^ d * (ma * 1180591620717411303424) := by
        rw [← Nat.add_mul, Nat.sub_add_cancel hge]; grind
      have hqlt : mb * 1180591620717411303424 / 2 ^ d < ma * 1180591620717411303424 := by
        rw [Nat.div_lt_iff_lt_mul pd, Nat.mul_right_comm]
        exact Nat.mul_lt_mul_of_pos_right hlt (by decide)
      have hN : ma * 2 ^ d - mb ≠ 0 := by omega
      obtain ⟨N, hNN⟩ : ∃ N, ma * 2 ^ d - mb = N := ⟨_, rfl⟩
      obtain ⟨p, hpp⟩ : ∃ p, ma * 1180591620717411303424 = p := ⟨_, rfl⟩
      obtain ⟨q, hqq⟩ : ∃ q, mb * 1180591620717411303424 / 2 ^ d = q := ⟨_, rfl⟩
      obtain ⟨r, hrr⟩ : ∃ r, mb * 1180591620717411303424 % 2 ^ d = r := ⟨_, rfl⟩
      rw [hNN, hpp] at hA
      rw [hpp, hqq] at hqlt hqp
      rw [hqq, hrr] at hqd
      rw [hrr] at hlostd hqm
      rw [hNN] at hN
      rw [hNN, hpp, hqq, hrr]
      have z : ¬ p - q = 0 := Nat.sub_ne_zero_of_lt hqlt
      rw [decide_eq_false z]
      by_cases hr : r = 0
      · have hA2 : N * 1180591620717411303424 = 2 ^ d * (p - q) := by rw [Nat.mul_sub]; exact ar1 hA hqd hr
        have F := fin N (p - q) false hN (by omega) (by rw [hA2, Nat.mul_div_cancel_left _ pd]) (by rw [hA2, Nat.mul_mod_right]; rfl) z (by simp)
        rw [decide_eq_false (show ¬ r ≠ 0 by omega)]
        exact Ev.congr (fun k => by rw [if_neg (by simp), if_neg (by simp)]) (Ev.b (f := fun _ b => some (b.1, b.2)) _ F (Ev.now _))
      · have h71 := hlostd hr
        have hma := h9 (by omega)
        have hA2 : N * 1180591620717411303424 = (2 ^ d - r) + 2 ^ d * (p - q - 1) := by
          rw [Nat.mul_sub, Nat.mul_sub, Nat.mul_one]
          have h12 : 2 ^ d * q + 2 ^ d ≤ 2 ^ d * p := by
            have : 2 ^ d * (q + 1) ≤ 2 ^ d * p := Nat.mul_le_mul_left _ hqlt
            rw [Nat.mul_add, Nat.mul_one] at this; exact this
          exact ar2 hA hqd h12 hqm
        have hdq : N * 1180591620717411303424 / 2 ^ d = p - q - 1 := by
          rw [hA2, Nat.add_mul_div_left _ _ pd, Nat.div_eq_of_lt (by omega)]; omega
        have hdm : N * 1180591620717411303424 % 2 ^ d = 2 ^ d - r := by
          rw [hA2, Nat.add_mul_mod_self_left, Nat.mod_eq_of_lt (by omega)]
        have hqs : q < 9007199254740992 := by
          rw [← hqq, Nat.div_lt_iff_lt_mul pd]
          exact ar3 h4 (pow_le h71)
        have F := fin N (p - q - 1) true hN (by omega) hdq (by rw [hdm, decide_eq_true (show 2 ^ d - r ≠ 0 by omega)]) (by omega) (by intro _; omega)
        rw [decide_eq_true (show r ≠ 0 from hr)]
        have U := U128_Sub (p - q) 1 (by omega) (by omega)
        rw [tw_word (show 1 < 18446744073709551616 by decide), show ((1 : Nat) : Int) = 1 from rfl] at U
        dsimp only at U
        refine Ev.congr (fun k => by rw [if_neg (by simp), if_pos rfl]) (Ev.b _ (Ev.const U) ?_)
        dsimp only
        exact Ev.b (f := fun _ b => some (b.1, b.2)) _ F (Ev.now _)
end Go.Proofs.Ytmadjhmecfbcmaa.M
end
section
namespace Go.Proofs.Ytmadjhmecfbcmaa.M
open Go.RowKit Go.Proofs.YtmadjhmecfbcmaaW.PrintWords Go.Proofs.YtmadjhmecfbcmaaW.PrintLast Go.Proofs.YtmadjhmecfbcmaaW.PrintMore Go.Proofs.Ytmadjhmecfbcmaa.F
theorem either_ok (x0 : Int) (cx : Nat) (x2 : Bool) (x3 x4 y0 : Int) (cy : Nat) (y2 : Bool) (y3 y4 : Int) (c : Nat) :
  soft_either.f x0 (cx : Int) x2 x3 x4 y0 (cy : Int) y2 y3 y4 (c : Int) = some (decide (cx = c ∨ cy = c)) := by
 unfold soft_either.f
 by_cases h : cx = c
 ·rw [if_pos (by omega), decide_eq_true (.inl h)]
 ·rw [if_neg (by omega)]; congr 1; rw [Bool.eq_iff_iff, beq_iff_eq, decide_eq_true_iff]; omega
theorem eq_nat (a b : Nat) : ((a : Int) == (b : Int)) = decide (a = b) := by rw [Bool.eq_iff_iff, beq_iff_eq, decide_eq_true_iff]; omega
theorem sgn_zero {a : Nat} (h : U a) (hz : cls a = 0) : a = sg (sgn a) := by
 have h1 := a_parts a h
 have h2 := (key_cls a).2.2.2.1 hz
 omega
theorem sv_eq (a : Nat) : sv a = if sgn a then -(mg a : Int) else mg a := rfl
theorem RND_self (a mode : Nat) (h : U a) (hf : cls a ≤ 2) : RND (sgn a) (2 * mg a) false mode = (a, 0) := by
 unfold mg
 rw [RND_exact _ _ _ ((key_cls a).1.1 hf), ← a_parts a h]
theorem sAdd_fin {a b : Nat} (mode : Nat) (ca : cls a ≤ 2) (cb : cls b ≤ 2) :
  sAdd a b mode = if sv a + sv b = 0 then (sg (if sgn a = sgn b then sgn a else decide (mode = 2)), 0) else RND (decide (sv a + sv b < 0)) (2 * (sv a + sv b).natAbs) false mode := by
 have c1 : ¬ (cls a = 4 ∨ cls b = 4) := by omega
 have c2 : ¬ (cls a = 3 ∧ cls b = 3 ∧ sgn a ≠ sgn b) := fun h => by have := h.1; omega
 have c3 : ¬ cls a = 3 := by omega
 have c4 : ¬ cls b = 3 := by omega
 unfold sAdd
 rw [if_neg c1, if_neg c2, if_neg c3, if_neg c4]
theorem sAdd_zero_left (a b mode : Nat) (hb : U b) (ca : cls a = 0) (cb : cls b ≤ 2) (cb0 : cls b ≠ 0) : sAdd a b mode = (b, 0) := by
 have m0 : mg a = 0 := (mg_zero a).2 ca
 have mb : mg b ≠ 0 := fun h => cb0 ((mg_zero b).1 h)
 have ha0 : sv a = 0 := by rw [sv_eq, m0]; split <;> rfl
 rw [sAdd_fin mode (by omega) cb, ha0, Int.zero_add, if_neg (by rw [sv_eq]; split <;> omega)]
 rw [← RND_self b mode hb cb]
 have e1 : decide (sv b < 0) = sgn b := by
  rw [sv_eq]; cases sgn b
  ·rw [decide_eq_false]; simp
  ·rw [decide_eq_true]; simp; omega
 have e2 : (sv b).natAbs = mg b := by rw [sv_eq]; split <;> omega
 rw [e1, e2]
theorem sAdd_zero_right (a b mode : Nat) (ha : U a) (cb : cls b = 0) (ca : cls a ≤ 2) (ca0 : cls a ≠ 0) : sAdd a b mode = (a, 0) := by
 have m0 : mg b = 0 := (mg_zero b).2 cb
 have ma : mg a ≠ 0 := fun h => ca0 ((mg_zero a).1 h)
 have hb0 : sv b = 0 := by rw [sv_eq, m0]; split <;> rfl
 rw [sAdd_fin mode ca (by omega), hb0, Int.add_zero, if_neg (by rw [sv_eq]; split <;> omega)]
 rw [← RND_self a mode ha ca]
 have e1 : decide (sv a < 0) = sgn a := by
  rw [sv_eq]; cases sgn a
  ·rw [decide_eq_false]; simp
  ·rw [decide_eq_true]; simp; omega
 have e2 : (sv a).natAbs = mg a := by rw [sv_eq]; split <;> omega
 rw [e1, e2]
theorem big_small (a b mode : Nat) (ca : cls a ≤ 2) (ca0 : cls a ≠ 0) (cb : cls b ≤ 2) (cb0 : cls b ≠ 0) (he : spe b ≤ spe a) (hge : spm b ≤ spm a * 2 ^ (spe a - spe b).toNat) :
    (if sgn a = sgn b then pr (RND (sgn a) (2 * ((spm a * 2 ^ (spe a - spe b).toNat + spm b) * 2 ^ (spe b + 1074).toNat)) false mode)
       else if spm a * 2 ^ (spe a - spe b).toNat = spm b then ((sg (decide (mode = 2)) : Int), 0)
       else pr (RND (sgn a) (2 * ((spm a * 2 ^ (spe a - spe b).toNat - spm b) * 2 ^ (spe b + 1074).toNat)) false mode)) = pr (sAdd a b mode) ∧
    sAdd a b mode = sAdd b a mode := by
  have hb := spe_bd b
  have h1 := mg_split a ca
  have h2 := mg_split b cb
  have ma : mg a ≠ 0 := fun h => ca0 ((mg_zero a).1 h)
  have mb : mg b ≠ 0 := fun h => cb0 ((mg_zero b).1 h)
  have e1 : 2 ^ (spe a + 1074).toNat = 2 ^ (spe a - spe b).toNat * 2 ^ (spe b + 1074).toNat := by rw [← Nat.pow_add]; congr 1; omega
  have h3 : mg a = spm a * 2 ^ (spe a - spe b).toNat * 2 ^ (spe b + 1074).toNat := by rw [h1, e1, Nat.mul_assoc]
  have pp := two_pos (spe b + 1074).toNat
  generalize 2 ^ (spe b + 1074).toNat = P at *
  generalize spm a * 2 ^ (spe a - spe b).toNat = A at *
  generalize spm b = B at *
  have hle : mg b ≤ mg a := by rw [h2, h3]; exact Nat.mul_le_mul_right _ hge
  have hadd : (A + B) * P = mg a + mg b := by rw [Nat.add_mul, h2, h3]
  have hsub : (A - B) * P = mg a - mg b := by rw [Nat.sub_mul, h2, h3]
  have heq : A = B ↔ mg a = mg b := by
    rw [h2, h3]
    exact ⟨fun h => by rw [h], fun h => Nat.eq_of_mul_eq_mul_right pp h⟩
  have swap : sAdd a b mode = sAdd b a mode := by
    rw [sAdd_fin mode ca cb, sAdd_fin mode cb ca, Int.add_comm (sv b)]
    have : (if sgn a = sgn b then sgn a else decide (mode = 2)) = (if sgn b = sgn a then sgn b else decide (mode = 2)) := by
      by_cases h : sgn a = sgn b
      · rw [if_pos h, if_pos h.symm, h]
      · rw [if_neg h, if_neg (Ne.symm h)]
    rw [this]
  refine ⟨?_, swap⟩
  rw [hadd, hsub, sAdd_fin mode ca cb]
  by_cases hs : sgn a = sgn b
  · have hsv : sv a + sv b = if sgn a then -((mg a + mg b : Nat) : Int) else ((mg a + mg b : Nat) : Int) := by
      rw [sv_eq, sv_eq, ← hs]; split <;> omega
    have hne : ¬ sv a + sv b = 0 := by rw [hsv]; split <;> omega
    rw [if_pos hs, if_neg hne]
    have e1 : decide (sv a + sv b < 0) = sgn a := by
      rw [hsv]; cases sgn a
      · rw [decide_eq_false]; simp; omega
      · rw [decide_eq_true]; simp; omega
    have e2 : (sv a + sv b).natAbs = mg a + mg b := by rw [hsv]; split <;> omega
    rw [e1, e2]
  · have hb2 : sgn b = !sgn a := by revert hs; cases sgn a <;> cases sgn b <;> simp
    have hsv : sv a + sv b = if sgn a then -((mg a - mg b : Nat) : Int) else ((mg a - mg b : Nat) : Int) := by
      rw [sv_eq, sv_eq, hb2]; cases sgn a <;> simp <;> omega
    rw [if_neg hs]
    by_cases hz : A = B
    · have hz' := heq.1 hz
      rw [if_pos hz, if_pos (by rw [hsv, hz']; split <;> omega), if_neg hs]; rfl
    · have hz' : ¬ mg a = mg b := fun h => hz (heq.2 h)
      have hne : ¬ sv a + sv b = 0 := by rw [hsv]; split <;> omega
      rw [if_neg hz, if_neg hne]
      have e1 : decide (sv a + sv b < 0) = sgn a := by
        rw [hsv]; cases sgn a
        · rw [decide_eq_false]; simp
        · rw [decide_eq_true]; simp; omega
      have e2 : (sv a + sv b).natAbs = mg a - mg b := by rw [hsv]; split <;> omega
      rw [e1, e2]
theorem spe_cls (a : Nat) (h : cls a ≤ 2) (h2 : -1074 < spe a) (h0 : cls a ≠ 0) : 4503599627370496 ≤ spm a := by
 unfold spe at h2; unfold spm
 split
 ·omega
 ·rename_i c; rw [if_neg c] at h2; split at h2 <;> omega
theorem add_big (a b mode : Nat) (k0 : cls a ≤ 2) (ca0 : cls a ≠ 0) (cb : cls b ≤ 2) (cb0 : cls b ≠ 0) (h : spe b < spe a ∨ spe a = spe b ∧ spm b ≤ spm a) (fa fb xa xb : Int) :
  Ev (fun k => soft_num_add.f k fa xa (sgn a) (spm a : Int) (spe a) fb xb (sgn b) (spm b : Int) (spe b) (mode : Int)) (pr (sAdd a b mode)) ∧ sAdd a b mode = sAdd b a mode := by
 have ha := spe_bd a
 have hb := spe_bd b
 have ma : spm a ≠ 0 := fun h => ca0 ((spm_zero a k0).1 h)
 have mb : spm b ≠ 0 := fun h => cb0 ((spm_zero b cb).1 h)
 have N := num_add_ev fa fb xa xb (sgn a) (sgn b) (spm a) (spm b) (spe a) (spe b) mode (by omega) (spm_lt a) (by omega) (spm_lt b) hb.1 (by omega) ha.2 (by omega) (fun h => spe_cls a k0 h ca0)
 have B := big_small a b mode k0 ca0 cb cb0 (by omega) N.1
 rw [B.1] at N
 exact ⟨N.2, B.2⟩
theorem Add_ev (a b mode : Nat) (ha : U a) (hb : U b) : Ev (fun k => soft_Add.f k (a : Int) (b : Int) (mode : Int)) (pr (sAdd a b mode)) := by
 have la := cls_le a
 have lb := cls_le b
 have m2 : ((mode : Int) == 2) = decide (mode = 2) := eq_nat mode 2
 have ne : (sgn a != sgn b) = decide (sgn a ≠ sgn b) := by rw [Bool.eq_iff_iff, bne_iff_ne, decide_eq_true_iff]
 have za : ((spm a : Int) == 0) = decide (spm a = 0) := eq_nat _ 0
 have zb : ((spm b : Int) == 0) = decide (spm b = 0) := eq_nat _ 0
 unfold soft_Add.f
 refine Ev.b _ (of_ev a ha) (Ev.b _ (of_ev b hb) ?_)
 dsimp only
 have E4 := either_ok (a : Int) (cls a) (sgn a) (spm a : Int) (spe a) (b : Int) (cls b) (sgn b) (spm b : Int) (spe b) 4
 refine Ev.b _ (Ev.const E4) ?_
 by_cases c4 : cls a = 4 ∨ cls b = 4
 ·have hS : sAdd a b mode = (QN, 0) := by unfold sAdd; rw [if_pos c4]
  rw [hS, decide_eq_true c4]
  exact Ev.congr (fun k => by rw [if_pos rfl]) (Ev.b (f := fun _ x => some (x, (0 : Int))) _ (Ev.const (show pattern_Quiet.f = some (QN : Int) from rfl)) (Ev.now _))
 rw [decide_eq_false c4]
 have J2 : cls a ≤ 2 → cls b ≤ 2 → ¬ (cls a = 0 ∧ cls b = 0 ∧ sgn a = sgn b) → Ev (fun k => soft_Add.j2 k (a : Int) (b : Int) (mode : Int) (if spm a = 0 then decide (spm b = 0) else false) (a : Int) (cls a : Int) (sgn a) (spm a : Int) (spe a) (b : Int) (cls b : Int) (sgn b) (spm b : Int) (spe b)) (pr (sAdd a b mode)) := by
  intro ka kb hn
  have sa := spm_zero a ka
  have sb := spm_zero b kb
  refine Ev.next ?_
  simp only [soft_Add.j2]
  rw [m2]
  by_cases a0 : cls a = 0
  ·by_cases b0 : cls b = 0
   ·have hS : sAdd a b mode = (sg (decide (mode = 2)), 0) := by
     have m0 : mg a = 0 := (mg_zero a).2 a0
     have m1 : mg b = 0 := (mg_zero b).2 b0
     rw [sAdd_fin mode ka kb, if_pos (by rw [sv_eq, sv_eq, m0, m1]; split <;> split <;> rfl), if_neg (fun h => hn ⟨a0, b0, h⟩)]
    rw [hS, if_pos (sa.2 a0), decide_eq_true (sb.2 b0)]
    exact Ev.congr (fun k => by rw [if_pos rfl]) (Ev.b (f := fun _ x => some (x, (0 : Int))) _ (zero_ev _) (Ev.now _))
   ·have sb' : ¬ spm b = 0 := fun h => b0 (sb.1 h)
    rw [sAdd_zero_left a b mode hb a0 kb b0, if_pos (sa.2 a0), decide_eq_false sb']
    have : (spm a : Int) = 0 := by rw [sa.2 a0]; rfl
    exact Ev.all fun k => by rw [if_neg (by simp), if_pos this]; rfl
  ·have sa' : ¬ spm a = 0 := fun h => a0 (sa.1 h)
   have sa2 : ¬ (spm a : Int) = 0 := by omega
   rw [if_neg sa']
   by_cases b0 : cls b = 0
   ·have : (spm b : Int) = 0 := by rw [sb.2 b0]; rfl
    rw [sAdd_zero_right a b mode ha b0 ka a0]
    exact Ev.all fun k => by rw [if_neg (by simp), if_neg sa2, if_pos this]; rfl
   ·have sb2 : ¬ (spm b : Int) = 0 := by have : ¬ spm b = 0 := fun h => b0 (sb.1 h); omega
    by_cases h1 : spe a < spe b
    ·have A := add_big b a mode kb b0 ka a0 (.inl h1) (b : Int) (a : Int) (cls b : Int) (cls a : Int)
     rw [A.2] at A
     exact Ev.congr (fun k => by rw [if_neg (by simp), if_neg sa2, if_neg sb2, if_pos h1]) (Ev.b (f := fun _ x => some (x.1, x.2)) _ A.1 (Ev.now _))
    ·by_cases h2 : spe a = spe b
     ·by_cases h3 : (spm a : Int) < (spm b : Int)
      ·have A := add_big b a mode kb b0 ka a0 (.inr ⟨h2.symm, by omega⟩) (b : Int) (a : Int) (cls b : Int) (cls a : Int)
       rw [A.2] at A
       exact Ev.congr (fun k => by rw [if_neg (by simp), if_neg sa2, if_neg sb2, if_neg h1, if_pos h2, if_pos h3]) (Ev.b (f := fun _ x => some (x.1, x.2)) _ A.1 (Ev.now _))
      ·have A := add_big a b mode ka a0 kb b0 (.inr ⟨h2, by omega⟩) (a : Int) (b : Int) (cls a : Int) (cls b : Int)
       exact Ev.congr (fun k => by rw [if_neg (by simp), if_neg sa2, if_neg sb2, if_neg h1, if_pos h2, if_neg h3]) (Ev.b (f := fun _ x => some (x.1, x.2)) _ A.1 (Ev.now _))
     ·have A := add_big a b mode ka a0 kb b0 (.inl (by omega)) (a : Int) (b : Int) (cls a : Int) (cls b : Int)
      exact Ev.congr (fun k => by rw [if_neg (by simp), if_neg sa2, if_neg sb2, if_neg h1, if_neg h2]) (Ev.b (f := fun _ x => some (x.1, x.2)) _ A.1 (Ev.now _))
 have J1 : cls a ≤ 2 → cls b ≤ 2 → Ev (fun k => soft_Add.j1 k (a : Int) (b : Int) (mode : Int) (if spm a = 0 then (if spm b = 0 then sgn a == sgn b else false) else false) (a : Int) (cls a : Int) (sgn a) (spm a : Int) (spe a) (b : Int) (cls b : Int) (sgn b) (spm b : Int) (spe b)) (pr (sAdd a b mode)) := by
  intro ka kb
  have sa := spm_zero a ka
  have sb := spm_zero b kb
  refine Ev.next ?_
  simp only [soft_Add.j1]
  by_cases z : cls a = 0 ∧ cls b = 0 ∧ sgn a = sgn b
  ·obtain ⟨z1, z2, z3⟩ := z
   have hS : sAdd a b mode = (a, 0) := by
    have m0 : mg a = 0 := (mg_zero a).2 z1
    have m1 : mg b = 0 := (mg_zero b).2 z2
    rw [sAdd_fin mode ka kb, if_pos (by rw [sv_eq, sv_eq, m0, m1]; split <;> split <;> rfl), if_pos z3, ← sgn_zero ha z1]
   rw [hS, if_pos (sa.2 z1), if_pos (sb.2 z2), beq_iff_eq.2 z3]
   exact Ev.all fun k => by rw [if_pos rfl]; rfl
  ·have hb0 : (if spm a = 0 then (if spm b = 0 then sgn a == sgn b else false) else false) = false := by
    split
    ·split
     ·rw [beq_eq_false_iff_ne]; intro h; exact z ⟨sa.1 (by assumption), sb.1 (by assumption), h⟩
     ·rfl
    ·rfl
   rw [hb0]
   have J := J2 ka kb z
   rw [zb]
   by_cases a0 : spm a = 0
   ·rw [if_pos a0] at J
    exact Ev.congr (fun k => by rw [if_neg (by simp), if_pos (by omega)]) J
   ·rw [if_neg a0] at J
    exact Ev.congr (fun k => by rw [if_neg (by simp), if_neg (by omega)]) J
 have J0 : Ev (fun k => soft_Add.j0 k (a : Int) (b : Int) (mode : Int) (if cls a = 3 then (if cls b = 3 then sgn a != sgn b else false) else false) (a : Int) (cls a : Int) (sgn a) (spm a : Int) (spe a) (b : Int) (cls b : Int) (sgn b) (spm b : Int) (spe b)) (pr (sAdd a b mode)) := by
  refine Ev.next ?_
  simp only [soft_Add.j0]
  by_cases a3 : cls a = 3
  ·rw [if_pos a3]
   by_cases b3 : cls b = 3
   ·rw [if_pos b3, ne]
    by_cases hs : sgn a = sgn b
    ·have hS : sAdd a b mode = (a, 0) := by unfold sAdd; rw [if_neg c4, if_neg (by intro h; exact h.2.2 hs), if_pos a3]
     rw [hS, decide_eq_false (by intro h; exact h hs)]
     exact Ev.all fun k => by rw [if_neg (by simp), if_pos (by omega)]; rfl
    ·have hS : sAdd a b mode = (QN, 16) := by unfold sAdd; rw [if_neg c4, if_pos ⟨a3, b3, hs⟩]
     rw [hS, decide_eq_true hs]
     exact Ev.all fun k => by rw [if_pos rfl]; rfl
   ·have hS : sAdd a b mode = (a, 0) := by unfold sAdd; rw [if_neg c4, if_neg (by omega), if_pos a3]
    rw [hS, if_neg b3]
    exact Ev.all fun k => by rw [if_neg (by simp), if_pos (by omega)]; rfl
  ·rw [if_neg a3]
   by_cases b3 : cls b = 3
   ·have hS : sAdd a b mode = (b, 0) := by unfold sAdd; rw [if_neg c4, if_neg (by omega), if_neg a3, if_pos b3]
    rw [hS]
    exact Ev.all fun k => by rw [if_neg (by simp), if_neg (by omega), if_pos (by omega)]; rfl
   ·have J := J1 (by omega) (by omega)
    by_cases a0 : spm a = 0
    ·rw [if_pos a0] at J
     by_cases b0 : spm b = 0
     ·rw [if_pos b0] at J
      exact Ev.congr (fun k => by rw [if_neg (by simp), if_neg (by omega), if_neg (by omega), if_pos (by omega), if_pos (by omega)]) J
     ·rw [if_neg b0] at J
      exact Ev.congr (fun k => by rw [if_neg (by simp), if_neg (by omega), if_neg (by omega), if_pos (by omega), if_neg (by omega)]) J
    ·rw [if_neg a0] at J
     exact Ev.congr (fun k => by rw [if_neg (by simp), if_neg (by omega), if_neg (by omega), if_neg (by omega)]) J
 by_cases a3 : cls a = 3
 ·rw [if_pos a3] at J0
  by_cases b3 : cls b = 3
  ·rw [if_pos b3] at J0
   exact Ev.congr (fun k => by rw [if_neg (by simp), if_pos (by omega), if_pos (by omega)]) J0
  ·rw [if_neg b3] at J0
   exact Ev.congr (fun k => by rw [if_neg (by simp), if_pos (by omega), if_neg (by omega)]) J0
 ·rw [if_neg a3] at J0
  exact Ev.congr (fun k => by rw [if_neg (by simp), if_neg (by omega)]) J0
theorem Sub_ev (a b mode : Nat) (ha : U a) (hb : U b) : Ev (fun k => soft_Sub.f k (a : Int) (b : Int) (mode : Int)) (pr (sAdd a (ng b) mode)) := by
 unfold soft_Sub.f
 exact Ev.b _ (Neg_ev b hb) (Ev.b (f := fun _ x => some (x.1, x.2)) _ (Add_ev a (ng b) mode ha (ng_U b hb)) (Ev.now _))
end Go.Proofs.Ytmadjhmecfbcmaa.M
end
section
namespace Go.Proofs.Ytmadjhmecfbcmaa.M
theorem kk_dirs (X : Nat) (s : Bool) : kk X s 2 ≤ kk X s 0 ∧ kk X s 0 ≤ kk X s 1 := by
 unfold kk
 have h2 : upw X s 2 = false := rfl
 rw [h2]
 have h01 : upw X s 0 = true → upw X s 1 = true := by
  intro h
  have h : (hf X && (rs X s || X / 2 ^ sh X % 2 == 1)) = true := h
  show (hf X || rs X s) = true
  rw [Bool.and_eq_true] at h; rw [h.1]; rfl
 generalize upw X s 0 = b0 at h01 ⊢
 generalize upw X s 1 = b1 at h01 ⊢
 cases b0 <;> cases b1 <;> simp at h01 ⊢
def lim (d : Nat) : Nat := if d = 2 then 9218868437227405311 else 9218868437227405312
def cap (X : Nat) (s : Bool) (d : Nat) : Nat := if 9218868437227405312 ≤ kk X s d then lim d else kk X s d
theorem cap_over' {X : Nat} {s : Bool} {d : Nat} (h : 9218868437227405312 ≤ kk X s d) : cap X s d = lim d := by unfold cap; rw [if_pos h]
theorem cap_in {X : Nat} {s : Bool} {d : Nat} (h : ¬ 9218868437227405312 ≤ kk X s d) : cap X s d = kk X s d := by unfold cap; rw [if_neg h]
theorem cap_over {X : Nat} {s : Bool} {d : Nat} (h : 9218868437227405312 ≤ kk X s d) : cap X s d = if d = 2 then 9218868437227405311 else 9218868437227405312 := by rw [cap_over' h]; unfold lim; rfl
theorem RND_cap (neg : Bool) (X : Nat) (s : Bool) (m : Nat) : ∃ f, RND neg X s m = (sg neg + cap X s (dir neg m), f) := by
 by_cases c : 9218868437227405312 ≤ kk X s (dir neg m)
 ·exact ⟨_, by rw [RND_over c, cap_over c]⟩
 ·exact ⟨_, by rw [RND_in c, cap_in c]⟩
theorem cap_of {X Y : Nat} {s t : Bool} {d e : Nat} (h : kk X s d ≤ kk Y t e) (hd : e = 2 → d = 2) : cap X s d ≤ cap Y t e := by
 by_cases c1 : 9218868437227405312 ≤ kk X s d
 ·rw [cap_over c1, cap_over (Nat.le_trans c1 h)]
  by_cases c2 : e = 2
  ·rw [if_pos c2, if_pos (hd c2)]; exact Nat.le_refl _
  ·rw [if_neg c2]; split <;> decide
 ·rw [cap_in c1]
  by_cases c2 : 9218868437227405312 ≤ kk Y t e
  ·rw [cap_over c2]; split <;> omega
  ·rw [cap_in c2]; exact h
theorem cap_le (X : Nat) (s : Bool) (d : Nat) : cap X s d ≤ 9218868437227405312 := by
 by_cases c1 : 9218868437227405312 ≤ kk X s d
 ·rw [cap_over c1]; split <;> decide
 ·rw [cap_in c1]; omega
theorem cap_dirs (X : Nat) (s : Bool) : cap X s 2 ≤ cap X s 0 ∧ cap X s 0 ≤ cap X s 1 := ⟨cap_of (kk_dirs X s).1 (by decide), cap_of (kk_dirs X s).2 (by decide)⟩
def ord (a : Nat) : Int := if sgn a then -(key a : Int) else key a
theorem sgn_sg (neg : Bool) (k : Nat) (h : k < 9223372036854775808) : sgn (sg neg + k) = neg := by
 unfold sgn sg; cases neg
 ·rw [if_neg (by decide)]; rw [show (0 + k) / 9223372036854775808 = 0 by omega]; rfl
 ·rw [if_pos rfl, show (9223372036854775808 + k) / 9223372036854775808 = 1 by omega]; rfl
theorem key_sg (neg : Bool) (k : Nat) (h : k < 9223372036854775808) : key (sg neg + k) = k := by
 unfold key sg; cases neg
 ·rw [if_neg (by decide)]; omega
 ·rw [if_pos rfl]; omega
theorem ord_sg (neg : Bool) (k : Nat) (h : k < 9223372036854775808) : ord (sg neg + k) = if neg then -(k : Int) else k := by
 unfold ord; rw [sgn_sg neg k h, key_sg neg k h]
theorem cls_sg (neg : Bool) (k : Nat) (h : k ≤ 9218868437227405312) : cls (sg neg + k) ≤ 3 := by
 have := (key_cls (sg neg + k)).2.2.1
 rw [key_sg neg k (by omega)] at this
 have h2 := cls_le (sg neg + k)
 omega
theorem RND_fst (neg : Bool) (X : Nat) (s : Bool) (m : Nat) : (RND neg X s m).1 = sg neg + cap X s (dir neg m) := by
 obtain ⟨f, h⟩ := RND_cap neg X s m
 rw [h]
theorem ord_RND (neg : Bool) (X : Nat) (s : Bool) (m : Nat) : ord (RND neg X s m).1 = if neg then -(cap X s (dir neg m) : Int) else cap X s (dir neg m) := by
 have := cap_le X s (dir neg m)
 rw [RND_fst, ord_sg _ _ (by omega)]
theorem cls_RND (neg : Bool) (X : Nat) (s : Bool) (m : Nat) : cls (RND neg X s m).1 ≤ 3 := by
 rw [RND_fst]; exact cls_sg _ _ (cap_le _ _ _)
theorem U_RND (neg : Bool) (X : Nat) (s : Bool) (m : Nat) : U (RND neg X s m).1 := by
 have := cap_le X s (dir neg m)
 rw [RND_fst]; unfold U sg; split <;> omega
theorem ord_neg_le (a : Nat) (h : sgn a = true) : ord a ≤ 0 := by unfold ord; rw [h, if_pos rfl]; omega
theorem ord_pos_ge (a : Nat) (h : sgn a = false) : 0 ≤ ord a := by unfold ord; rw [h, if_neg (by decide)]; omega
theorem ord_bd (a : Nat) (h : cls a ≠ 4) : -9218868437227405312 ≤ ord a ∧ ord a ≤ 9218868437227405312 := by
 have h1 := (key_cls a).2.2.1
 have : ¬ 9218868437227405312 < key a := fun h2 => h (h1.2 h2)
 unfold ord; split <;> omega
theorem ord_inf (a : Nat) (h : cls a = 3) : ord a = if sgn a then -9218868437227405312 else 9218868437227405312 := by
 have h1 := (key_cls a).2.1.1 h
 unfold ord; rw [h1]; rfl
theorem ord_zero (a : Nat) : ord a = 0 ↔ cls a = 0 := by
 rw [(key_cls a).2.2.2]; unfold ord; split <;> omega
theorem ord_fin (a : Nat) (h : cls a ≤ 2) : -9218868437227405312 < ord a ∧ ord a < 9218868437227405312 := by
 have := (key_cls a).1.1 h
 unfold ord; split <;> omega
theorem sv_zero (a : Nat) : sv a = 0 ↔ cls a = 0 := by
 rw [← mg_zero]; unfold sv; split <;> omega
def ro (neg : Bool) (X : Nat) (s : Bool) (m : Nat) : Int := if neg then -(cap X s (dir neg m) : Int) else cap X s (dir neg m)
def rq (v : Int) (D m : Nat) : Int := ro (decide (v < 0)) (v.natAbs / D) (decide (v.natAbs % D ≠ 0)) m
theorem cap_zero (d : Nat) : cap 0 false d = 0 := by
 have h : sh 0 = 1 := rfl
 have hw : wd 0 = 0 := by unfold wd; simp
 have hfk : fk 0 = 0 := by unfold fk; rw [h, hw]
 have hh : hf 0 = false := by unfold hf; simp
 have hr : rs 0 false = false := by unfold rs; simp
 have hk : kk 0 false d = 0 := by unfold kk upw; rw [hfk, hh, hr]; simp
 rw [cap_in (by rw [hk]; decide), hk]
theorem rq_zero (D m : Nat) : rq 0 D m = 0 := by
 unfold rq ro
 simp [cap_zero]
theorem ite0 (p : Prop) [Decidable p] : (if p then -((0 : Nat) : Int) else ((0 : Nat) : Int)) = 0 := by split <;> rfl
theorem ord_sAdd (a b m : Nat) (ca : cls a ≤ 2) (cb : cls b ≤ 2) : ord (sAdd a b m).1 = rq (2 * (sv a + sv b)) 1 m := by
 rw [sAdd_fin m ca cb]
 split
 ·rename_i h
  rw [h, show (2 * 0 : Int) = 0 from rfl, rq_zero]
  have := ord_sg (if sgn a = sgn b then sgn a else decide (m = 2)) 0 (by decide)
  rw [Nat.add_zero] at this
  rw [this]; exact ite0 _
 ·rename_i h
  rw [ord_RND]
  unfold rq
  have e1 : (2 * (sv a + sv b)).natAbs = 2 * (sv a + sv b).natAbs := by omega
  have e2 : decide (2 * (sv a + sv b) < 0) = decide (sv a + sv b < 0) := by rw [decide_eq_decide]; omega
  rw [e1, e2, Nat.div_one, Nat.mod_one]
  rfl
theorem FX_mul (a b : Nat) (ca : cls a ≤ 2) (cb : cls b ≤ 2) : FX (spm a * spm b) 1 (spe a + spe b) = mg a * mg b / 2 ^ 1073 ∧ FS (spm a * spm b) 1 (spe a + spe b) false = decide (mg a * mg b % 2 ^ 1073 ≠ 0) := by
 have ha := spe_bd a
 have hb := spe_bd b
 obtain ⟨T, hT⟩ : ∃ T : Nat, T = (spe a + 1074).toNat + (spe b + 1074).toNat := ⟨_, rfl⟩
 have e1 : mg a * mg b = spm a * spm b * 2 ^ T := by
  rw [mg_split a ca, mg_split b cb, hT, Nat.pow_add]; grind
 have S := FXS_scale (spm a * spm b) 1 T (spe a + spe b) false
 have e2 : spe a + spe b - (T : Int) = -2148 := by omega
 rw [e2, ← e1] at S
 rw [← S.1, ← S.2, FX_one, FS_one]
 have e3 : ((-2148 : Int) + 1075).toNat = 0 := by decide
 have e4 : (-((-2148 : Int) + 1075)).toNat = 1073 := by decide
 rw [e3, e4, Nat.pow_zero, Nat.mul_one]
 exact ⟨rfl, rfl⟩
theorem sMul_fin {a b : Nat} (m : Nat) (ca : cls a ≤ 2) (cb : cls b ≤ 2) :
  sMul a b m = if mg a * mg b = 0 then (sg (sgn a != sgn b), 0) else RND (sgn a != sgn b) (mg a * mg b / 2 ^ 1073) (decide (mg a * mg b % 2 ^ 1073 ≠ 0)) m := by
 unfold sMul
 have c1 : ¬ (cls a = 4 ∨ cls b = 4) := by omega
 have c2 : ¬ (cls a = 3 ∧ cls b = 0 ∨ cls a = 0 ∧ cls b = 3) := by omega
 have c3 : ¬ (cls a = 3 ∨ cls b = 3) := by omega
 have F := FX_mul a b ca cb
 have z : spm a * spm b = 0 ↔ mg a * mg b = 0 := by
  rw [Nat.mul_eq_zero, Nat.mul_eq_zero, spm_zero a ca, spm_zero b cb, mg_zero, mg_zero]
 rw [if_neg c1, if_neg c2, if_neg c3, F.1, F.2]
 by_cases c : mg a * mg b = 0
 ·rw [if_pos c, if_pos (z.2 c)]
 ·rw [if_neg c, if_neg (fun h => c (z.1 h))]
end Go.Proofs.Ytmadjhmecfbcmaa.M
end
section
namespace Go.Proofs.Ytmadjhmecfbcmaa.M
open Go.RowKit Go.Proofs.YtmadjhmecfbcmaaW.PrintWords Go.Proofs.YtmadjhmecfbcmaaW.PrintLast Go.Proofs.YtmadjhmecfbcmaaW.PrintMore Go.Proofs.Ytmadjhmecfbcmaa.F
def cmpI (a b : Nat) : Int × Bool := if cls a = 4 ∨ cls b = 4 then (0, false) else (if ord a < ord b then -1 else if ord b < ord a then 1 else 0, true)
def less (a b : Nat) : Bool := decide (cls a ≠ 4 ∧ cls b ≠ 4 ∧ ord a < ord b)
theorem pkey_ok (a : Nat) (h : U a) : pattern_key.f (a : Int) = some (ord a) := by
 have hk := key_lt a
 unfold pattern_key.f
 rw [andNot_sign a h]
 have e0 : ((a % 9223372036854775808 : Nat) : Int) = (key a : Int) := rfl
 rw [e0, w64 (n := (key a : Int)) (by omega) (by omega), w64 (by omega) (by omega)]
 have es : ((a : Int) / 9223372036854775808 = 1) ↔ sgn a = true := by rw [← sgn_cast, beq_iff_eq]
 unfold ord
 by_cases c : sgn a = true
 ·rw [if_pos (es.2 c), if_pos c]
 ·rw [if_neg (fun h2 => c (es.1 h2)), if_neg c]
theorem Cmp_ev (a b : Nat) (ha : U a) (hb : U b) : Ev (fun k => pattern_Cmp.f k (a : Int) (b : Int)) (cmpI a b) := by
 have J1 : Ev (fun k => pattern_Cmp.j0 k (a : Int) (b : Int) true) (0, false) := by
  refine Ev.next ?_
  simp only [pattern_Cmp.j0]
  exact Ev.congr (fun k => by rw [if_pos trivial]) (Ev.now _)
 unfold pattern_Cmp.f
 refine Ev.b _ (nan_ev a ha) ?_
 by_cases c1 : cls a = 4
 ·have e : cmpI a b = (0, false) := by unfold cmpI; rw [if_pos (.inl c1)]
  rw [e]
  exact Ev.congr (fun k => by rw [decide_eq_true c1, if_pos rfl]) J1
 ·refine Ev.congr (fun k => by rw [decide_eq_false c1, if_neg (by decide)]) ?_
  refine Ev.b _ (nan_ev b hb) ?_
  by_cases c2 : cls b = 4
  ·have e : cmpI a b = (0, false) := by unfold cmpI; rw [if_pos (.inr c2)]
   rw [e]
   exact Ev.congr (fun k => by rw [decide_eq_true c2]) J1
  ·refine Ev.congr (fun k => by rw [decide_eq_false c2]) ?_
   refine Ev.next ?_
   simp only [pattern_Cmp.j0]
   refine Ev.congr (fun k => by rw [if_neg (by decide)]) ?_
   refine Ev.b _ (Ev.const (pkey_ok a ha)) (Ev.b _ (Ev.const (pkey_ok b hb)) (Ev.const ?_))
   unfold cmpI
   rw [if_neg (show ¬ (cls a = 4 ∨ cls b = 4) by omega)]
   by_cases c3 : ord a < ord b
   ·rw [if_pos c3, if_pos c3]
   ·rw [if_neg c3, if_neg c3]
    by_cases c4 : ord a > ord b
    ·rw [if_pos c4, if_pos c4]
    ·rw [if_neg c4, if_neg c4]
theorem Less_ev (a b : Nat) (ha : U a) (hb : U b) : Ev (fun k => pattern_Less.f k (a : Int) (b : Int)) (less a b) := by
 unfold pattern_Less.f
 refine Ev.b _ (Cmp_ev a b ha hb) (Ev.const ?_)
 unfold cmpI less
 by_cases c : cls a = 4 ∨ cls b = 4
 ·rw [if_pos c, if_neg (by decide)]
  congr 1; symm; rw [decide_eq_false_iff_not]; omega
 ·rw [if_neg c, if_pos rfl]
  congr 1; rw [decide_eq_decide]; dsimp only
  by_cases c3 : ord a < ord b
  ·rw [if_pos c3]
   exact ⟨fun _ => ⟨fun h => c (.inl h), fun h => c (.inr h), c3⟩, fun _ => by decide⟩
  ·rw [if_neg c3]
   refine ⟨fun h => ?_, fun h => absurd h.2.2 c3⟩
   split at h
   ·exact absurd h (by decide)
   ·exact absurd h (by decide)
end Go.Proofs.Ytmadjhmecfbcmaa.M
end
section
namespace Go.Proofs.Ytmadjhmecfbcmaa.M
open Go.RowKit Go.Proofs.YtmadjhmecfbcmaaW.PrintWords Go.Proofs.YtmadjhmecfbcmaaW.PrintLast Go.Proofs.YtmadjhmecfbcmaaW.PrintMore Go.Proofs.Ytmadjhmecfbcmaa.F
theorem Quiet_ok : pattern_Quiet.f = some (QN : Int) := rfl
theorem invalid_ok : soft_invalid.f = some ((QN : Int), 16) := rfl
theorem wMul_ok (x y : Nat) (hx : x < 18446744073709551616) (hy : y < 18446744073709551616) : wide_Mul.f (x : Int) (y : Int) = some ((tw (x * y)).1, (tw (x * y)).2) := by
 unfold wide_Mul.f bits_Mul64.f
 rw [if_pos (by omega)]
 unfold tw
 simp only [Option.bind_some]
 rw [← Int.natCast_mul]
 congr 1
theorem Mul_ev (a b mode : Nat) (ha : U a) (hb : U b) : Ev (fun k => soft_Mul.f k (a : Int) (b : Int) (mode : Int)) (pr (sMul a b mode)) := by
 unfold soft_Mul.f
 refine Ev.b _ (of_ev a ha) (Ev.b _ (of_ev b hb) ?_)
 dsimp only
 have E := fun c => either_ok (a : Int) (cls a) (sgn a) (spm a : Int) (spe a) (b : Int) (cls b) (sgn b) (spm b : Int) (spe b) c
 have E4 := E 4
 have E3 := E 3
 have E0 := E 0
 rw [show ((4 : Nat) : Int) = 4 from rfl] at E4
 rw [show ((3 : Nat) : Int) = 3 from rfl] at E3
 rw [show ((0 : Nat) : Int) = 0 from rfl] at E0
 refine Ev.b _ (Ev.const E4) ?_
 by_cases c4 : cls a = 4 ∨ cls b = 4
 ·have hS : sMul a b mode = (QN, 0) := by unfold sMul; rw [if_pos c4]
  rw [hS, decide_eq_true c4]
  exact Ev.congr (fun k => by rw [if_pos rfl]) (Ev.b (f := fun _ x => some (x, (0 : Int))) _ (Ev.const Quiet_ok) (Ev.now _))
 rw [decide_eq_false c4]
 have J : Ev (fun k => soft_Mul.j0 k (mode : Int) (sgn a != sgn b) (if cls a = 3 ∨ cls b = 3 then decide (cls a = 0 ∨ cls b = 0) else false) (a : Int) (cls a : Int) (sgn a) (spm a : Int) (spe a) (b : Int) (cls b : Int) (sgn b) (spm b : Int) (spe b)) (pr (sMul a b mode)) := by
  refine Ev.next ?_
  simp only [soft_Mul.j0]
  by_cases c3 : cls a = 3 ∨ cls b = 3
  ·rw [if_pos c3]
   by_cases c0 : cls a = 0 ∨ cls b = 0
   ·have hS : sMul a b mode = (QN, 16) := by unfold sMul; rw [if_neg c4, if_pos (show cls a = 3 ∧ cls b = 0 ∨ cls a = 0 ∧ cls b = 3 by omega)]
    rw [hS, decide_eq_true c0]
    exact Ev.congr (fun k => by rw [if_pos rfl]) (Ev.b (f := fun _ x => some (x.1, x.2)) _ (Ev.const invalid_ok) (Ev.now _))
   ·have hS : sMul a b mode = (sg (sgn a != sgn b) + INF, 0) := by unfold sMul; rw [if_neg c4, if_neg (show ¬ (cls a = 3 ∧ cls b = 0 ∨ cls a = 0 ∧ cls b = 3) by omega), if_pos c3]
    rw [hS, decide_eq_false c0]
    refine Ev.congr (fun k => by rw [if_neg (by simp)]) (Ev.b _ (Ev.const E3) ?_)
    rw [decide_eq_true c3]
    exact Ev.congr (fun k => by rw [if_pos rfl]) (Ev.b (f := fun _ x => some (x, (0 : Int))) _ (Inf_ev _) (Ev.now _))
  ·have c0 : ¬ (cls a = 3 ∧ cls b = 0 ∨ cls a = 0 ∧ cls b = 3) := by omega
   have la := spm_lt a
   have lb := spm_lt b
   have ea := spe_bd a
   have eb := spe_bd b
   have hM : spm a * spm b < 340282366920938463463374607431768211456 := by
    have h1 : spm a * spm b ≤ 9007199254740992 * spm b := Nat.mul_le_mul_right _ (by omega)
    have h2 : 9007199254740992 * spm b ≤ 9007199254740992 * 9007199254740992 := Nat.mul_le_mul_left _ (by omega)
    omega
   have R := Round_ev (sgn a != sgn b) (spm a * spm b) (spe a + spe b) false mode hM
   rw [cl_id (by omega) (by omega), Bool.false_and] at R
   have hS : (if spm a * spm b = 0 then ((sg (sgn a != sgn b) : Int), (0 : Int)) else pr (RND (sgn a != sgn b) (FX (spm a * spm b) 1 (spe a + spe b)) (FS (spm a * spm b) 1 (spe a + spe b) false) mode)) = pr (sMul a b mode) := by
    unfold sMul; rw [if_neg c4, if_neg c0, if_neg c3]
    by_cases z : spm a * spm b = 0
    ·rw [if_pos z, if_pos z]; rfl
    ·rw [if_neg z, if_neg z]
   rw [hS] at R
   have w1 : wrap64 (spe a + spe b) = spe a + spe b := w64 (by omega) (by omega)
   rw [if_neg c3]
   refine Ev.congr (fun k => by rw [if_neg (by simp)]) (Ev.b _ (Ev.const E3) ?_)
   rw [decide_eq_false c3]
   refine Ev.congr (fun k => by rw [if_neg (by simp)]) (Ev.b _ (Ev.const (wMul_ok _ _ (by omega) (by omega))) ?_)
   dsimp only
   rw [w1]
   exact Ev.b (f := fun _ x => some (x.1, x.2)) _ R (Ev.now _)
 refine Ev.congr (fun k => by rw [if_neg (by simp)]) (Ev.b _ (Ev.const E3) ?_)
 by_cases c3 : cls a = 3 ∨ cls b = 3
 ·rw [if_pos c3] at J
  rw [decide_eq_true c3]
  refine Ev.congr (fun k => by rw [if_pos rfl]) (Ev.b _ (Ev.const E0) ?_)
  exact J
 ·rw [if_neg c3] at J
  rw [decide_eq_false c3]
  exact Ev.congr (fun k => by rw [if_neg (by simp)]) J
theorem Div64_ok (x y z : Nat) (h1 : x < z) (h2 : z < 18446744073709551616) (h3 : y < 18446744073709551616) :
  bits_Div64.f (x : Int) (y : Int) (z : Int) = some ((((x * 18446744073709551616 + y) / z : Nat) : Int), (((x * 18446744073709551616 + y) % z : Nat) : Int)) := by
 unfold bits_Div64.f
 rw [if_pos (by omega), Int.natCast_ediv, Int.natCast_emod, Int.natCast_add, Int.natCast_mul]; rfl
theorem U128_Div (hi z : Nat) (h1 : hi < 18446744073709551616) (hz : 0 < z) (h2 : z < 18446744073709551616) :
  wide_U128_Div.f (hi : Int) 0 (z : Int) = some ((tw (hi * 18446744073709551616 / z)).1, (tw (hi * 18446744073709551616 / z)).2, ((hi * 18446744073709551616 % z : Nat) : Int)) := by
 have hm := Nat.mod_lt hi hz
 have hl : hi % z * 18446744073709551616 / z < 18446744073709551616 := by
  rw [Nat.div_lt_iff_lt_mul hz, Nat.mul_comm 18446744073709551616]
  exact Nat.mul_lt_mul_of_pos_right hm (by decide)
 have e : hi * 18446744073709551616 = hi % z * 18446744073709551616 + z * (hi / z * 18446744073709551616) := by
  have := Nat.div_add_mod hi z
  have h4 : hi * 18446744073709551616 = (z * (hi / z) + hi % z) * 18446744073709551616 := by rw [this]
  rw [h4, Nat.add_mul]; grind
 have eq : hi * 18446744073709551616 / z = hi / z * 18446744073709551616 + hi % z * 18446744073709551616 / z := by
  rw [e, Nat.add_mul_div_left _ _ hz, Nat.add_comm]
 have er : hi * 18446744073709551616 % z = hi % z * 18446744073709551616 % z := by
  rw [e, Nat.add_mul_mod_self_left]
 unfold wide_U128_Div.f
 have D1 := Div64_ok 0 hi z hz h2 h1
 rw [Nat.zero_mul, Nat.zero_add] at D1
 have D2 := Div64_ok (hi % z) 0 z hm h2 (by decide)
 rw [Nat.add_zero] at D2
 rw [if_neg (by omega), bind_of _ (show bits_Div64.f 0 (hi : Int) (z : Int) = _ from D1)]
 dsimp only
 rw [bind_of _ (show bits_Div64.f ((hi % z : Nat) : Int) 0 (z : Int) = _ from D2), eq, er, tw_join _ _ hl]
theorem dv1 {b x : Nat} (h1 : b < 9007199254740992) (h2 : 9223372036854775808 ≤ x) : 9007199254740992 * b ≤ x * 18446744073709551616 := by omega
theorem Div_ev (a b mode : Nat) (ha : U a) (hb : U b) : Ev (fun k => soft_Div.f k (a : Int) (b : Int) (mode : Int)) (pr (sDiv a b mode)) := by
 unfold soft_Div.f
 refine Ev.b _ (of_ev a ha) (Ev.b _ (of_ev b hb) ?_)
 dsimp only
 have E4 := either_ok (a : Int) (cls a) (sgn a) (spm a : Int) (spe a) (b : Int) (cls b) (sgn b) (spm b : Int) (spe b) 4
 rw [show ((4 : Nat) : Int) = 4 from rfl] at E4
 refine Ev.b _ (Ev.const E4) ?_
 have a0e : ((cls a : Int) == 0) = decide (cls a = 0) := eq_nat _ 0
 have b3e : ((cls b : Int) == 3) = decide (cls b = 3) := eq_nat _ 3
 by_cases c4 : cls a = 4 ∨ cls b = 4
 ·have hS : sDiv a b mode = (QN, 0) := by unfold sDiv; rw [if_pos c4]
  rw [hS, decide_eq_true c4]
  exact Ev.congr (fun k => by rw [if_pos rfl]) (Ev.b (f := fun _ x => some (x, (0 : Int))) _ (Ev.const Quiet_ok) (Ev.now _))
 rw [decide_eq_false c4, a0e]
 have J1 : ¬ (cls a = 3 ∧ cls b = 3 ∨ cls a = 0 ∧ cls b = 0) → ¬ cls a = 3 → ¬ cls b = 0 → Ev (fun k => soft_Div.j1 k (mode : Int) (sgn a != sgn b) (decide (cls a = 0 ∨ cls b = 3)) (a : Int) (cls a : Int) (sgn a) (spm a : Int) (spe a) (b : Int) (cls b : Int) (sgn b) (spm b : Int) (spe b)) (pr (sDiv a b mode)) := by
  intro n1 n2 n3
  refine Ev.next ?_
  simp only [soft_Div.j1]
  by_cases c : cls a = 0 ∨ cls b = 3
  ·have hS : sDiv a b mode = (sg (sgn a != sgn b), 0) := by unfold sDiv; rw [if_neg c4, if_neg n1, if_neg n2, if_neg n3, if_pos c]
   rw [hS, decide_eq_true c]
   exact Ev.congr (fun k => by rw [if_pos rfl]) (Ev.b (f := fun _ x => some (x, (0 : Int))) _ (zero_ev _) (Ev.now _))
  ·have ka : cls a ≤ 2 := by have := cls_le a; omega
   have kb : cls b ≤ 2 := by have := cls_le b; omega
   have za : spm a ≠ 0 := fun h => by have := (spm_zero a ka).1 h; omega
   have zb : spm b ≠ 0 := fun h => by have := (spm_zero b kb).1 h; omega
   have la := spm_lt a
   have lb := spm_lt b
   have ea := spe_bd a
   have eb := spe_bd b
   have hbl := bl_bd (spm a) za
   have hbl2 : bl (spm a) ≤ 53 := bl_le (n := 53) la
   have L : wide_U128_Len.f 0 (spm a : Int) = some (bl (spm a) : Int) := by
    have := Len_tw (spm a) (by omega)
    rw [tw_word (by omega)] at this; exact this
   obtain ⟨sh', hsh⟩ : ∃ n : Nat, n = 64 - bl (spm a) := ⟨_, rfl⟩
   have w1 : wrap64 (64 - (bl (spm a) : Int)) = (sh' : Int) := by rw [w64 (by omega) (by omega)]; omega
   have hx : spm a * 2 ^ sh' < 18446744073709551616 := by
    have : spm a * 2 ^ sh' < 2 ^ bl (spm a) * 2 ^ sh' := Nat.mul_lt_mul_of_pos_right hbl.2.2 (two_pos _)
    rw [← Nat.pow_add, show bl (spm a) + sh' = 64 by omega] at this; exact this
   have hx2 : 9223372036854775808 ≤ spm a * 2 ^ sh' := by
    have : 2 ^ (bl (spm a) - 1) * 2 ^ sh' ≤ spm a * 2 ^ sh' := Nat.mul_le_mul_right _ hbl.2.1
    rw [← Nat.pow_add, show bl (spm a) - 1 + sh' = 63 by omega] at this; exact this
   have S : shl .u64 (spm a : Int) (sh' : Int) = ((spm a * 2 ^ sh' : Nat) : Int) := by rw [shl_nat _ _ (by omega), Nat.mod_eq_of_lt hx]
   have D := U128_Div (spm a * 2 ^ sh') (spm b) hx (by omega) (by omega)
   have hA : spm a * 2 ^ sh' * 18446744073709551616 = spm a * 2 ^ (sh' + 64) := by rw [Nat.pow_add, Nat.mul_assoc]
   have hq1 : 9007199254740992 ≤ spm a * 2 ^ sh' * 18446744073709551616 / spm b := by
    rw [Nat.le_div_iff_mul_le (by omega)]
    exact dv1 lb hx2
   have hq2 : spm a * 2 ^ sh' * 18446744073709551616 / spm b < 340282366920938463463374607431768211456 := by
    exact Nat.lt_of_le_of_lt (Nat.div_le_self _ _) (Nat.mul_lt_mul_of_pos_right hx (by decide))
   obtain ⟨A, hAA⟩ : ∃ A, spm a * 2 ^ sh' * 18446744073709551616 = A := ⟨_, rfl⟩
   rw [hAA] at D hA hq1 hq2
   have w2 : wrap64 (wrap64 (wrap64 (spe a - (sh' : Int)) - 64) - spe b) = spe a - spe b - (sh' + 64 : Nat) := by
    rw [w64 (n := spe a - (sh' : Int)) (by omega) (by omega), w64 (n := spe a - (sh' : Int) - 64) (by omega) (by omega), w64 (by omega) (by omega)]; omega
   have hbl54 : 53 < bl (A / spm b) := by
    by_cases c9 : bl (A / spm b) ≤ 53
    ·have := bl_small c9; omega
    ·omega
   have hl : (((A % spm b : Nat) : Int) != 0) = decide (A % spm b ≠ 0) := by rw [Bool.eq_iff_iff, bne_iff_ne, decide_eq_true_iff]; omega
   have R := Round_ev (sgn a != sgn b) (A / spm b) (spe a - spe b - (sh' + 64 : Nat)) (decide (A % spm b ≠ 0)) mode hq2
   rw [if_neg (by omega), cl_id (by omega) (by omega), decide_eq_true hbl54, Bool.and_true] at R
   have T := two_step (sgn a != sgn b) A (spm b) (spe a - spe b - (sh' + 64 : Nat)) mode (by omega) (.inr hq1)
   have K := FXS_scale (spm a) (spm b) (sh' + 64) (spe a - spe b) false
   rw [← hA] at K
   rw [T, K.1, K.2] at R
   have hS : RND (sgn a != sgn b) (FX (spm a) (spm b) (spe a - spe b)) (FS (spm a) (spm b) (spe a - spe b) false) mode = sDiv a b mode := by
    unfold sDiv; rw [if_neg c4, if_neg n1, if_neg n2, if_neg n3, if_neg c]
   rw [hS] at R
   rw [decide_eq_false c]
   refine Ev.congr (fun k => by rw [if_neg (by simp)]) (Ev.b _ (Ev.const L) ?_)
   rw [w1, S]
   refine Ev.congr (fun k => by rw [if_pos (by omega)]) (Ev.b _ (Ev.const D) ?_)
   dsimp only
   rw [w2, hl]
   exact Ev.b (f := fun _ x => some (x.1, x.2)) _ R (Ev.now _)
 have J0 : Ev (fun k => soft_Div.j0 k (mode : Int) (sgn a != sgn b) (decide (cls a = 3 ∧ cls b = 3 ∨ cls a = 0 ∧ cls b = 0)) (a : Int) (cls a : Int) (sgn a) (spm a : Int) (spe a) (b : Int) (cls b : Int) (sgn b) (spm b : Int) (spe b)) (pr (sDiv a b mode)) := by
  refine Ev.next ?_
  simp only [soft_Div.j0]
  rw [a0e, b3e]
  by_cases n1 : cls a = 3 ∧ cls b = 3 ∨ cls a = 0 ∧ cls b = 0
  ·have hS : sDiv a b mode = (QN, 16) := by unfold sDiv; rw [if_neg c4, if_pos n1]
   rw [hS, decide_eq_true n1]
   exact Ev.congr (fun k => by rw [if_pos rfl]) (Ev.b (f := fun _ x => some (x.1, x.2)) _ (Ev.const invalid_ok) (Ev.now _))
  rw [decide_eq_false n1]
  by_cases n2 : cls a = 3
  ·have hS : sDiv a b mode = (sg (sgn a != sgn b) + INF, 0) := by unfold sDiv; rw [if_neg c4, if_neg n1, if_pos n2]
   rw [hS]
   exact Ev.congr (fun k => by rw [if_neg (by simp), if_pos (by omega)]) (Ev.b (f := fun _ x => some (x, (0 : Int))) _ (Inf_ev _) (Ev.now _))
  by_cases n3 : cls b = 0
  ·have hS : sDiv a b mode = (sg (sgn a != sgn b) + INF, 8) := by unfold sDiv; rw [if_neg c4, if_neg n1, if_neg n2, if_pos n3]
   rw [hS]
   exact Ev.congr (fun k => by rw [if_neg (by simp), if_neg (by omega), if_pos (by omega)]) (Ev.b (f := fun _ x => some (x, (8 : Int))) _ (Inf_ev _) (Ev.now _))
  have J := J1 n1 n2 n3
  by_cases a0 : cls a = 0
  ·rw [decide_eq_true (.inl a0)] at J
   rw [decide_eq_true a0]
   exact Ev.congr (fun k => by rw [if_neg (by simp), if_neg (by omega), if_neg (by omega), if_pos (by omega)]) J
  ·rw [show decide (cls a = 0 ∨ cls b = 3) = decide (cls b = 3) by rw [Bool.eq_iff_iff, decide_eq_true_iff, decide_eq_true_iff]; omega] at J
   exact Ev.congr (fun k => by rw [if_neg (by simp), if_neg (by omega), if_neg (by omega), if_neg (by omega)]) J
 by_cases h1 : cls a = cls b
 ·by_cases h2 : cls a = 3
  ·rw [decide_eq_true (show cls a = 3 ∧ cls b = 3 ∨ cls a = 0 ∧ cls b = 0 by omega)] at J0
   exact Ev.congr (fun k => by rw [if_neg (by simp), if_pos (by omega), if_pos (by omega)]) J0
  ·rw [show decide (cls a = 3 ∧ cls b = 3 ∨ cls a = 0 ∧ cls b = 0) = decide (cls a = 0) by rw [Bool.eq_iff_iff, decide_eq_true_iff, decide_eq_true_iff]; omega] at J0
   exact Ev.congr (fun k => by rw [if_neg (by simp), if_pos (by omega), if_neg (by omega)]) J0
 ·rw [decide_eq_false (show ¬ (cls a = 3 ∧ cls b = 3 ∨ cls a = 0 ∧ cls b = 0) by omega)] at J0
  exact Ev.congr (fun k => by rw [if_neg (by simp), if_neg (by omega)]) J0
end Go.Proofs.Ytmadjhmecfbcmaa.M
end
section
namespace Go.Proofs.Ytmadjhmecfbcmaa.M
open Go.RowKit Go.Proofs.YtmadjhmecfbcmaaW.PrintWords Go.Proofs.YtmadjhmecfbcmaaW.PrintLast Go.Proofs.YtmadjhmecfbcmaaW.PrintMore Go.Proofs.Ytmadjhmecfbcmaa.F
theorem RND_U (neg : Bool) (X : Nat) (s : Bool) (mode : Nat) : U (RND neg X s mode).1 := by
 unfold U
 by_cases h : 9218868437227405312 ≤ kk X s (dir neg mode)
 ·rw [RND_over h]; unfold sg; dsimp only; (repeat' split) <;> omega
 ·rw [RND_in h]; unfold sg; dsimp only; split <;> omega
theorem sg_U (b : Bool) : U (sg b) := by unfold U sg; split <;> omega
theorem sAdd_U (a b mode : Nat) (ha : U a) (hb : U b) : U (sAdd a b mode).1 := by
 unfold sAdd
 (repeat' split) <;> first | assumption | exact RND_U _ _ _ _ | exact sg_U _ | (show QN < _; decide)
end Go.Proofs.Ytmadjhmecfbcmaa.M
end
section
namespace Go.Proofs.Ytmadjhmecfbcmaa.M
open Go.RowKit Go.Proofs.YtmadjhmecfbcmaaW.PrintWords Go.Proofs.YtmadjhmecfbcmaaW.PrintLast Go.Proofs.YtmadjhmecfbcmaaW.PrintMore Go.Proofs.Ytmadjhmecfbcmaa.F
theorem c1 : sAdd 4607182418800017408 4368491638549381120 0 = (4607182418800017408, 1) := by decide +kernel
theorem c2 : (sAdd 4607182418800017408 4368491638549381120 1).1 = 4607182418800017409 := by decide +kernel
theorem c3 : (sAdd 4607182418800017408 (ng 4607182418800017408) 0).1 = 0 := by decide +kernel
theorem c4' : (sAdd 4607182418800017408 (ng 4607182418800017408) 2).1 = 9223372036854775808 := by decide +kernel
theorem c5 : sDiv 13830554455654793216 0 0 = (18442240474082181120, 8) := by decide +kernel
theorem wf_u64 {x : Int} (h : (Lit.int .u64 x).wf = true) : ∃ a : Nat, x = a ∧ U a := by
 have h2 := (Bool.and_eq_true _ _).mp h
 have h0 : (0 : Int) ≤ x := of_decide_eq_true h2.1
 have h1 : x ≤ 18446744073709551615 := of_decide_eq_true h2.2
 exact ⟨x.toNat, by omega, by unfold U; omega⟩
theorem Ev.ex {α : Type} {g : Nat → Option α} {r : α} (h : Ev g r) : ∃ k, g k = some r := by
 obtain ⟨k, hk⟩ := h; exact ⟨k, hk k (Nat.le_refl _)⟩
instance (a : Nat) : Decidable (U a) := by unfold U; infer_instance
theorem w1 : Ev (fun k => soft_Add.f k 4607182418800017408 4368491638549381120 0) (4607182418800017408, 1) := by
 have := Add_ev 4607182418800017408 4368491638549381120 0 (by decide) (by decide)
 rw [c1] at this; exact this
theorem w2 : ∃ y, Ev (fun k => soft_Add.f k 4607182418800017408 4368491638549381120 1) (4607182418800017409, y) := by
 have := Add_ev 4607182418800017408 4368491638549381120 1 (by decide) (by decide)
 unfold pr at this
 rw [c2] at this; exact ⟨_, this⟩
theorem w3 : ∃ y, Ev (fun k => soft_Sub.f k 4607182418800017408 4607182418800017408 0) (0, y) := by
 have := Sub_ev 4607182418800017408 4607182418800017408 0 (by decide) (by decide)
 unfold pr at this
 rw [c3] at this; exact ⟨_, this⟩
theorem w4 : ∃ y, Ev (fun k => soft_Sub.f k 4607182418800017408 4607182418800017408 2) (9223372036854775808, y) := by
 have := Sub_ev 4607182418800017408 4607182418800017408 2 (by decide) (by decide)
 unfold pr at this
 rw [c4'] at this; exact ⟨_, this⟩
end Go.Proofs.Ytmadjhmecfbcmaa.M
end
section
namespace Go.Proofs.Ytmadjhmecfbcmaa.M
open Go.RowKit Go.Proofs.YtmadjhmecfbcmaaW.PrintWords Go.Proofs.YtmadjhmecfbcmaaW.PrintLast Go.Proofs.YtmadjhmecfbcmaaW.PrintMore Go.Proofs.Ytmadjhmecfbcmaa.F
theorem inf_eq {a : Nat} (h : U a) (c : cls a = 3) : a = sg (sgn a) + INF := by
 have h1 := a_parts a h
 have h2 := (key_cls a).2.1.1 c
 unfold INF; omega
theorem sAdd_nan {a b : Nat} (m : Nat) (h : cls a = 4 ∨ cls b = 4) : sAdd a b m = (QN, 0) := by unfold sAdd; rw [if_pos h]
theorem sAdd_inv {a b : Nat} (m : Nat) (h : cls a = 3 ∧ cls b = 3 ∧ sgn a ≠ sgn b) : sAdd a b m = (QN, 16) := by
 unfold sAdd; rw [if_neg (show ¬ (cls a = 4 ∨ cls b = 4) by omega), if_pos h]
theorem sAdd_infl {a b : Nat} (m : Nat) (h : ¬ (cls a = 4 ∨ cls b = 4)) (h2 : ¬ (cls a = 3 ∧ cls b = 3 ∧ sgn a ≠ sgn b)) (c : cls a = 3) : sAdd a b m = (a, 0) := by
 unfold sAdd; rw [if_neg h, if_neg h2, if_pos c]
theorem sAdd_infr {a b : Nat} (m : Nat) (h : ¬ (cls a = 4 ∨ cls b = 4)) (c : cls a ≠ 3) (c2 : cls b = 3) : sAdd a b m = (b, 0) := by
 unfold sAdd; rw [if_neg h, if_neg (show ¬ (cls a = 3 ∧ cls b = 3 ∧ sgn a ≠ sgn b) from fun x => c x.1), if_neg c, if_pos c2]
theorem flip_parts (a : Nat) (h : U a) : sgn (flip a) = !sgn a ∧ key (flip a) = key a := by
 unfold U at h
 unfold flip sgn key
 by_cases c : a < 9223372036854775808
 ·rw [if_pos c, show (a + 9223372036854775808) / 9223372036854775808 = 1 by omega, show a / 9223372036854775808 = 0 by omega]
  exact ⟨rfl, by omega⟩
 ·rw [if_neg c, show (a - 9223372036854775808) / 9223372036854775808 = 0 by omega, show a / 9223372036854775808 = 1 by omega]
  exact ⟨rfl, by omega⟩
theorem cls_key {a b : Nat} (h : key a = key b) : cls a = cls b := by
 have h1 := key_parts' a
 have h2 := key_parts' b
 have a1 := fr_lt a
 have a2 := fr_lt b
 have e1 : ex a = ex b := by omega
 have e2 : fr a = fr b := by omega
 unfold cls; rw [e1, e2]
theorem ng_cls (a : Nat) (h : U a) : cls (ng a) = cls a := by
 unfold ng; split
 ·rfl
 ·exact cls_key (flip_parts a h).2
theorem ng_ord (a : Nat) (h : U a) (c : cls a ≠ 4) : ord (ng a) = -ord a := by
 unfold ng; rw [if_neg c]
 have := flip_parts a h
 unfold ord; rw [this.1, this.2]
 cases sgn a
 ·rfl
 ·simp
theorem QN_cls : cls QN = 4 := by decide
theorem cls_sg0 (n : Bool) : cls (sg n) = 0 := by cases n <;> decide
theorem cls_sAdd (a b m : Nat) : cls (sAdd a b m).1 = 4 ↔ cls a = 4 ∨ cls b = 4 ∨ (cls a = 3 ∧ cls b = 3 ∧ sgn a ≠ sgn b) := by
 have la := cls_le a
 have lb := cls_le b
 by_cases c4 : cls a = 4 ∨ cls b = 4
 ·rw [sAdd_nan m c4]; exact ⟨fun _ => by rcases c4 with h | h; exact .inl h; exact .inr (.inl h), fun _ => QN_cls⟩
 ·by_cases c1 : cls a = 3 ∧ cls b = 3 ∧ sgn a ≠ sgn b
  ·rw [sAdd_inv m c1]; exact ⟨fun _ => .inr (.inr c1), fun _ => QN_cls⟩
  ·refine ⟨fun h => ?_, fun h => ?_⟩
   ·exfalso
    by_cases c2 : cls a = 3
    ·rw [sAdd_infl m c4 c1 c2] at h; dsimp only at h; omega
    ·by_cases c3 : cls b = 3
     ·rw [sAdd_infr m c4 c2 c3] at h; dsimp only at h; omega
     ·rw [sAdd_fin m (by omega) (by omega)] at h
      split at h
      ·dsimp only at h; rw [cls_sg0] at h; omega
      ·have := cls_RND (decide (sv a + sv b < 0)) (2 * (sv a + sv b).natAbs) false m; omega
   ·rcases h with h | h | h
    ·exact absurd (.inl h) c4
    ·exact absurd (.inr h) c4
    ·exact absurd h c1
theorem sMul_U (a b m : Nat) : U (sMul a b m).1 := by
 unfold sMul
 (repeat' split)
 ·decide
 ·decide
 ·unfold U sg INF; split <;> omega
 ·unfold U sg; dsimp only; split <;> omega
 ·exact U_RND _ _ _ _
end Go.Proofs.Ytmadjhmecfbcmaa.M
end
section
namespace Go.Proofs.Ytmadjhmecfbcmaa.M
open Go.RowKit Go.Proofs.YtmadjhmecfbcmaaW.PrintWords Go.Proofs.YtmadjhmecfbcmaaW.PrintLast Go.Proofs.YtmadjhmecfbcmaaW.PrintMore Go.Proofs.Ytmadjhmecfbcmaa.F
theorem cls_inf (a : Nat) (c : cls a ≠ 4) (h : ord a = 9218868437227405312 ∨ ord a = -9218868437227405312) : cls a = 3 := by
 have la := cls_le a
 by_cases c3 : cls a = 3
 ·exact c3
 ·have := ord_fin a (by omega); omega
theorem sMul_nan {a b : Nat} (m : Nat) (h : cls a = 4 ∨ cls b = 4) : sMul a b m = (QN, 0) := by unfold sMul; rw [if_pos h]
theorem sMul_inv {a b : Nat} (m : Nat) (h : cls a = 3 ∧ cls b = 0 ∨ cls a = 0 ∧ cls b = 3) : sMul a b m = (QN, 16) := by
 unfold sMul; rw [if_neg (show ¬ (cls a = 4 ∨ cls b = 4) by omega), if_pos h]
theorem sMul_inf {a b : Nat} (m : Nat) (h : ¬ (cls a = 4 ∨ cls b = 4)) (h2 : ¬ (cls a = 3 ∧ cls b = 0 ∨ cls a = 0 ∧ cls b = 3)) (c : cls a = 3 ∨ cls b = 3) : sMul a b m = (sg (sgn a != sgn b) + INF, 0) := by
 unfold sMul; rw [if_neg h, if_neg h2, if_pos c]
theorem Dir_mul (a c : Nat) : ord (sMul a c 2).1 ≤ ord (sMul a c 0).1 ∧ ord (sMul a c 0).1 ≤ ord (sMul a c 1).1 := by
 have la := cls_le a
 have lc := cls_le c
 by_cases c4 : cls a = 4 ∨ cls c = 4
 ·rw [sMul_nan 2 c4, sMul_nan 0 c4, sMul_nan 1 c4]; exact ⟨Int.le_refl _, Int.le_refl _⟩
 ·by_cases c1 : cls a = 3 ∧ cls c = 0 ∨ cls a = 0 ∧ cls c = 3
  ·rw [sMul_inv 2 c1, sMul_inv 0 c1, sMul_inv 1 c1]; exact ⟨Int.le_refl _, Int.le_refl _⟩
  ·by_cases c3 : cls a = 3 ∨ cls c = 3
   ·rw [sMul_inf 2 c4 c1 c3, sMul_inf 0 c4 c1 c3, sMul_inf 1 c4 c1 c3]; exact ⟨Int.le_refl _, Int.le_refl _⟩
   ·rw [sMul_fin 2 (by omega) (by omega), sMul_fin 0 (by omega) (by omega), sMul_fin 1 (by omega) (by omega)]
    by_cases z : mg a * mg c = 0
    ·rw [if_pos z, if_pos z, if_pos z]; exact ⟨Int.le_refl _, Int.le_refl _⟩
    ·rw [if_neg z, if_neg z, if_neg z, ord_RND, ord_RND, ord_RND]
     have D := cap_dirs (mg a * mg c / 2 ^ 1073) (decide (mg a * mg c % 2 ^ 1073 ≠ 0))
     generalize (mg a * mg c / 2 ^ 1073) = X at D ⊢
     generalize decide (mg a * mg c % 2 ^ 1073 ≠ 0) = s at D ⊢
     generalize (sgn a != sgn c) = n
     have d1 : dir false 2 = 2 := rfl
     have d2 : dir false 0 = 0 := rfl
     have d3 : dir false 1 = 1 := rfl
     have d4 : dir true 2 = 1 := rfl
     have d5 : dir true 0 = 0 := rfl
     have d6 : dir true 1 = 2 := rfl
     generalize hx0 : cap X s 0 = x0 at D
     generalize hx1 : cap X s 1 = x1 at D
     generalize hx2 : cap X s 2 = x2 at D
     cases n
     ·rw [d1, d2, d3, hx0, hx1, hx2, if_neg (by decide), if_neg (by decide), if_neg (by decide)]; omega
     ·rw [d4, d5, d6, hx0, hx1, hx2, if_pos rfl, if_pos rfl, if_pos rfl]; omega
end Go.Proofs.Ytmadjhmecfbcmaa.M
end
section
namespace Go.Proofs.Ytmadjhmecfbcmaa.M
open Go.RowKit Go.Proofs.YtmadjhmecfbcmaaW.PrintWords Go.Proofs.YtmadjhmecfbcmaaW.PrintLast Go.Proofs.YtmadjhmecfbcmaaW.PrintMore Go.Proofs.Ytmadjhmecfbcmaa.F
def NINF : Nat := 18442240474082181120
def le (a b : Nat) : Bool := decide (cls a ≠ 4 ∧ cls b ≠ 4 ∧ ord a ≤ ord b)
abbrev Sp : Type := Option (Nat × Nat)
def enc : Sp → Bool × Int × Int
 | none => (true, 0, 0)
 | some p => (false, (p.1 : Int), (p.2 : Int))
def nz (a : Nat) : Nat := if cls a = 0 then 0 else a
def norm (e : Bool) (lo hi : Nat) : Sp := if e = true ∨ le lo hi = false ∨ lo = INF ∨ hi = NINF then none else some (nz lo, nz hi)
def WF : Sp → Prop
 | none => True
 | some p => U p.1 ∧ U p.2 ∧ le p.1 p.2 = true ∧ p.1 ≠ INF ∧ p.2 ≠ NINF ∧ nz p.1 = p.1 ∧ nz p.2 = p.2
theorem cls0 : cls 0 = 0 := by decide
theorem nz_cls (a : Nat) : cls (nz a) = cls a := by unfold nz; split; (rename_i h; rw [h]; exact cls0); rfl
theorem nz_ord (a : Nat) : ord (nz a) = ord a := by
 unfold nz; split
 ·rename_i h; rw [(ord_zero a).2 h]; exact (ord_zero 0).2 cls0
 ·rfl
theorem nz_U (a : Nat) (h : U a) : U (nz a) := by unfold nz; split; decide; exact h
theorem nz_nz (a : Nat) : nz (nz a) = nz a := by
 by_cases h : cls a = 0
 ·have e : nz a = 0 := by unfold nz; rw [if_pos h]
  rw [e]; unfold nz; rw [if_pos cls0]
 ·have e : nz a = a := by unfold nz; rw [if_neg h]
  rw [e, e]
theorem nz_le (a b : Nat) : le (nz a) (nz b) = le a b := by unfold le; rw [nz_cls, nz_cls, nz_ord, nz_ord]
theorem nz_ne {a x : Nat} (hx : cls x = 3) (h : a ≠ x) : nz a ≠ x := by
 unfold nz; split
 ·intro e; rw [← e, cls0] at hx; cases hx
 ·exact h
theorem INF_cls : cls INF = 3 := by decide
theorem NINF_cls : cls NINF = 3 := by decide
theorem norm_WF (e : Bool) (lo hi : Nat) (h1 : U lo) (h2 : U hi) : WF (norm e lo hi) := by
 unfold norm
 by_cases c : e = true ∨ le lo hi = false ∨ lo = INF ∨ hi = NINF
 ·rw [if_pos c]; trivial
 ·rw [if_neg c]
  refine ⟨nz_U lo h1, nz_U hi h2, ?_, nz_ne INF_cls (fun x => c (.inr (.inr (.inl x)))), nz_ne NINF_cls (fun x => c (.inr (.inr (.inr x)))), nz_nz _, nz_nz _⟩
  rw [nz_le]
  cases h : le lo hi
  ·exact absurd (.inr (.inl h)) c
  ·rfl
theorem norm_id {p : Nat × Nat} (h : WF (some p)) : norm false p.1 p.2 = some p := by
 obtain ⟨_, _, h3, h4, h5, h6, h7⟩ := h
 unfold norm
 rw [if_neg (by rintro (x | x | x | x); cases x; rw [h3] at x; cases x; exact h4 x; exact h5 x), h6, h7]
theorem le_cmp (a b : Nat) : le a b = ((cmpI a b).2 && decide ((cmpI a b).1 ≤ 0)) := by
 unfold le cmpI
 by_cases c : cls a = 4 ∨ cls b = 4
 ·rw [if_pos c, decide_eq_false (by omega)]; rfl
 ·rw [if_neg c]
  dsimp only
  rw [Bool.true_and, decide_eq_decide]
  by_cases c3 : ord a < ord b
  ·rw [if_pos c3]; exact ⟨fun _ => by decide, fun _ => ⟨fun h => c (.inl h), fun h => c (.inr h), by omega⟩⟩
  ·rw [if_neg c3]
   by_cases c4 : ord b < ord a
   ·rw [if_pos c4]; exact ⟨fun h => absurd h.2.2 (by omega), fun h => absurd h (by decide)⟩
   ·rw [if_neg c4]; exact ⟨fun _ => by decide, fun _ => ⟨fun h => c (.inl h), fun h => c (.inr h), by omega⟩⟩
theorem atMost_ev (a b : Nat) (ha : U a) (hb : U b) : Ev (fun k => span_atMost.f k (a : Int) (b : Int)) (le a b) := by
 unfold span_atMost.f
 refine Ev.b _ (Cmp_ev a b ha hb) (Ev.const ?_)
 rw [le_cmp]
 cases (cmpI a b).2
 ·rw [if_neg (by decide)]; rfl
 ·rw [if_pos rfl]; rfl
theorem sinf_ev : Ev (fun k => span_inf.f k) (INF : Int) := by unfold span_inf.f; exact Ev.b _ (Inf_ev false) (Ev.now _)
theorem sninf_ev : Ev (fun k => span_ninf.f k) (NINF : Int) := by unfold span_ninf.f; exact Ev.b _ (Inf_ev true) (Ev.now _)
theorem snorm_ev (e : Bool) (lo hi : Nat) (h1 : U lo) (h2 : U hi) : Ev (fun k => span_norm.f k e (lo : Int) (hi : Int)) (enc (norm e lo hi)) := by
 unfold span_norm.f
 by_cases c1 : e = true
 ·have n : norm e lo hi = none := by unfold norm; rw [if_pos (.inl c1)]
  rw [n]
  exact Ev.congr (fun k => by rw [if_pos c1]; rfl) (Ev.now _)
 ·refine Ev.congr (fun k => by rw [if_neg c1]) ?_
  refine Ev.b _ (atMost_ev lo hi h1 h2) ?_
  by_cases c2 : le lo hi = true
  ·refine Ev.congr (fun k => by rw [if_pos c2]) ?_
   refine Ev.b _ sinf_ev ?_
   by_cases c3 : lo = INF
   ·have n : norm e lo hi = none := by unfold norm; rw [if_pos (.inr (.inr (.inl c3)))]
    rw [n]
    exact Ev.congr (fun k => by rw [if_pos (by rw [c3])]; rfl) (Ev.now _)
   ·refine Ev.congr (fun k => by rw [if_neg (by omega)]) ?_
    refine Ev.b _ sninf_ev ?_
    by_cases c4 : hi = NINF
    ·have n : norm e lo hi = none := by unfold norm; rw [if_pos (.inr (.inr (.inr c4)))]
     rw [n]
     exact Ev.congr (fun k => by rw [if_pos (by rw [c4])]; rfl) (Ev.now _)
    ·refine Ev.congr (fun k => by rw [if_neg (by omega)]) ?_
     have n : norm e lo hi = some (nz lo, nz hi) := by
      unfold norm; rw [if_neg (by rintro (x | x | x | x); exact c1 x; rw [c2] at x; cases x; exact c3 x; exact c4 x)]
     rw [n]
     refine Ev.b _ (Class_ev lo h1) (Ev.b _ (Class_ev hi h2) (Ev.const ?_))
     have q : ∀ x : Nat, (if (cls x : Int) = 0 then (0 : Int) else (x : Int)) = ((nz x : Nat) : Int) := by
      intro x; unfold nz
      by_cases z : cls x = 0
      ·rw [if_pos (by omega), if_pos z]; rfl
      ·rw [if_neg (by omega), if_neg z]
     rw [q, q, Bool.eq_false_iff.2 c1]; rfl
  ·have n : norm e lo hi = none := by unfold norm; rw [if_pos (.inr (.inl (Bool.eq_false_iff.2 c2)))]
   rw [n]
   exact Ev.congr (fun k => by rw [if_neg c2]; rfl) (Ev.now _)
theorem sMake_ev (lo hi : Nat) (h1 : U lo) (h2 : U hi) : Ev (fun k => span_Make.f k (lo : Int) (hi : Int)) (enc (norm false lo hi)) := by
 unfold span_Make.f
 exact Ev.b _ (snorm_ev false lo hi h1 h2) (Ev.now _)
theorem sPoint_ev (f : Nat) (h : U f) : Ev (fun k => span_Point.f k (f : Int)) (enc (norm false f f)) := by
 unfold span_Point.f
 exact Ev.b _ (sMake_ev f f h h) (Ev.now _)
theorem sAll_ev : Ev (fun k => span_All.f k) (enc (norm false NINF INF)) := by
 unfold span_All.f
 exact Ev.b _ sninf_ev (Ev.b _ sinf_ev (Ev.b _ (sMake_ev NINF INF (by decide) (by decide)) (Ev.now _)))
def ins (a b : Sp) : Bool := match a, b with
 | none, _ => true
 | some _, none => false
 | some p, some q => le q.1 p.1 && le p.2 q.2
theorem sInside_ev (e1 : Bool) (l1 h1 : Nat) (e2 : Bool) (l2 h2 : Nat) (a1 : U l1) (a2 : U h1) (b1 : U l2) (b2 : U h2) :
  Ev (fun k => span_Inside.f k e1 (l1 : Int) (h1 : Int) e2 (l2 : Int) (h2 : Int)) (ins (norm e1 l1 h1) (norm e2 l2 h2)) := by
 have W1 := norm_WF e1 l1 h1 a1 a2
 have W2 := norm_WF e2 l2 h2 b1 b2
 unfold span_Inside.f
 refine Ev.b _ (snorm_ev e1 l1 h1 a1 a2) (Ev.b _ (snorm_ev e2 l2 h2 b1 b2) ?_)
 cases hp : norm e1 l1 h1 with
 | none => exact Ev.congr (fun k => by rw [if_pos (show (enc none).1 = true from rfl)]; rfl) (Ev.now _)
 | some p =>
  cases hq : norm e2 l2 h2 with
  | none => exact Ev.congr (fun k => by rw [if_neg (show ¬ (enc (some p)).1 = true by simp [enc]), if_pos (show (enc none).1 = true from rfl)]; rfl) (Ev.now _)
  | some q =>
   rw [hp] at W1
   rw [hq] at W2
   refine Ev.congr (fun k => by rw [if_neg (show ¬ (enc (some p)).1 = true by simp [enc]), if_neg (show ¬ (enc (some q)).1 = true by simp [enc])]) ?_
   refine Ev.b _ (atMost_ev q.1 p.1 W2.1 W1.1) ?_
   unfold ins
   dsimp only
   cases le q.1 p.1
   ·exact Ev.congr (fun k => by rw [if_neg (by decide)]; rfl) (Ev.now _)
   ·refine Ev.congr (fun k => by rw [if_pos rfl]) ?_
    exact Ev.b _ (atMost_ev p.2 q.2 W1.2.1 W2.2.1) (Ev.now _)
end Go.Proofs.Ytmadjhmecfbcmaa.M
end
section
namespace Go.Proofs.Ytmadjhmecfbcmaa.M
open Go.RowKit Go.Proofs.YtmadjhmecfbcmaaW.PrintWords Go.Proofs.YtmadjhmecfbcmaaW.PrintLast Go.Proofs.YtmadjhmecfbcmaaW.PrintMore Go.Proofs.Ytmadjhmecfbcmaa.F
theorem oINF : ord INF = 9218868437227405312 := by decide +kernel
theorem oNINF : ord NINF = -9218868437227405312 := by decide +kernel
theorem ord_inj {a b : Nat} (ha : U a) (hb : U b) (na : nz a = a) (nb : nz b = b) (h : ord a = ord b) : a = b := by
 by_cases c : cls a = 0
 ·have c2 : cls b = 0 := (ord_zero b).1 (by rw [← h]; exact (ord_zero a).2 c)
  unfold nz at na nb
  rw [if_pos c] at na
  rw [if_pos c2] at nb
  rw [← na, ← nb]
 ·have h0 : ord a ≠ 0 := fun x => c ((ord_zero a).1 x)
  have pa := a_parts a ha
  have pb := a_parts b hb
  have k : sgn a = sgn b ∧ key a = key b := by
   unfold ord at h h0
   generalize sgn a = sa at h h0 ⊢
   generalize sgn b = sb at h h0 ⊢
   cases sa <;> cases sb <;> simp only [Bool.false_eq_true, if_false, if_true] at h h0
   ·exact ⟨rfl, by omega⟩
   ·exfalso; omega
   ·exfalso; omega
   ·exact ⟨rfl, by omega⟩
  rw [pa, pb, k.1, k.2]
theorem le_iff {a b : Nat} (na : cls a ≠ 4) (nb : cls b ≠ 4) : le a b = true ↔ ord a ≤ ord b := by
 unfold le; rw [decide_eq_true_iff]; exact ⟨fun h => h.2.2, fun h => ⟨na, nb, h⟩⟩
theorem le_no {a b : Nat} (na : cls a ≠ 4) (nb : cls b ≠ 4) : le a b = false ↔ ord b < ord a := by
 unfold le; rw [decide_eq_false_iff_not]
 exact ⟨fun h => by by_cases c : ord a ≤ ord b; exact absurd ⟨na, nb, c⟩ h; omega, fun h x => absurd x.2.2 (by omega)⟩
theorem eq_INF {a : Nat} (ha : U a) (na : cls a ≠ 4) : a = INF ↔ ord a = 9218868437227405312 := by
 constructor
 ·intro h; rw [h]; exact oINF
 ·intro h
  have c := cls_inf a na (.inl h)
  have o := ord_inf a c
  have e := inf_eq ha c
  cases s : sgn a
  ·rw [s] at e; rw [e]; decide
  ·rw [s, if_pos rfl] at o; omega
theorem eq_NINF {a : Nat} (ha : U a) (na : cls a ≠ 4) : a = NINF ↔ ord a = -9218868437227405312 := by
 constructor
 ·intro h; rw [h]; exact oNINF
 ·intro h
  have c := cls_inf a na (.inr h)
  have o := ord_inf a c
  have e := inf_eq ha c
  cases s : sgn a
  ·rw [s, if_neg (by decide)] at o; omega
  ·rw [s] at e; rw [e]; decide
structure W2 (p : Nat × Nat) : Prop where
 u1 : U p.1
 u2 : U p.2
 n1 : cls p.1 ≠ 4
 n2 : cls p.2 ≠ 4
 o : ord p.1 ≤ ord p.2
 l : ord p.1 < 9218868437227405312
 g : -9218868437227405312 < ord p.2
 z1 : nz p.1 = p.1
 z2 : nz p.2 = p.2
theorem le_nan {a b : Nat} (h : le a b = true) : cls a ≠ 4 ∧ cls b ≠ 4 ∧ ord a ≤ ord b := by
 unfold le at h; rw [decide_eq_true_iff] at h; exact h
theorem W2.of {p : Nat × Nat} (h : WF (some p)) : W2 p := by
 obtain ⟨h1, h2, h3, h4, h5, h6, h7⟩ := h
 obtain ⟨n1, n2, o⟩ := le_nan h3
 have b1 := ord_bd p.1 n1
 have b2 := ord_bd p.2 n2
 have e1 : ord p.1 ≠ 9218868437227405312 := fun x => h4 ((eq_INF h1 n1).2 x)
 have e2 : ord p.2 ≠ -9218868437227405312 := fun x => h5 ((eq_NINF h2 n2).2 x)
 exact ⟨h1, h2, n1, n2, o, by omega, by omega, h6, h7⟩
theorem W2.wf {p : Nat × Nat} (h : W2 p) : WF (some p) := by
 refine ⟨h.u1, h.u2, (le_iff h.n1 h.n2).2 h.o, fun e => ?_, fun e => ?_, h.z1, h.z2⟩
 ·have := h.l; rw [e, oINF] at this; omega
 ·have := h.g; rw [e, oNINF] at this; omega
theorem W2.ext {p q : Nat × Nat} (h : W2 p) (k : W2 q) (e1 : ord p.1 = ord q.1) (e2 : ord p.2 = ord q.2) : p = q :=
 Prod.ext (ord_inj h.u1 k.u1 h.z1 k.z1 e1) (ord_inj h.u2 k.u2 h.z2 k.z2 e2)
structure Fl (a : Nat) : Prop where
 u : U a
 n : cls a ≠ 4
theorem Fl.bd {a : Nat} (h : Fl a) : -9218868437227405312 ≤ ord a ∧ ord a ≤ 9218868437227405312 := ord_bd a h.n
theorem W2.f1 {p : Nat × Nat} (h : W2 p) : Fl p.1 := ⟨h.u1, h.n1⟩
theorem W2.f2 {p : Nat × Nat} (h : W2 p) : Fl p.2 := ⟨h.u2, h.n2⟩
theorem Fl.nz {a : Nat} (h : Fl a) : Fl (nz a) := ⟨nz_U a h.u, by rw [nz_cls]; exact h.n⟩
theorem Fl0 : Fl 0 := ⟨by decide, by decide⟩
theorem FlINF : Fl INF := ⟨by decide, by decide⟩
theorem FlNINF : Fl NINF := ⟨by decide, by decide⟩
theorem ord0 : ord 0 = 0 := by decide
theorem norm_some {a b : Nat} (ha : Fl a) (hb : Fl b) (o : ord a ≤ ord b) (l : ord a < 9218868437227405312) (g : -9218868437227405312 < ord b) :
  norm false a b = some (nz a, nz b) ∧ W2 (nz a, nz b) := by
 refine ⟨?_, ha.nz.u, hb.nz.u, ha.nz.n, hb.nz.n, by rw [nz_ord, nz_ord]; exact o, by rw [nz_ord]; exact l, by rw [nz_ord]; exact g, nz_nz a, nz_nz b⟩
 unfold norm
 rw [if_neg]
 rintro (x | x | x | x)
 ·cases x
 ·rw [le_no ha.n hb.n] at x; omega
 ·rw [x, oINF] at l; omega
 ·rw [x, oNINF] at g; omega
theorem norm_none {a b : Nat} (ha : Fl a) (hb : Fl b) (h : ord b < ord a ∨ ord a = 9218868437227405312 ∨ ord b = -9218868437227405312) : norm false a b = none := by
 unfold norm
 rw [if_pos]
 rcases h with h | h | h
 ·exact .inr (.inl ((le_no ha.n hb.n).2 h))
 ·exact .inr (.inr (.inl ((eq_INF ha.u ha.n).2 h)))
 ·exact .inr (.inr (.inr ((eq_NINF hb.u hb.n).2 h)))
theorem W2.norm {p : Nat × Nat} (h : W2 p) : M.norm false p.1 p.2 = some p := norm_id h.wf
def lw (a b : Nat) : Nat := if ord b < ord a then b else a
def hr (a b : Nat) : Nat := if ord a < ord b then b else a
theorem lw_spec (a b : Nat) : (ord (lw a b) = ord a ∨ ord (lw a b) = ord b) ∧ ord (lw a b) ≤ ord a ∧ ord (lw a b) ≤ ord b := by unfold lw; split <;> omega
theorem hr_spec (a b : Nat) : (ord (hr a b) = ord a ∨ ord (hr a b) = ord b) ∧ ord a ≤ ord (hr a b) ∧ ord b ≤ ord (hr a b) := by unfold hr; split <;> omega
theorem lw_p {P : Nat → Prop} {a b : Nat} (h : P a) (k : P b) : P (lw a b) := by unfold lw; split; exact k; exact h
theorem hr_p {P : Nat → Prop} {a b : Nat} (h : P a) (k : P b) : P (hr a b) := by unfold hr; split; exact k; exact h
def join : Sp → Sp → Sp
 | none, s => s
 | some p, none => some p
 | some p, some q => some (lw p.1 q.1, hr p.2 q.2)
theorem W2.join {p q : Nat × Nat} (h : W2 p) (k : W2 q) : W2 (lw p.1 q.1, hr p.2 q.2) := by
 have s1 := lw_spec p.1 q.1
 have s2 := hr_spec p.2 q.2
 have a1 := h.o
 have a2 := h.l
 have a3 := h.g
 exact ⟨lw_p (P := U) h.u1 k.u1, hr_p (P := U) h.u2 k.u2, lw_p (P := fun x => cls x ≠ 4) h.n1 k.n1, hr_p (P := fun x => cls x ≠ 4) h.n2 k.n2,
  by dsimp only; omega, by dsimp only; omega, by dsimp only; omega, lw_p (P := fun x => nz x = x) h.z1 k.z1, hr_p (P := fun x => nz x = x) h.z2 k.z2⟩
theorem join_WF {s t : Sp} (h : WF s) (k : WF t) : WF (join s t) := by
 cases s with
 | none => exact k
 | some p => cases t with
  | none => exact h
  | some q => exact ((W2.of h).join (W2.of k)).wf
theorem join_none (s : Sp) : join s none = s := by cases s <;> rfl
def meet : Sp → Sp → Sp
 | some p, some q => norm false (hr p.1 q.1) (lw p.2 q.2)
 | _, _ => none
theorem meet_WF {s t : Sp} (h : WF s) (k : WF t) : WF (meet s t) := by
 cases s with
 | none => trivial
 | some p => cases t with
  | none => trivial
  | some q =>
   have h := W2.of h
   have k := W2.of k
   exact norm_WF _ _ _ (hr_p (P := U) h.u1 k.u1) (lw_p (P := U) h.u2 k.u2)
theorem Fl.ng {a : Nat} (h : Fl a) : Fl (ng a) := ⟨ng_U a h.u, by rw [ng_cls a h.u]; exact h.n⟩
theorem Fl.ng_ord {a : Nat} (h : Fl a) : ord (M.ng a) = -ord a := M.ng_ord a h.u h.n
def neg : Sp → Sp
 | none => none
 | some p => norm false (ng p.2) (ng p.1)
theorem W2.neg {p : Nat × Nat} (h : W2 p) : M.neg (some p) = some (nz (ng p.2), nz (ng p.1)) ∧ W2 (nz (ng p.2), nz (ng p.1)) := by
 have o := h.o
 have l := h.l
 have g := h.g
 exact norm_some h.f2.ng h.f1.ng (by rw [h.f1.ng_ord, h.f2.ng_ord]; omega) (by rw [h.f2.ng_ord]; omega) (by rw [h.f1.ng_ord]; omega)
theorem neg_WF {s : Sp} (h : WF s) : WF (neg s) := by
 cases s with
 | none => trivial
 | some p => obtain ⟨e, w⟩ := (W2.of h).neg; rw [e]; exact w.wf
def absS : Sp → Sp
 | none => none
 | some p => if 0 ≤ ord p.1 then some p else if ord p.2 ≤ 0 then neg (some p) else norm false 0 (hr (ng p.1) p.2)
def mostS (s : Sp) : Nat := match absS s with | none => 0 | some p => p.2
def outer (lo hi : Nat) : Sp := if lo = INF then norm false 9218868437227405311 hi else if hi = NINF then norm false lo 18442240474082181119 else norm false lo hi
structure Co (l h : Nat) : Prop where
 f1 : Fl l
 f2 : Fl h
 o : ord l ≤ ord h
theorem outer_ok {l h : Nat} (c : Co l h) : ∃ p, outer l h = some p ∧ W2 p ∧ (ord l = 9218868437227405312 → ord p.1 = 9218868437227405311) ∧ (ord l < 9218868437227405312 → ord p.1 = ord l) ∧ (ord h = -9218868437227405312 → ord p.2 = -9218868437227405311) ∧ (-9218868437227405312 < ord h → ord p.2 = ord h) := by
 have b1 := c.f1.bd
 have b2 := c.f2.bd
 have o := c.o
 have i1 := eq_INF c.f1.u c.f1.n
 have i2 := eq_NINF c.f2.u c.f2.n
 have e1 : ord 9218868437227405311 = 9218868437227405311 := by decide +kernel
 have e2 : ord 18442240474082181119 = -9218868437227405311 := by decide +kernel
 have F1 : Fl 9218868437227405311 := ⟨by decide, by decide⟩
 have F2 : Fl 18442240474082181119 := ⟨by decide, by decide⟩
 unfold outer
 by_cases c1 : l = INF
 ·have o1 := i1.1 c1
  obtain ⟨e, w⟩ := norm_some F1 c.f2 (by omega) (by omega) (by omega)
  rw [if_pos c1]
  refine ⟨_, e, w, ?_⟩
  dsimp only
  rw [nz_ord, nz_ord, e1]
  omega
 ·have o1 : ord l ≠ 9218868437227405312 := fun x => c1 (i1.2 x)
  rw [if_neg c1]
  by_cases c2 : h = NINF
  ·have o2 := i2.1 c2
   obtain ⟨e, w⟩ := norm_some c.f1 F2 (by omega) (by omega) (by omega)
   rw [if_pos c2]
   refine ⟨_, e, w, ?_⟩
   dsimp only
   rw [nz_ord, nz_ord, e2]
   omega
  ·have o2 : ord h ≠ -9218868437227405312 := fun x => c2 (i2.2 x)
   obtain ⟨e, w⟩ := norm_some c.f1 c.f2 o (by omega) (by omega)
   rw [if_neg c2]
   refine ⟨_, e, w, ?_⟩
   dsimp only
   rw [nz_ord, nz_ord]
   omega
theorem outer_WF {l h : Nat} (c : Co l h) : WF (outer l h) := by obtain ⟨p, e, w, _⟩ := outer_ok c; rw [e]; exact w.wf
def cornP (l1 h1 l2 h2 l3 h3 l4 h4 : Nat) : Sp := join (join (join (join none (outer l1 h1)) (outer l2 h2)) (outer l3 h3)) (outer l4 h4)
def ls (a b : Nat) : Nat := if le a b = true then a else b
def gs (a b : Nat) : Nat := if le a b = true then b else a
def cornR (l1 h1 l2 h2 l3 h3 l4 h4 : Nat) : Sp := norm false (ls (ls (ls (ls INF l1) l2) l3) l4) (gs (gs (gs (gs NINF h1) h2) h3) h4)
theorem ls_spec {a b : Nat} (ha : Fl a) (hb : Fl b) : Fl (ls a b) ∧ (ord (ls a b) = ord a ∨ ord (ls a b) = ord b) ∧ ord (ls a b) ≤ ord a ∧ ord (ls a b) ≤ ord b := by
 unfold ls
 by_cases c : le a b = true
 ·rw [if_pos c]; rw [le_iff ha.n hb.n] at c; exact ⟨ha, .inl rfl, by omega, by omega⟩
 ·rw [if_neg c]; rw [le_iff ha.n hb.n] at c; exact ⟨hb, .inr rfl, by omega, by omega⟩
theorem gs_spec {a b : Nat} (ha : Fl a) (hb : Fl b) : Fl (gs a b) ∧ (ord (gs a b) = ord a ∨ ord (gs a b) = ord b) ∧ ord a ≤ ord (gs a b) ∧ ord b ≤ ord (gs a b) := by
 unfold gs
 by_cases c : le a b = true
 ·rw [if_pos c]; rw [le_iff ha.n hb.n] at c; exact ⟨hb, .inr rfl, by omega, by omega⟩
 ·rw [if_neg c]; rw [le_iff ha.n hb.n] at c; exact ⟨ha, .inl rfl, by omega, by omega⟩
set_option maxHeartbeats 4000000 in
theorem corn {l1 h1 l2 h2 l3 h3 l4 h4 : Nat} (c1 : Co l1 h1) (c2 : Co l2 h2) (c3 : Co l3 h3) (c4 : Co l4 h4)
  (hl : ord l1 < 9218868437227405312 ∨ ord l2 < 9218868437227405312 ∨ ord l3 < 9218868437227405312 ∨ ord l4 < 9218868437227405312)
  (hh : -9218868437227405312 < ord h1 ∨ -9218868437227405312 < ord h2 ∨ -9218868437227405312 < ord h3 ∨ -9218868437227405312 < ord h4) :
  ∃ p, cornP l1 h1 l2 h2 l3 h3 l4 h4 = some p ∧ cornR l1 h1 l2 h2 l3 h3 l4 h4 = some p ∧ W2 p ∧
   (ord p.1 ≤ ord l1 ∧ ord p.1 ≤ ord l2 ∧ ord p.1 ≤ ord l3 ∧ ord p.1 ≤ ord l4 ∧ (ord p.1 = ord l1 ∨ ord p.1 = ord l2 ∨ ord p.1 = ord l3 ∨ ord p.1 = ord l4)) ∧
   (ord h1 ≤ ord p.2 ∧ ord h2 ≤ ord p.2 ∧ ord h3 ≤ ord p.2 ∧ ord h4 ≤ ord p.2 ∧ (ord p.2 = ord h1 ∨ ord p.2 = ord h2 ∨ ord p.2 = ord h3 ∨ ord p.2 = ord h4)) := by
 have b1 := c1.f1.bd
 have b2 := c2.f1.bd
 have b3 := c3.f1.bd
 have b4 := c4.f1.bd
 have d1 := c1.f2.bd
 have d2 := c2.f2.bd
 have d3 := c3.f2.bd
 have d4 := c4.f2.bd
 obtain ⟨f1, s1⟩ := ls_spec FlINF c1.f1
 obtain ⟨f2, s2⟩ := ls_spec f1 c2.f1
 obtain ⟨f3, s3⟩ := ls_spec f2 c3.f1
 obtain ⟨f4, s4⟩ := ls_spec f3 c4.f1
 obtain ⟨g1, t1⟩ := gs_spec FlNINF c1.f2
 obtain ⟨g2, t2⟩ := gs_spec g1 c2.f2
 obtain ⟨g3, t3⟩ := gs_spec g2 c3.f2
 obtain ⟨g4, t4⟩ := gs_spec g3 c4.f2
 rw [oINF] at s1
 rw [oNINF] at t1
 have o1 := c1.o
 obtain ⟨p1, e1, w1, q1⟩ := outer_ok c1
 obtain ⟨p2, e2, w2, q2⟩ := outer_ok c2
 obtain ⟨p3, e3, w3, q3⟩ := outer_ok c3
 obtain ⟨p4, e4, w4, q4⟩ := outer_ok c4
 have Lo : ord (ls (ls (ls (ls INF l1) l2) l3) l4) ≤ ord l1 ∧ ord (ls (ls (ls (ls INF l1) l2) l3) l4) ≤ ord l2 ∧ ord (ls (ls (ls (ls INF l1) l2) l3) l4) ≤ ord l3 ∧ ord (ls (ls (ls (ls INF l1) l2) l3) l4) ≤ ord l4 ∧ (ord (ls (ls (ls (ls INF l1) l2) l3) l4) = ord l1 ∨ ord (ls (ls (ls (ls INF l1) l2) l3) l4) = ord l2 ∨ ord (ls (ls (ls (ls INF l1) l2) l3) l4) = ord l3 ∨ ord (ls (ls (ls (ls INF l1) l2) l3) l4) = ord l4) := by
  clear t1 t2 t3 t4 d1 d2 d3 d4 hh q1 q2 q3 q4
  omega
 have Hi : ord h1 ≤ ord (gs (gs (gs (gs NINF h1) h2) h3) h4) ∧ ord h2 ≤ ord (gs (gs (gs (gs NINF h1) h2) h3) h4) ∧ ord h3 ≤ ord (gs (gs (gs (gs NINF h1) h2) h3) h4) ∧ ord h4 ≤ ord (gs (gs (gs (gs NINF h1) h2) h3) h4) ∧ (ord (gs (gs (gs (gs NINF h1) h2) h3) h4) = ord h1 ∨ ord (gs (gs (gs (gs NINF h1) h2) h3) h4) = ord h2 ∨ ord (gs (gs (gs (gs NINF h1) h2) h3) h4) = ord h3 ∨ ord (gs (gs (gs (gs NINF h1) h2) h3) h4) = ord h4) := by
  clear s1 s2 s3 s4 b1 b2 b3 b4 hl q1 q2 q3 q4
  omega
 clear s1 s2 s3 s4 t1 t2 t3 t4
 generalize eL : ls (ls (ls (ls INF l1) l2) l3) l4 = L at f4 Lo
 generalize eH : gs (gs (gs (gs NINF h1) h2) h3) h4 = H at g4 Hi
 obtain ⟨eR, wR⟩ := norm_some f4 g4 (by omega) (by omega) (by omega)
 have w12 := w1.join w2
 have w123 := w12.join w3
 have w := w123.join w4
 have a1 := lw_spec p1.1 p2.1
 have a2 := lw_spec (lw p1.1 p2.1) p3.1
 have a3 := lw_spec (lw (lw p1.1 p2.1) p3.1) p4.1
 have u1 := hr_spec p1.2 p2.2
 have u2 := hr_spec (hr p1.2 p2.2) p3.2
 have u3 := hr_spec (hr (hr p1.2 p2.2) p3.2) p4.2
 have X1 : ord (lw (lw (lw p1.1 p2.1) p3.1) p4.1) = ord L := by
  clear u1 u2 u3 Hi d1 d2 d3 d4 hh
  generalize ord (lw (lw (lw p1.1 p2.1) p3.1) p4.1) = x at *
  generalize ord (lw (lw p1.1 p2.1) p3.1) = y at *
  generalize ord (lw p1.1 p2.1) = z at *
  have r1 := And.intro q1.1 q1.2.1
  have r2 := And.intro q2.1 q2.2.1
  have r3 := And.intro q3.1 q3.2.1
  have r4 := And.intro q4.1 q4.2.1
  clear q1 q2 q3 q4
  omega
 have X2 : ord (hr (hr (hr p1.2 p2.2) p3.2) p4.2) = ord H := by
  clear a1 a2 a3 Lo b1 b2 b3 b4 hl X1
  generalize ord (hr (hr (hr p1.2 p2.2) p3.2) p4.2) = x at *
  generalize ord (hr (hr p1.2 p2.2) p3.2) = y at *
  generalize ord (hr p1.2 p2.2) = z at *
  have r1 := q1.2.2
  have r2 := q2.2.2
  have r3 := q3.2.2
  have r4 := q4.2.2
  clear q1 q2 q3 q4
  omega
 have E := w.ext wR (by dsimp only; rw [nz_ord]; exact X1) (by dsimp only; rw [nz_ord]; exact X2)
 refine ⟨_, ?_, ?_, wR, ?_, ?_⟩
 ·unfold cornP
  rw [e1, e2, e3, e4]
  show some (lw (lw (lw p1.1 p2.1) p3.1) p4.1, hr (hr (hr p1.2 p2.2) p3.2) p4.2) = _
  rw [E]
 ·unfold cornR; rw [eL, eH]; exact eR
 ·dsimp only; rw [nz_ord]; exact Lo
 ·dsimp only; rw [nz_ord]; exact Hi
end Go.Proofs.Ytmadjhmecfbcmaa.M
end
section
namespace Go.Proofs.Ytmadjhmecfbcmaa.M
open Go.RowKit Go.Proofs.YtmadjhmecfbcmaaW.PrintWords Go.Proofs.YtmadjhmecfbcmaaW.PrintLast Go.Proofs.YtmadjhmecfbcmaaW.PrintMore Go.Proofs.Ytmadjhmecfbcmaa.F
theorem cap_le2 (X : Nat) (s : Bool) : cap X s 2 ≤ 9218868437227405311 := by
 by_cases c1 : 9218868437227405312 ≤ kk X s 2
 ·rw [cap_over c1, if_pos rfl]; exact Nat.le_refl _
 ·rw [cap_in c1]; omega
theorem ro_lt (n : Bool) (X : Nat) (s : Bool) : ro n X s 2 < 9218868437227405312 := by
 unfold ro; cases n
 ·rw [if_neg (by decide), show dir false 2 = 2 from rfl]; have := cap_le2 X s; omega
 ·rw [if_pos rfl]; omega
theorem ro_gt (n : Bool) (X : Nat) (s : Bool) : -9218868437227405312 < ro n X s 1 := by
 unfold ro; cases n
 ·rw [if_neg (by decide)]; omega
 ·rw [if_pos rfl, show dir true 1 = 2 from rfl]; have := cap_le2 X s; omega
theorem ro_dirs (n : Bool) (X : Nat) (s : Bool) : ro n X s 2 ≤ ro n X s 1 := by
 unfold ro
 have D := cap_dirs X s
 cases n
 ·rw [if_neg (by decide), if_neg (by decide), show dir false 2 = 2 from rfl, show dir false 1 = 1 from rfl]; omega
 ·rw [if_pos rfl, if_pos rfl, show dir true 2 = 1 from rfl, show dir true 1 = 2 from rfl]; omega
theorem rq_lt (v : Int) (D : Nat) : rq v D 2 < 9218868437227405312 := ro_lt _ _ _
theorem rq_gt (v : Int) (D : Nat) : -9218868437227405312 < rq v D 1 := ro_gt _ _ _
theorem rq_dirs (v : Int) (D : Nat) : rq v D 2 ≤ rq v D 1 := ro_dirs _ _ _
theorem fin_iff {a : Nat} (h : Fl a) : cls a ≤ 2 ↔ -9218868437227405312 < ord a ∧ ord a < 9218868437227405312 := by
 have l := cls_le a
 have n := h.n
 constructor
 ·exact ord_fin a
 ·intro k
  by_cases c : cls a = 3
  ·have := ord_inf a c; split at this <;> omega
  ·omega
theorem inf_iff {a : Nat} (h : Fl a) : cls a = 3 ↔ ord a = 9218868437227405312 ∨ ord a = -9218868437227405312 := by
 constructor
 ·intro c; have := ord_inf a c; split at this <;> omega
 ·exact cls_inf a h.n
theorem sgn_neg {a : Nat} (h : ord a < 0) : sgn a = true := by
 cases s : sgn a
 ·have := ord_pos_ge a s; omega
 ·rfl
theorem sgn_pos {a : Nat} (h : 0 < ord a) : sgn a = false := by
 cases s : sgn a
 ·rfl
 ·have := ord_neg_le a s; omega
theorem add_lo {a b : Nat} (ha : Fl a) (hb : Fl b) (la : ord a < 9218868437227405312) (lb : ord b < 9218868437227405312) :
  Fl (sAdd a b 2).1 ∧ ord (sAdd a b 2).1 < 9218868437227405312 ∧ (ord a = -9218868437227405312 ∨ ord b = -9218868437227405312 → ord (sAdd a b 2).1 = -9218868437227405312) ∧
  (-9218868437227405312 < ord a → -9218868437227405312 < ord b → ord (sAdd a b 2).1 = rq (2 * (sv a + sv b)) 1 2) := by
 have n4 : ¬ (cls a = 4 ∨ cls b = 4) := by have := ha.n; have := hb.n; omega
 have ia := inf_iff ha
 have ib := inf_iff hb
 have ba := ha.bd
 have bb := hb.bd
 have n3 : ¬ (cls a = 3 ∧ cls b = 3 ∧ sgn a ≠ sgn b) := by
  rintro ⟨x, y, z⟩
  apply z
  rw [sgn_neg (a := a) (by omega), sgn_neg (a := b) (by omega)]
 have F : Fl (sAdd a b 2).1 := ⟨sAdd_U a b 2 ha.u hb.u, fun x => by
  rcases (cls_sAdd a b 2).1 x with h | h | h
  ·exact n4 (.inl h)
  ·exact n4 (.inr h)
  ·exact n3 h⟩
 refine ⟨F, ?_⟩
 by_cases c1 : cls a = 3
 ·rw [sAdd_infl 2 n4 n3 c1]; dsimp only; omega
 ·by_cases c2 : cls b = 3
  ·rw [sAdd_infr 2 n4 c1 c2]; dsimp only; omega
  ·have fa := (fin_iff ha).2 (by omega)
   have fb := (fin_iff hb).2 (by omega)
   have e := ord_sAdd a b 2 fa fb
   have := rq_lt (2 * (sv a + sv b)) 1
   omega
def addS : Sp → Sp → Sp
 | some p, some q => norm false (sAdd p.1 q.1 2).1 (sAdd p.2 q.2 1).1
 | _, _ => none
def tms (a b m : Nat) : Nat := if cls a = 0 ∨ cls b = 0 then 0 else (sMul a b m).1
theorem tms_fl {a b : Nat} (ha : Fl a) (hb : Fl b) (m : Nat) : Fl (tms a b m) := by
 unfold tms
 by_cases c : cls a = 0 ∨ cls b = 0
 ·rw [if_pos c]; exact Fl0
 ·rw [if_neg c]
  have n4 : ¬ (cls a = 4 ∨ cls b = 4) := by have := ha.n; have := hb.n; omega
  have n0 : ¬ (cls a = 3 ∧ cls b = 0 ∨ cls a = 0 ∧ cls b = 3) := by omega
  refine ⟨sMul_U a b m, ?_⟩
  by_cases c3 : cls a = 3 ∨ cls b = 3
  ·rw [sMul_inf m n4 n0 c3]
   have := cls_sg (sgn a != sgn b) INF (by decide)
   dsimp only; omega
  ·have la := cls_le a
   have lb := cls_le b
   rw [sMul_fin m (by omega) (by omega)]
   split
   ·dsimp only; rw [cls_sg0]; decide
   ·have := cls_RND (sgn a != sgn b) (mg a * mg b / 2 ^ 1073) (decide (mg a * mg b % 2 ^ 1073 ≠ 0)) m
    omega
theorem tms_co {a b : Nat} (ha : Fl a) (hb : Fl b) : Co (tms a b 2) (tms a b 1) := by
 refine ⟨tms_fl ha hb 2, tms_fl ha hb 1, ?_⟩
 unfold tms
 split
 ·exact Int.le_refl _
 ·have := Dir_mul a b; omega
def mulS : Sp → Sp → Sp
 | some p, some q => cornP (tms p.1 q.1 2) (tms p.1 q.1 1) (tms p.1 q.2 2) (tms p.1 q.2 1) (tms p.2 q.1 2) (tms p.2 q.1 1) (tms p.2 q.2 2) (tms p.2 q.2 1)
 | _, _ => none
theorem FXS_den (A B T : Nat) (E : Int) (r : Bool) : FX A (B * 2 ^ T) (E + T) = FX A B E ∧ FS A (B * 2 ^ T) (E + T) r = FS A B E r := by
 have key : ∃ u, FN A (E + T) = 2 ^ u * FN A E ∧ FD (B * 2 ^ T) (E + T) = 2 ^ u * FD B E := by
  refine ⟨(E + T + 1075).toNat - (E + 1075).toNat, ?_, ?_⟩
  ·unfold FN
   rw [Nat.mul_left_comm, ← Nat.pow_add]; congr 2; omega
  ·unfold FD
   rw [Nat.mul_assoc, ← Nat.pow_add, Nat.mul_left_comm, ← Nat.pow_add]; congr 2; omega
 obtain ⟨u, k1, k2⟩ := key
 unfold FX FS
 rw [k1, k2, Nat.mul_div_mul_left _ _ (two_pos u), Nat.mul_mod_mul_left]
 refine ⟨rfl, ?_⟩
 congr 2
 rw [Ne, Nat.mul_eq_zero, eq_iff_iff]
 have := two_pos u
 constructor
 ·intro h1 h2; exact h1 (.inr h2)
 ·rintro h1 (h2 | h2)
  ·omega
  ·exact h1 h2
theorem FX_div (a b : Nat) (ca : cls a ≤ 2) (cb : cls b ≤ 2) : FX (spm a) (spm b) (spe a - spe b) = mg a * 2 ^ 1075 / mg b ∧ FS (spm a) (spm b) (spe a - spe b) false = decide (mg a * 2 ^ 1075 % mg b ≠ 0) := by
 have ha := spe_bd a
 have hb := spe_bd b
 have S := FXS_scale (spm a) (spm b) (spe a + 1074).toNat (spe a - spe b) false
 have T := FXS_den (spm a * 2 ^ (spe a + 1074).toNat) (spm b) (spe b + 1074).toNat (spe a - spe b - (spe a + 1074).toNat) false
 have e2 : spe a - spe b - ((spe a + 1074).toNat : Int) + ((spe b + 1074).toNat : Int) = 0 := by omega
 rw [e2, ← mg_split a ca, ← mg_split b cb] at T
 rw [← mg_split a ca] at S
 rw [← S.1, ← S.2, ← T.1, ← T.2]
 unfold FX FS FN FD
 have e3 : ((0 : Int) + 1075).toNat = 1075 := by decide
 have e4 : (-((0 : Int) + 1075)).toNat = 0 := by decide
 rw [e3, e4, Nat.pow_zero, Nat.mul_one, Bool.false_or]
 generalize (2 : Nat) ^ 1075 = T
 exact ⟨rfl, rfl⟩
theorem sDiv_fin {a b : Nat} (m : Nat) (ca : cls a = 1 ∨ cls a = 2) (cb : cls b = 1 ∨ cls b = 2) :
  sDiv a b m = RND (sgn a != sgn b) (mg a * 2 ^ 1075 / mg b) (decide (mg a * 2 ^ 1075 % mg b ≠ 0)) m := by
 have F := FX_div a b (by omega) (by omega)
 unfold sDiv
 rw [if_neg (by omega), if_neg (by omega), if_neg (by omega), if_neg (by omega), if_neg (by omega), F.1, F.2]
theorem natAbs_pow (v : Int) (n : Nat) : (v * 2 ^ n).natAbs = v.natAbs * 2 ^ n := by rw [Int.natAbs_mul, Int.natAbs_pow]; rfl
theorem mul_neg_iff (v : Int) (n : Nat) : v * 2 ^ n < 0 ↔ v < 0 := by
 have p2 : (0 : Int) < 2 ^ n := Int.pow_pos (by decide)
 constructor
 ·intro h
  by_cases c : 0 ≤ v
  ·have := Int.mul_nonneg c (Int.le_of_lt p2); omega
  ·omega
 ·intro h; exact Int.mul_neg_of_neg_of_pos h p2
theorem sv_abs (a : Nat) : (sv a).natAbs = mg a := by unfold sv; split <;> omega
theorem ord_sDiv (a b m : Nat) (ca : cls a = 1 ∨ cls a = 2) (cb : cls b = 1 ∨ cls b = 2) (hb : sgn b = false) : ord (sDiv a b m).1 = rq (sv a * 2 ^ 1075) (mg b) m := by
 rw [sDiv_fin m ca cb, ord_RND, hb]
 have e : (sgn a != false) = sgn a := by cases sgn a <;> rfl
 rw [e]
 have hp : 0 < mg a := Nat.pos_of_ne_zero (fun h => by rw [mg_zero] at h; omega)
 have hd : decide (sv a < 0) = sgn a := by
  unfold sv
  cases sgn a
  ·rw [if_neg (by decide), decide_eq_false_iff_not]; omega
  ·rw [if_pos rfl, decide_eq_true_iff]; omega
 unfold rq ro
 rw [natAbs_pow, sv_abs, show decide (sv a * 2 ^ 1075 < 0) = decide (sv a < 0) from decide_eq_decide.2 (mul_neg_iff _ _), hd]
def ov (a b m : Nat) : Nat := if cls a = 0 then 0 else if cls a = 3 ∨ cls b = 0 then (if sgn a then NINF else INF) else if cls b = 3 then 0 else (sDiv a b m).1
theorem sDiv_U (a b m : Nat) : U (sDiv a b m).1 := by
 unfold sDiv
 (repeat' split)
 ·decide
 ·decide
 ·unfold U sg INF; split <;> omega
 ·unfold U sg INF; split <;> omega
 ·unfold U sg; dsimp only; split <;> omega
 ·exact U_RND _ _ _ _
theorem ov_spec {a b : Nat} (ha : Fl a) (hb : Fl b) (s : 0 ≤ ord b) (m : Nat) : Fl (ov a b m) ∧ (ord a = 0 → ord (ov a b m) = 0) ∧
  (ord a = 9218868437227405312 ∨ ord a = -9218868437227405312 ∨ ord b = 0 → (0 < ord a → ord (ov a b m) = 9218868437227405312) ∧ (ord a < 0 → ord (ov a b m) = -9218868437227405312)) ∧
  (-9218868437227405312 < ord a → ord a < 9218868437227405312 → ord b = 9218868437227405312 → ord (ov a b m) = 0) ∧
  (-9218868437227405312 < ord a → ord a < 9218868437227405312 → 0 < ord b → ord b < 9218868437227405312 → ord (ov a b m) = rq (sv a * 2 ^ 1075) (mg b) m) := by
 have ia := inf_iff ha
 have ib := inf_iff hb
 have fa := fin_iff ha
 have fb := fin_iff hb
 have za := ord_zero a
 have zb := ord_zero b
 have la := cls_le a
 have lb := cls_le b
 have na := ha.n
 have nb := hb.n
 unfold ov
 by_cases c0 : cls a = 0
 ·rw [if_pos c0]
  have o := za.2 c0
  refine ⟨Fl0, fun _ => ord0, fun _ => ⟨fun h => by omega, fun h => by omega⟩, fun _ _ _ => ord0, fun _ _ _ _ => ?_⟩
  rw [(sv_zero a).2 c0, Int.zero_mul, rq_zero]; exact ord0
 ·rw [if_neg c0]
  by_cases c1 : cls a = 3 ∨ cls b = 0
  ·rw [if_pos c1]
   refine ⟨by split; exact FlNINF; exact FlINF, fun h => by omega, fun _ => ⟨fun h => ?_, fun h => ?_⟩, fun _ _ _ => by omega, fun _ _ _ _ => by omega⟩
   ·rw [sgn_pos h, if_neg (by decide)]; exact oINF
   ·rw [sgn_neg h, if_pos rfl]; exact oNINF
  ·rw [if_neg c1]
   by_cases c2 : cls b = 3
   ·rw [if_pos c2]
    exact ⟨Fl0, fun _ => ord0, fun h => by omega, fun _ _ _ => ord0, fun _ _ _ _ => by omega⟩
   ·rw [if_neg c2]
    have hs : sgn b = false := by
     cases s' : sgn b
     ·rfl
     ·have := ord_neg_le b s'; omega
    have R := ord_sDiv a b m (by omega) (by omega) hs
    refine ⟨⟨sDiv_U a b m, ?_⟩, fun h => by omega, fun h => by omega, fun _ _ _ => by omega, fun _ _ _ _ => R⟩
    rw [sDiv_fin m (by omega) (by omega)]
    have := cls_RND (sgn a != sgn b) (mg a * 2 ^ 1075 / mg b) (decide (mg a * 2 ^ 1075 % mg b ≠ 0)) m
    omega
theorem ov_co {a b : Nat} (ha : Fl a) (hb : Fl b) (s : 0 ≤ ord b) : Co (ov a b 2) (ov a b 1) := by
 obtain ⟨f1, s1⟩ := ov_spec ha hb s 2
 obtain ⟨f2, s2⟩ := ov_spec ha hb s 1
 have ba := ha.bd
 have bb := hb.bd
 have d := rq_dirs (sv a * 2 ^ 1075) (mg b)
 exact ⟨f1, f2, by omega⟩
theorem ov_lt {a b : Nat} (ha : Fl a) (hb : Fl b) (s : 0 < ord b) (l : ord a < 9218868437227405312) : ord (ov a b 2) < 9218868437227405312 := by
 obtain ⟨f1, s1⟩ := ov_spec ha hb (by omega) 2
 have ba := ha.bd
 have bb := hb.bd
 have := rq_lt (sv a * 2 ^ 1075) (mg b)
 omega
theorem ov_gt {a b : Nat} (ha : Fl a) (hb : Fl b) (s : 0 < ord b) (l : -9218868437227405312 < ord a) : -9218868437227405312 < ord (ov a b 1) := by
 obtain ⟨f1, s1⟩ := ov_spec ha hb (by omega) 1
 have ba := ha.bd
 have bb := hb.bd
 have := rq_gt (sv a * 2 ^ 1075) (mg b)
 omega
def abv (p : Nat × Nat) (lo hi : Nat) : Sp := cornP (ov p.1 lo 2) (ov p.1 lo 1) (ov p.1 hi 2) (ov p.1 hi 1) (ov p.2 lo 2) (ov p.2 lo 1) (ov p.2 hi 2) (ov p.2 hi 1)
theorem abv_corn {p : Nat × Nat} {lo hi : Nat} (h : W2 p) (f1 : Fl lo) (f2 : Fl hi) (s1 : 0 ≤ ord lo) (s2 : 0 < ord hi) : ∃ r, abv p lo hi = some r ∧
  cornR (ov p.1 lo 2) (ov p.1 lo 1) (ov p.1 hi 2) (ov p.1 hi 1) (ov p.2 lo 2) (ov p.2 lo 1) (ov p.2 hi 2) (ov p.2 hi 1) = some r ∧ W2 r ∧
   (ord r.1 ≤ ord (ov p.1 lo 2) ∧ ord r.1 ≤ ord (ov p.1 hi 2) ∧ ord r.1 ≤ ord (ov p.2 lo 2) ∧ ord r.1 ≤ ord (ov p.2 hi 2) ∧ (ord r.1 = ord (ov p.1 lo 2) ∨ ord r.1 = ord (ov p.1 hi 2) ∨ ord r.1 = ord (ov p.2 lo 2) ∨ ord r.1 = ord (ov p.2 hi 2))) ∧
   (ord (ov p.1 lo 1) ≤ ord r.2 ∧ ord (ov p.1 hi 1) ≤ ord r.2 ∧ ord (ov p.2 lo 1) ≤ ord r.2 ∧ ord (ov p.2 hi 1) ≤ ord r.2 ∧ (ord r.2 = ord (ov p.1 lo 1) ∨ ord r.2 = ord (ov p.1 hi 1) ∨ ord r.2 = ord (ov p.2 lo 1) ∨ ord r.2 = ord (ov p.2 hi 1))) := by
 refine corn (ov_co h.f1 f1 s1) (ov_co h.f1 f2 (by omega)) (ov_co h.f2 f1 s1) (ov_co h.f2 f2 (by omega)) ?_ ?_
 ·exact .inr (.inl (ov_lt h.f1 f2 s2 h.l))
 ·exact .inr (.inr (.inr (ov_gt h.f2 f2 s2 h.g)))
theorem abv_WF {p : Nat × Nat} {lo hi : Nat} (h : W2 p) (f1 : Fl lo) (f2 : Fl hi) (s1 : 0 ≤ ord lo) (s2 : 0 < ord hi) : WF (abv p lo hi) := by
 obtain ⟨r, e, _, w, _⟩ := abv_corn h f1 f2 s1 s2
 rw [e]; exact w.wf
def divS : Sp → Sp → Sp
 | some p, some q => join (if 0 < ord q.2 then abv p (hr q.1 0) q.2 else none) (if ord q.1 < 0 then neg (abv p (nz (ng (lw q.2 0))) (nz (ng q.1))) else none)
 | _, _ => none
theorem divS_parts {p q : Nat × Nat} (h : W2 p) (k : W2 q) : WF (if 0 < ord q.2 then abv p (hr q.1 0) q.2 else none) ∧ WF (if ord q.1 < 0 then neg (abv p (nz (ng (lw q.2 0))) (nz (ng q.1))) else none) := by
 refine ⟨?_, ?_⟩
 ·split
  ·have := hr_spec q.1 0
   rw [ord0] at this
   exact abv_WF h (hr_p k.f1 Fl0) k.f2 (by omega) (by assumption)
  ·trivial
 ·split
  ·have s := lw_spec q.2 0
   rw [ord0] at s
   have F : Fl (lw q.2 0) := lw_p k.f2 Fl0
   exact neg_WF (abv_WF h F.ng.nz k.f1.ng.nz (by rw [nz_ord, F.ng_ord]; omega) (by rw [nz_ord, k.f1.ng_ord]; omega))
  ·trivial
end Go.Proofs.Ytmadjhmecfbcmaa.M
end
section
namespace Go.Proofs.Ytmadjhmecfbcmaa.M
open Go.RowKit Go.Proofs.YtmadjhmecfbcmaaW.PrintWords Go.Proofs.YtmadjhmecfbcmaaW.PrintLast Go.Proofs.YtmadjhmecfbcmaaW.PrintMore Go.Proofs.Ytmadjhmecfbcmaa.F
theorem meet_ok {p q : Nat × Nat} (h : W2 p) (k : W2 q) : meet (some p) (some q) = none ∨ ∃ r, meet (some p) (some q) = some r ∧ W2 r ∧ ord r.1 = ord (hr p.1 q.1) ∧ ord r.2 = ord (lw p.2 q.2) := by
 have F1 : Fl (hr p.1 q.1) := hr_p h.f1 k.f1
 have F2 : Fl (lw p.2 q.2) := lw_p h.f2 k.f2
 have a := hr_spec p.1 q.1
 have b := lw_spec p.2 q.2
 have l1 := h.l
 have l2 := k.l
 have g1 := h.g
 have g2 := k.g
 by_cases c : ord (hr p.1 q.1) ≤ ord (lw p.2 q.2)
 ·right
  obtain ⟨e, w⟩ := norm_some F1 F2 c (by omega) (by omega)
  exact ⟨_, e, w, nz_ord _, nz_ord _⟩
 ·left; exact norm_none F1 F2 (.inl (by omega))
end Go.Proofs.Ytmadjhmecfbcmaa.M
end
section
namespace Go.Proofs.Ytmadjhmecfbcmaa.M
open Go.RowKit Go.Proofs.YtmadjhmecfbcmaaW.PrintWords Go.Proofs.YtmadjhmecfbcmaaW.PrintLast Go.Proofs.YtmadjhmecfbcmaaW.PrintMore Go.Proofs.Ytmadjhmecfbcmaa.F
theorem Ev.ift {α : Type} {c : Prop} [Decidable c] {g f : Nat → Option α} {r : α} (h : c) (k : Ev g r) : Ev (fun n => if c then g n else f n) r := Ev.congr (fun _ => if_pos h) k
theorem Ev.iff {α : Type} {c : Prop} [Decidable c] {g f : Nat → Option α} {r : α} (h : ¬ c) (k : Ev f r) : Ev (fun n => if c then g n else f n) r := Ev.congr (fun _ => if_neg h) k
theorem e_none : (enc none).1 = true := rfl
theorem e_some (p : Nat × Nat) : ¬ (enc (some p)).1 = true := by show ¬ false = true; decide
def Is (e : Bool) (a b : Int) (s : Sp) : Prop := ∃ lo hi : Nat, U lo ∧ U hi ∧ a = lo ∧ b = hi ∧ norm e lo hi = s
theorem Is.wf {e : Bool} {a b : Int} {s : Sp} (h : Is e a b s) : WF s := by
 obtain ⟨lo, hi, h1, h2, _, _, rfl⟩ := h; exact norm_WF e lo hi h1 h2
theorem Is.raw (e : Bool) {lo hi : Nat} (h1 : U lo) (h2 : U hi) : Is e lo hi (norm e lo hi) := ⟨lo, hi, h1, h2, rfl, rfl, rfl⟩
theorem Is.enc {s : Sp} (h : WF s) : Is (enc s).1 (enc s).2.1 (enc s).2.2 s := by
 cases s with
 | none => exact ⟨0, 0, by decide, by decide, rfl, rfl, by unfold norm; rw [if_pos (.inl rfl)]⟩
 | some p => exact ⟨p.1, p.2, h.1, h.2.1, rfl, rfl, norm_id h⟩
theorem sn_ev {e : Bool} {a b : Int} {s : Sp} (h : Is e a b s) : Ev (fun k => span_norm.f k e a b) (enc s) := by
 obtain ⟨lo, hi, h1, h2, rfl, rfl, rfl⟩ := h; exact snorm_ev e lo hi h1 h2
theorem less_m {a b : Nat} (ha : Fl a) (hb : Fl b) : less a b = decide (ord a < ord b) := by
 unfold less; rw [decide_eq_decide]; exact ⟨fun h => h.2.2, fun h => ⟨ha.n, hb.n, h⟩⟩
theorem Max_ev {a b : Nat} (ha : Fl a) (hb : Fl b) : Ev (fun k => pattern_Max.f k [(a : Int), (b : Int)]) ((hr a b : Nat) : Int) := by
 unfold pattern_Max.f
 dsimp only
 refine Ev.b _ (nan_ev a ha.u) (Ev.iff (by rw [decide_eq_true_iff]; exact ha.n) ?_)
 refine Ev.b _ (Less_ev a a ha.u ha.u) (Ev.b _ (nan_ev b hb.u) (Ev.iff (by rw [decide_eq_true_iff]; exact hb.n) ?_))
 refine Ev.b _ (Less_ev a b ha.u hb.u) (Ev.const ?_)
 rw [less_m ha hb]
 unfold hr
 by_cases c : ord a < ord b
 ·rw [decide_eq_true c, if_pos rfl, if_pos c]
 ·rw [decide_eq_false c, if_neg (by decide), if_neg c]
theorem Min_ev {a b : Nat} (ha : Fl a) (hb : Fl b) : Ev (fun k => pattern_Min.f k [(a : Int), (b : Int)]) ((lw a b : Nat) : Int) := by
 unfold pattern_Min.f
 dsimp only
 refine Ev.b _ (nan_ev a ha.u) (Ev.iff (by rw [decide_eq_true_iff]; exact ha.n) ?_)
 refine Ev.b _ (Less_ev a a ha.u ha.u) (Ev.b _ (nan_ev b hb.u) (Ev.iff (by rw [decide_eq_true_iff]; exact hb.n) ?_))
 refine Ev.b _ (Less_ev b a hb.u ha.u) (Ev.const ?_)
 rw [less_m hb ha]
 unfold lw
 by_cases c : ord b < ord a
 ·rw [decide_eq_true c, if_pos rfl, if_pos c]
 ·rw [decide_eq_false c, if_neg (by decide), if_neg c]
theorem sMake_W2 {p : Nat × Nat} (h : W2 p) : Ev (fun k => span_Make.f k (p.1 : Int) (p.2 : Int)) (enc (some p)) := by
 have := sMake_ev p.1 p.2 h.u1 h.u2
 rw [h.norm] at this; exact this
theorem Join_step {L : List S43} {n i : Int} {e : Bool} {a b : Int} {s t : Sp} {r : Bool × Int × Int} (hs : WF s) (h0 : i < n) (h1 : 0 ≤ i) (h2 : i < (L.length : Int)) (hi : i < 1000) (ge : (rd_T43 L i).f0 = e) (ga : (rd_T43 L i).f1 = a) (gb : (rd_T43 L i).f2 = b) (h : Is e a b t)
  (K : Ev (fun k => span_Join.l0 k L n (i + 1) (enc (join s t)).1 (enc (join s t)).2.1 (enc (join s t)).2.2) r) :
  Ev (fun k => span_Join.l0 k L n i (enc s).1 (enc s).2.1 (enc s).2.2) r := by
 have w := h.wf
 have wi : wrap64 (i + 1) = i + 1 := w64 (by omega) (by omega)
 refine Ev.next ?_
 simp only [span_Join.l0]
 refine Ev.ift h0 (Ev.ift h1 (Ev.ift h2 ?_))
 rw [ge, ga, gb, wi]
 refine Ev.b _ (sn_ev h) ?_
 cases t with
 | none =>
  refine Ev.ift e_none ?_
  rw [join_none] at K
  exact K
 | some q =>
  refine Ev.iff (e_some q) ?_
  cases s with
  | none => exact Ev.ift e_none K
  | some p =>
   refine Ev.iff (e_some p) ?_
   have hp := W2.of hs
   have hq := W2.of w
   refine Ev.b _ (Min_ev hp.f1 hq.f1) (Ev.b _ (Max_ev hp.f2 hq.f2) ?_)
   have M := sMake_W2 (hp.join hq)
   have ej : join (some p) (some q) = some (lw p.1 q.1, hr p.2 q.2) := rfl
   rw [ej] at K
   dsimp only at M
   exact Ev.b _ M K
theorem Join_end {L : List S43} {n i : Int} {s : Sp} (h : ¬ i < n) : Ev (fun k => span_Join.l0 k L n i (enc s).1 (enc s).2.1 (enc s).2.2) (enc s) := by
 refine Ev.next ?_
 simp only [span_Join.l0]
 exact Ev.iff h (Ev.now _)
theorem Join2_ev {e : Bool} {a b : Int} {s : Sp} {e' : Bool} {a' b' : Int} {t : Sp} (h : Is e a b s) (k : Is e' a' b' t) : Ev (fun k => span_Join.f k [⟨e, a, b⟩, ⟨e', a', b'⟩]) (enc (join s t)) := by
 unfold span_Join.f
 refine Ev.b (enc none) (Ev.now _) ?_
 refine Join_step (s := none) trivial (by simp) (by decide) (by simp) (by decide) rfl rfl rfl h ?_
 refine Join_step (s := s) h.wf (by simp) (by decide) (by simp) (by decide) rfl rfl rfl k ?_
 exact Join_end (by simp)
theorem Meet_ev {e : Bool} {a b : Int} {s : Sp} {e' : Bool} {a' b' : Int} {t : Sp} (h : Is e a b s) (k : Is e' a' b' t) : Ev (fun k => span_Meet.f k e a b e' a' b') (enc (meet s t)) := by
 have w := h.wf
 have w' := k.wf
 unfold span_Meet.f
 refine Ev.b _ (sn_ev h) (Ev.b _ (sn_ev k) ?_)
 cases s with
 | none =>
  refine Ev.ift e_none (Ev.next ?_)
  simp only [span_Meet.j0]
  exact Ev.ift trivial (Ev.now _)
 | some p =>
  refine Ev.iff (e_some p) (Ev.next ?_)
  simp only [span_Meet.j0]
  cases t with
  | none => exact Ev.ift e_none (Ev.now _)
  | some q =>
   have w := W2.of w
   have w' := W2.of w'
   refine Ev.iff (e_some q) ?_
   refine Ev.b _ (Max_ev w.f1 w'.f1) (Ev.b _ (Min_ev w.f2 w'.f2) ?_)
   exact Ev.b _ (sMake_ev _ _ (hr_p (P := U) w.u1 w'.u1) (lw_p (P := U) w.u2 w'.u2)) (Ev.now _)
theorem sNeg_ev {e : Bool} {a b : Int} {s : Sp} (h : Is e a b s) : Ev (fun k => span_Neg.f k e a b) (enc (neg s)) := by
 have w := h.wf
 unfold span_Neg.f
 refine Ev.b _ (sn_ev h) ?_
 cases s with
 | none => exact Ev.ift e_none (Ev.now _)
 | some p =>
  have w := W2.of w
  refine Ev.iff (e_some p) ?_
  exact Ev.b _ (Neg_ev p.2 w.u2) (Ev.b _ (Neg_ev p.1 w.u1) (Ev.b _ (sMake_ev _ _ (ng_U _ w.u2) (ng_U _ w.u1)) (Ev.now _)))
theorem sAbs_ev {e : Bool} {a b : Int} {s : Sp} (h : Is e a b s) : Ev (fun k => span_Abs.f k e a b) (enc (absS s)) := by
 have w := h.wf
 unfold span_Abs.f
 refine Ev.b _ (sn_ev h) ?_
 cases s with
 | none =>
  refine Ev.ift e_none (Ev.next ?_)
  simp only [span_Abs.j0]
  exact Ev.ift e_none (Ev.now _)
 | some p =>
  have v := W2.of w
  refine Ev.iff (e_some p) ?_
  refine Ev.b _ (atMost_ev 0 p.1 (by decide) v.u1) (Ev.next ?_)
  simp only [span_Abs.j0]
  have l0 := le_iff Fl0.n v.n1
  have l1 := le_iff v.n2 Fl0.n
  rw [ord0] at l0 l1
  unfold absS
  dsimp only
  by_cases c1 : 0 ≤ ord p.1
  ·rw [if_pos c1]
   exact Ev.ift (l0.2 c1) (Ev.now _)
  ·rw [if_neg c1]
   refine Ev.iff (fun x => c1 (l0.1 x)) ?_
   refine Ev.b _ (atMost_ev p.2 0 v.u2 (by decide)) ?_
   by_cases c2 : ord p.2 ≤ 0
   ·rw [if_pos c2]
    exact Ev.ift (l1.2 c2) (Ev.b _ (sNeg_ev (Is.enc w)) (Ev.now _))
   ·rw [if_neg c2]
    refine Ev.iff (fun x => c2 (l1.1 x)) ?_
    refine Ev.b _ (Neg_ev p.1 v.u1) (Ev.b _ (Max_ev v.f1.ng v.f2) ?_)
    exact Ev.b _ (sMake_ev 0 _ (by decide) (hr_p (P := U) v.f1.ng.u v.u2)) (Ev.now _)
theorem sMost_ev {e : Bool} {a b : Int} {s : Sp} (h : Is e a b s) : Ev (fun k => span_Most.f k e a b) ((mostS s : Nat) : Int) := by
 unfold span_Most.f
 refine Ev.b _ (sAbs_ev h) (Ev.const ?_)
 unfold mostS
 cases absS s <;> rfl
theorem sIn_ev {e : Bool} {a b : Int} {s : Sp} {e' : Bool} {a' b' : Int} {t : Sp} (h : Is e a b s) (k : Is e' a' b' t) : Ev (fun k => span_Inside.f k e a b e' a' b') (ins s t) := by
 obtain ⟨l1, h1, a1, a2, rfl, rfl, rfl⟩ := h
 obtain ⟨l2, h2, b1, b2, rfl, rfl, rfl⟩ := k
 exact sInside_ev e l1 h1 e' l2 h2 a1 a2 b1 b2
def hasS (s : Sp) (f : Nat) : Bool := match s with | none => false | some p => decide (cls f ≠ 3) && (le p.1 f && le f p.2)
theorem norm_nan {f : Nat} (h : cls f = 4) : norm false f f = none := by
 unfold norm; rw [if_pos]; right; left; unfold le; rw [decide_eq_false_iff_not]; exact fun x => x.1 h
theorem sHas_ev {e : Bool} {a b : Int} {s : Sp} (h : Is e a b s) (f : Nat) (hf : U f) : Ev (fun k => span_Has.f k e a b (f : Int)) (hasS s f) := by
 have w := h.wf
 have lf := cls_le f
 unfold span_Has.f
 refine Ev.b _ (Class_ev f hf) ?_
 by_cases c3 : cls f = 3
 ·refine Ev.ift (by omega) (Ev.const ?_)
  unfold hasS
  cases s
  ·rfl
  ·rw [decide_eq_false (fun x => x c3)]; rfl
 ·refine Ev.iff (by omega) ?_
  refine Ev.b _ (sPoint_ev f hf) ?_
  by_cases c4 : cls f = 4
  ·rw [norm_nan c4]
   refine Ev.ift e_none (Ev.const ?_)
   unfold hasS
   cases s with
   | none => rfl
   | some p =>
    have : le p.1 f = false := by unfold le; rw [decide_eq_false_iff_not]; exact fun x => x.2.1 c4
    dsimp only
    rw [this, Bool.false_and, Bool.and_false]
  ·have F : Fl f := ⟨hf, c4⟩
   have fb := (fin_iff F).1 (by omega)
   obtain ⟨en, wn⟩ := norm_some F F (Int.le_refl _) fb.2 fb.1
   refine Ev.iff (by rw [en]; exact e_some _) ?_
   refine Ev.b _ (sPoint_ev f hf) ?_
   rw [en]
   refine Ev.b _ (sIn_ev (Is.enc wn.wf) h) (Ev.const ?_)
   unfold hasS ins
   cases s with
   | none => rfl
   | some p =>
    dsimp only
    rw [decide_eq_true c3, Bool.true_and]
    have e1 : le p.1 (nz f) = le p.1 f := by unfold le; rw [nz_cls, nz_ord]
    have e2 : le (nz f) p.2 = le f p.2 := by unfold le; rw [nz_cls, nz_ord]
    rw [e1, e2]
def nx (a : Nat) : Nat := if cls a = 4 ∨ a = INF then a else if key a = 0 then 1 else if sgn a then a - 1 else a + 1
def pv (a : Nat) : Nat := ng (nx (ng a))
theorem nx_U {a : Nat} (h : U a) : U (nx a) := by
 have p := a_parts a h
 have k := key_lt a
 unfold nx
 split
 ·exact h
 ·rename_i c
  split
  ·decide
  ·split
   ·unfold U at *; omega
   ·rename_i s
    have s : sgn a = false := by cases e : sgn a; rfl; exact absurd e s
    rw [s] at p
    have : sg false = 0 := rfl
    unfold U at *; omega
theorem pNext_ev (a : Nat) (h : U a) : Ev (fun k => pattern_Next.f k (a : Int)) ((nx a : Nat) : Int) := by
 unfold pattern_Next.f
 refine Ev.b _ (nan_ev a h) ?_
 by_cases c4 : cls a = 4
 ·refine Ev.ift (decide_eq_true c4) (Ev.next ?_)
  simp only [pattern_Next.j0]
  refine Ev.ift (decide_eq_true c4) (Ev.const ?_)
  unfold nx; rw [if_pos (.inl c4)]
 ·refine Ev.iff (by rw [decide_eq_true_iff]; exact c4) ?_
  refine Ev.b _ (Inf_ev false) (Ev.next ?_)
  simp only [pattern_Next.j0]
  have ei : ((sg false + 9218868437227405312 : Nat) : Int) = (INF : Int) := rfl
  rw [ei]
  by_cases ci : a = INF
  ·refine Ev.ift (by rw [beq_iff_eq, ci]) (Ev.const ?_)
   unfold nx; rw [if_pos (.inr ci)]
  ·refine Ev.iff (by rw [beq_iff_eq]; omega) ?_
   refine Ev.b _ (Ev.const (pkey_ok a h)) ?_
   have ek : ord a = 0 ↔ key a = 0 := by rw [ord_zero]; exact (key_cls a).2.2.2
   have ne : ¬ (cls a = 4 ∨ a = INF) := by rintro (x | x); exact c4 x; exact ci x
   unfold nx
   rw [if_neg ne]
   by_cases ck : key a = 0
   ·rw [if_pos ck]; exact Ev.ift (ek.2 ck) (Ev.now _)
   ·rw [if_neg ck]
    refine Ev.iff (fun x => ck (ek.1 x)) ?_
    have es : ((a : Int) / 9223372036854775808 = 1) ↔ sgn a = true := by rw [← sgn_cast, beq_iff_eq]
    have p := a_parts a h
    have k := key_lt a
    by_cases s : sgn a = true
    ·rw [if_pos s]
     refine Ev.ift (es.2 s) (Ev.const ?_)
     have : 1 ≤ a := by omega
     rw [wu64 (by omega) (by unfold U at h; omega)]
     congr 1; omega
    ·rw [if_neg s]
     refine Ev.iff (fun x => s (es.1 x)) (Ev.const ?_)
     have s : sgn a = false := by cases e : sgn a; rfl; exact absurd e s
     rw [s] at p
     have : sg false = 0 := rfl
     rw [wu64 (by omega) (by omega)]; rfl
theorem pPrev_ev (a : Nat) (h : U a) : Ev (fun k => pattern_Prev.f k (a : Int)) ((pv a : Nat) : Int) := by
 unfold pattern_Prev.f
 exact Ev.b _ (Neg_ev a h) (Ev.b _ (pNext_ev _ (ng_U a h)) (Ev.b _ (Neg_ev _ (nx_U (ng_U a h))) (Ev.now _)))
theorem outer_ev (lo hi : Nat) (h1 : U lo) (h2 : U hi) : Ev (fun k => span_outer.f k (lo : Int) (hi : Int)) (enc (outer lo hi)) := by
 unfold span_outer.f
 refine Ev.b _ sinf_ev ?_
 unfold outer
 by_cases c1 : lo = INF
 ·rw [if_pos c1]
  refine Ev.ift (by rw [c1]) ?_
  refine Ev.b _ (pPrev_ev lo h1) ?_
  have e : pv lo = 9218868437227405311 := by rw [c1]; decide +kernel
  rw [e]
  exact Ev.b _ (sMake_ev _ _ (by decide) h2) (Ev.now _)
 ·rw [if_neg c1]
  refine Ev.iff (by omega) ?_
  refine Ev.b _ sninf_ev ?_
  by_cases c2 : hi = NINF
  ·rw [if_pos c2]
   refine Ev.ift (by rw [c2]) ?_
   refine Ev.b _ (pNext_ev hi h2) ?_
   have e : nx hi = 18442240474082181119 := by rw [c2]; decide +kernel
   rw [e]
   exact Ev.b _ (sMake_ev _ _ h1 (by decide)) (Ev.now _)
  ·rw [if_neg c2]
   exact Ev.iff (by omega) (Ev.b _ (sMake_ev _ _ h1 h2) (Ev.now _))
theorem szero_ev (a : Nat) (h : U a) : Ev (fun k => span_zero.f k (a : Int)) (decide (cls a = 0)) := by
 unfold span_zero.f
 refine Ev.b _ (Class_ev a h) (Ev.const ?_)
 congr 1
 by_cases c : cls a = 0
 ·rw [decide_eq_true c, c]; rfl
 ·rw [decide_eq_false c, beq_eq_false_iff_ne]; omega
theorem Mul1_ev (a b m : Nat) (ha : U a) (hb : U b) : Ev (fun k => span_Mul_1.f k (a : Int) (b : Int) (m : Int)) ((tms a b m : Nat) : Int) := by
 unfold span_Mul_1.f tms
 refine Ev.b _ (szero_ev a ha) ?_
 by_cases c1 : cls a = 0
 ·rw [if_pos (.inl c1)]; exact Ev.ift (decide_eq_true c1) (Ev.now _)
 ·refine Ev.iff (by rw [decide_eq_true_iff]; exact c1) ?_
  refine Ev.b _ (szero_ev b hb) ?_
  by_cases c2 : cls b = 0
  ·rw [if_pos (.inr c2)]; exact Ev.ift (decide_eq_true c2) (Ev.now _)
  ·rw [if_neg (by rintro (x | x); exact c1 x; exact c2 x)]
   refine Ev.iff (by rw [decide_eq_true_iff]; exact c2) ?_
   exact Ev.b _ (Mul_ev a b m ha hb) (Ev.now _)
theorem wr1 : wrap64 (0 + 1) = 1 := w64 (by decide) (by decide)
theorem wr2 : wrap64 (1 + 1) = 2 := w64 (by decide) (by decide)
theorem rd0 (x y : Int) : rd [x, y] 0 = x := rfl
theorem rd1 (x y : Int) : rd [x, y] 1 = y := rfl
theorem Mul_l1 {x : Nat} {q : Nat × Nat} {L : List Int} {i : Int} {s : Sp} {r : Bool × Int × Int} (hx : Fl x) (hq : W2 q) (hs : WF s)
  (K : Ev (fun k => span_Mul_corners.l0 k L 2 (wrap64 (i + 1)) (enc (some q)).1 (enc (some q)).2.1 (enc (some q)).2.2 (enc (join (join s (outer (tms x q.1 2) (tms x q.1 1))) (outer (tms x q.2 2) (tms x q.2 1)))).1 (enc (join (join s (outer (tms x q.1 2) (tms x q.1 1))) (outer (tms x q.2 2) (tms x q.2 1)))).2.1 (enc (join (join s (outer (tms x q.1 2) (tms x q.1 1))) (outer (tms x q.2 2) (tms x q.2 1)))).2.2) r) :
  Ev (fun k => span_Mul_corners.l1 k (x : Int) L 2 i [(q.1 : Int), (q.2 : Int)] 2 0 (enc (some q)).1 (enc (some q)).2.1 (enc (some q)).2.2 (enc s).1 (enc s).2.1 (enc s).2.2) r := by
 have c1 := tms_co hx hq.f1
 have c2 := tms_co hx hq.f2
 have w1 := outer_WF c1
 have w2 := outer_WF c2
 refine Ev.next ?_
 simp only [span_Mul_corners.l1]
 refine Ev.ift (by decide) (Ev.ift (by decide) (Ev.ift (by simp) ?_))
 rw [rd0]
 refine Ev.b _ (Mul1_ev x q.1 2 hx.u hq.u1) (Ev.b _ (Mul1_ev x q.1 1 hx.u hq.u1) (Ev.b _ (outer_ev _ _ c1.f1.u c1.f2.u) ?_))
 refine Ev.b _ (Join2_ev (Is.enc hs) (Is.enc w1)) (Ev.next ?_)
 rw [wr1]
 simp only [span_Mul_corners.l1]
 refine Ev.ift (by decide) (Ev.ift (by decide) (Ev.ift (by simp) ?_))
 rw [rd1]
 refine Ev.b _ (Mul1_ev x q.2 2 hx.u hq.u2) (Ev.b _ (Mul1_ev x q.2 1 hx.u hq.u2) (Ev.b _ (outer_ev _ _ c2.f1.u c2.f2.u) ?_))
 refine Ev.b _ (Join2_ev (Is.enc (join_WF hs w1)) (Is.enc w2)) (Ev.next ?_)
 rw [wr2]
 simp only [span_Mul_corners.l1]
 exact Ev.iff (by decide) K
theorem Mulc_ev {p q : Nat × Nat} (hp : W2 p) (hq : W2 q) (z : Int) : Ev (fun k => span_Mul_corners.f k (enc (some p)).1 (enc (some p)).2.1 (enc (some p)).2.2 (enc (some q)).1 (enc (some q)).2.1 (enc (some q)).2.2 z) (enc (mulS (some p) (some q))) := by
 unfold span_Mul_corners.f
 refine Ev.b (enc none) (Ev.now _) (Ev.b _ (Ev.now _) (Ev.next ?_))
 have n2 : ((List.length [(enc (some p)).2.1, (enc (some p)).2.2] : Nat) : Int) = 2 := rfl
 rw [n2]
 simp only [span_Mul_corners.l0]
 refine Ev.ift (by decide) (Ev.ift (by decide) (Ev.ift (by simp) (Ev.b _ (Ev.now _) ?_)))
 refine Mul_l1 (x := p.1) (s := none) hp.f1 hq trivial ?_
 have w1 := outer_WF (tms_co hp.f1 hq.f1)
 have w2 := outer_WF (tms_co hp.f1 hq.f2)
 have w12 := join_WF (join_WF (s := none) trivial w1) w2
 rw [wr1]
 refine Ev.next ?_
 simp only [span_Mul_corners.l0]
 refine Ev.ift (by decide) (Ev.ift (by decide) (Ev.ift (by simp) (Ev.b _ (Ev.now _) ?_)))
 refine Mul_l1 (x := p.2) hp.f2 hq w12 ?_
 rw [wr2]
 refine Ev.next ?_
 simp only [span_Mul_corners.l0]
 exact Ev.iff (by decide) (Ev.now _)
theorem sMul_ev {e : Bool} {a b : Int} {s : Sp} {e' : Bool} {a' b' : Int} {t : Sp} (h : Is e a b s) (k : Is e' a' b' t) : Ev (fun k => span_Mul.f k e a b e' a' b') (enc (mulS s t)) := by
 have w := h.wf
 have w' := k.wf
 unfold span_Mul.f
 refine Ev.b _ (sn_ev h) (Ev.b _ (sn_ev k) ?_)
 cases s with
 | none =>
  refine Ev.ift e_none (Ev.next ?_)
  simp only [span_Mul.j0]
  exact Ev.ift trivial (Ev.now _)
 | some p =>
  refine Ev.iff (e_some p) (Ev.next ?_)
  simp only [span_Mul.j0]
  cases t with
  | none => exact Ev.ift e_none (Ev.now _)
  | some q =>
   refine Ev.iff (e_some q) ?_
   exact Ev.b _ (Mulc_ev (W2.of w) (W2.of w') 0) (Ev.now _)
end Go.Proofs.Ytmadjhmecfbcmaa.M
end
section
namespace Go.Proofs.Ytmadjhmecfbcmaa.M
open Go.RowKit Go.Proofs.YtmadjhmecfbcmaaW.PrintWords Go.Proofs.YtmadjhmecfbcmaaW.PrintLast Go.Proofs.YtmadjhmecfbcmaaW.PrintMore Go.Proofs.Ytmadjhmecfbcmaa.F
theorem abv1_ev (a b m : Nat) (ha : Fl a) (hb : Fl b) (s : 0 ≤ ord b) : Ev (fun k => span_above_1.f k (a : Int) (b : Int) (m : Int)) ((ov a b m : Nat) : Int) := by
 have la := cls_le a
 have lb := cls_le b
 have na := ha.n
 have nb := hb.n
 have es : ((a : Int) / 9223372036854775808 == 1) = sgn a := sgn_cast a
 have inf : ((sg (sgn a) + 9218868437227405312 : Nat) : Int) = (((if sgn a then NINF else INF) : Nat) : Int) := by cases sgn a <;> rfl
 unfold span_above_1.f
 refine Ev.b _ (Class_ev b hb.u) (Ev.b _ (szero_ev a ha.u) ?_)
 unfold ov
 by_cases c0 : cls a = 0
 ·rw [if_pos c0]
  refine Ev.ift (decide_eq_true c0) (Ev.next ?_)
  simp only [span_above_1.j0]
  exact Ev.ift (decide_eq_true c0) (Ev.now _)
 ·rw [if_neg c0]
  refine Ev.iff (by rw [decide_eq_true_iff]; exact c0) ?_
  by_cases b3 : cls b = 3
  ·refine Ev.ift (by omega) (Ev.b _ (Class_ev a ha.u) (Ev.next ?_))
   simp only [span_above_1.j0]
   by_cases a3 : cls a = 3
   ·rw [if_pos (.inl a3)]
    refine Ev.iff (by rw [a3]; decide) (Ev.ift (by rw [b3]; rfl) (Ev.next ?_))
    simp only [span_above_1.j1]
    refine Ev.ift (by rw [b3]; rfl) ?_
    rw [es, ← inf]
    exact Ev.b _ (Inf_ev (sgn a)) (Ev.now _)
   ·rw [if_neg (show ¬ (cls a = 3 ∨ cls b = 0) by omega), if_pos b3]
    exact Ev.ift (by rw [bne_iff_ne]; omega) (Ev.now _)
  ·refine Ev.iff (by omega) (Ev.next ?_)
   simp only [span_above_1.j0]
   refine Ev.iff (by decide) (Ev.iff (by rw [beq_iff_eq]; omega) ?_)
   refine Ev.b _ (szero_ev b hb.u) (Ev.next ?_)
   simp only [span_above_1.j1]
   by_cases b0 : cls b = 0
   ·rw [if_pos (.inr b0)]
    refine Ev.ift (decide_eq_true b0) ?_
    rw [es, ← inf]
    exact Ev.b _ (Inf_ev (sgn a)) (Ev.now _)
   ·refine Ev.iff (by rw [decide_eq_true_iff]; exact b0) (Ev.b _ (Div_ev a b m ha.u hb.u) (Ev.const ?_))
    congr 1
    show ((sDiv a b m).1 : Int) = _
    by_cases a3 : cls a = 3
    ·rw [if_pos (.inl a3)]
     have hs : sgn b = false := sgn_pos (by have := ord_zero b; omega)
     unfold sDiv
     rw [if_neg (show ¬ (cls a = 4 ∨ cls b = 4) by omega), if_neg (show ¬ (cls a = 3 ∧ cls b = 3 ∨ cls a = 0 ∧ cls b = 0) by omega), if_pos a3, hs]
     cases sgn a <;> rfl
    ·rw [if_neg (show ¬ (cls a = 3 ∨ cls b = 0) by omega), if_neg b3]
theorem abv_l1 {x : Nat} {q : Nat × Nat} {L : List Int} {i : Int} {s : Sp} {r : Bool × Int × Int} (hx : Fl x) (hq : W2 q) (hs : WF s) (s1 : 0 ≤ ord q.1) (s2 : 0 ≤ ord q.2)
  (K : Ev (fun k => span_above_corners.l0 k L 2 (wrap64 (i + 1)) (enc (some q)).1 (enc (some q)).2.1 (enc (some q)).2.2 (enc (join (join s (outer (ov x q.1 2) (ov x q.1 1))) (outer (ov x q.2 2) (ov x q.2 1)))).1 (enc (join (join s (outer (ov x q.1 2) (ov x q.1 1))) (outer (ov x q.2 2) (ov x q.2 1)))).2.1 (enc (join (join s (outer (ov x q.1 2) (ov x q.1 1))) (outer (ov x q.2 2) (ov x q.2 1)))).2.2) r) :
  Ev (fun k => span_above_corners.l1 k (x : Int) L 2 i [(q.1 : Int), (q.2 : Int)] 2 0 (enc (some q)).1 (enc (some q)).2.1 (enc (some q)).2.2 (enc s).1 (enc s).2.1 (enc s).2.2) r := by
 have c1 := ov_co hx hq.f1 s1
 have c2 := ov_co hx hq.f2 s2
 have w1 := outer_WF c1
 have w2 := outer_WF c2
 refine Ev.next ?_
 simp only [span_above_corners.l1]
 refine Ev.ift (by decide) (Ev.ift (by decide) (Ev.ift (by simp) ?_))
 rw [rd0]
 refine Ev.b _ (abv1_ev x q.1 2 hx hq.f1 s1) (Ev.b _ (abv1_ev x q.1 1 hx hq.f1 s1) (Ev.b _ (outer_ev _ _ c1.f1.u c1.f2.u) ?_))
 refine Ev.b _ (Join2_ev (Is.enc hs) (Is.enc w1)) (Ev.next ?_)
 rw [wr1]
 simp only [span_above_corners.l1]
 refine Ev.ift (by decide) (Ev.ift (by decide) (Ev.ift (by simp) ?_))
 rw [rd1]
 refine Ev.b _ (abv1_ev x q.2 2 hx hq.f2 s2) (Ev.b _ (abv1_ev x q.2 1 hx hq.f2 s2) (Ev.b _ (outer_ev _ _ c2.f1.u c2.f2.u) ?_))
 refine Ev.b _ (Join2_ev (Is.enc (join_WF hs w1)) (Is.enc w2)) (Ev.next ?_)
 rw [wr2]
 simp only [span_above_corners.l1]
 exact Ev.iff (by decide) K
theorem abvc_ev {p q : Nat × Nat} (hp : W2 p) (hq : W2 q) (s1 : 0 ≤ ord q.1) (s2 : 0 ≤ ord q.2) (z : Int) : Ev (fun k => span_above_corners.f k (enc (some p)).1 (enc (some p)).2.1 (enc (some p)).2.2 (enc (some q)).1 (enc (some q)).2.1 (enc (some q)).2.2 z) (enc (abv p q.1 q.2)) := by
 unfold span_above_corners.f
 refine Ev.b (enc none) (Ev.now _) (Ev.b _ (Ev.now _) (Ev.next ?_))
 have n2 : ((List.length [(enc (some p)).2.1, (enc (some p)).2.2] : Nat) : Int) = 2 := rfl
 rw [n2]
 simp only [span_above_corners.l0]
 refine Ev.ift (by decide) (Ev.ift (by decide) (Ev.ift (by simp) (Ev.b _ (Ev.now _) ?_)))
 refine abv_l1 (x := p.1) (s := none) hp.f1 hq trivial s1 s2 ?_
 have w1 := outer_WF (ov_co hp.f1 hq.f1 s1)
 have w2 := outer_WF (ov_co hp.f1 hq.f2 s2)
 have w12 := join_WF (join_WF (s := none) trivial w1) w2
 rw [wr1]
 refine Ev.next ?_
 simp only [span_above_corners.l0]
 refine Ev.ift (by decide) (Ev.ift (by decide) (Ev.ift (by simp) (Ev.b _ (Ev.now _) ?_)))
 refine abv_l1 (x := p.2) hp.f2 hq w12 s1 s2 ?_
 rw [wr2]
 refine Ev.next ?_
 simp only [span_above_corners.l0]
 exact Ev.iff (by decide) (Ev.now _)
theorem sabove_ev {p q : Nat × Nat} (hp : W2 p) (hq : W2 q) (s1 : 0 ≤ ord q.1) : Ev (fun k => span_above.f k (enc (some p)).1 (enc (some p)).2.1 (enc (some p)).2.2 (enc (some q)).1 (enc (some q)).2.1 (enc (some q)).2.2) (enc (abv p q.1 q.2)) := by
 have o := hq.o
 unfold span_above.f
 exact Ev.b _ (abvc_ev hp hq s1 (by omega) 0) (Ev.now _)
theorem Z0INF : norm false 0 INF = some (0, INF) ∧ W2 (0, INF) := by
 have := norm_some Fl0 FlINF (by rw [ord0, oINF]; decide) (by rw [ord0]; decide) (by rw [oINF]; decide)
 have e0 : nz 0 = 0 := by decide
 have e1 : nz INF = INF := by decide
 rw [e0, e1] at this; exact this
theorem ZN0 : norm false NINF 0 = some (NINF, 0) ∧ W2 (NINF, 0) := by
 have := norm_some FlNINF Fl0 (by rw [ord0, oNINF]; decide) (by rw [oNINF]; decide) (by rw [ord0]; decide)
 have e0 : nz 0 = 0 := by decide
 have e1 : nz NINF = NINF := by decide
 rw [e0, e1] at this; exact this
theorem half_hi {q : Nat × Nat} (h : W2 q) (c : 0 < ord q.2) : meet (some q) (some (0, INF)) = some (hr q.1 0, q.2) ∧ W2 (hr q.1 0, q.2) := by
 have a := hr_spec q.1 0
 have b := lw_spec q.2 INF
 have bd := h.f2.bd
 have l := h.l
 rw [ord0] at a
 rw [oINF] at b
 have F : Fl (hr q.1 0) := hr_p h.f1 Fl0
 have eq : lw q.2 INF = q.2 := by unfold lw; rw [oINF, if_neg (by omega)]
 have z : nz (hr q.1 0) = hr q.1 0 := hr_p (P := fun x => nz x = x) h.z1 (by decide)
 obtain ⟨e, w⟩ := norm_some F h.f2 (by have := h.o; omega) (by omega) (by omega)
 rw [z, h.z2] at e w
 refine ⟨?_, w⟩
 show norm false (hr q.1 0) (lw q.2 INF) = _
 rw [eq]; exact e
theorem half_lo {q : Nat × Nat} (h : W2 q) (c : ord q.1 < 0) : meet (some q) (some (NINF, 0)) = some (q.1, lw q.2 0) ∧ W2 (q.1, lw q.2 0) := by
 have a := lw_spec q.2 0
 have b := hr_spec q.1 NINF
 have bd := h.f1.bd
 have g := h.g
 rw [ord0] at a
 rw [oNINF] at b
 have F : Fl (lw q.2 0) := lw_p h.f2 Fl0
 have eq : hr q.1 NINF = q.1 := by unfold hr; rw [oNINF, if_neg (by omega)]
 have z : nz (lw q.2 0) = lw q.2 0 := lw_p (P := fun x => nz x = x) h.z2 (by decide)
 obtain ⟨e, w⟩ := norm_some h.f1 F (by have := h.o; omega) (by omega) (by omega)
 rw [z, h.z1] at e w
 refine ⟨?_, w⟩
 show norm false (hr q.1 NINF) (lw q.2 0) = _
 rw [eq]; exact e
theorem sDivide_ev {e : Bool} {a b : Int} {s : Sp} {e' : Bool} {a' b' : Int} {t : Sp} (h : Is e a b s) (k : Is e' a' b' t) : Ev (fun k => span_Div.f k e a b e' a' b') (enc (divS s t)) := by
 have w := h.wf
 have w' := k.wf
 unfold span_Div.f
 refine Ev.b _ (sn_ev h) (Ev.b _ (sn_ev k) ?_)
 cases s with
 | none =>
  refine Ev.ift e_none (Ev.next ?_)
  simp only [span_Div.j0]
  exact Ev.ift trivial (Ev.now _)
 | some p =>
  refine Ev.iff (e_some p) (Ev.next ?_)
  simp only [span_Div.j0]
  cases t with
  | none => exact Ev.ift e_none (Ev.now _)
  | some q =>
   have P := W2.of w
   have Q := W2.of w'
   obtain ⟨D1, D2⟩ := divS_parts P Q
   refine Ev.iff (e_some q) ?_
   refine Ev.b (enc none) (Ev.now _) ?_
   have l1 := le_iff Q.n2 Fl0.n
   have l2 := le_iff Fl0.n Q.n1
   rw [ord0] at l1 l2
   have J : ∀ u : Sp, WF u → Ev (fun k => span_Div.j1 k (enc (some p)).1 (enc (some p)).2.1 (enc (some p)).2.2 (enc (some q)).1 (enc (some q)).2.1 (enc (some q)).2.2 (enc u).1 (enc u).2.1 (enc u).2.2) (enc (join u (if ord q.1 < 0 then neg (abv p (nz (ng (lw q.2 0))) (nz (ng q.1))) else none))) := by
    intro u hu
    refine Ev.next ?_
    simp only [span_Div.j1]
    refine Ev.b _ (atMost_ev 0 q.1 (by decide) Q.u1) ?_
    by_cases c : ord q.1 < 0
    ·rw [if_pos c] at D2 ⊢
     refine Ev.iff (fun x => by have := l2.1 x; omega) ?_
     refine Ev.b _ sninf_ev (Ev.b _ (sMake_ev NINF 0 (by decide) (by decide)) ?_)
     rw [ZN0.1]
     refine Ev.b _ (Meet_ev (Is.enc w') (Is.enc ZN0.2.wf)) ?_
     obtain ⟨e1, w1⟩ := half_lo Q c
     rw [e1]
     refine Ev.b _ (sNeg_ev (Is.enc w1.wf)) ?_
     obtain ⟨e2, w2⟩ := w1.neg
     rw [e2]
     have s1 : 0 ≤ ord (nz (ng (lw q.2 0))) := by
      have := lw_spec q.2 0
      rw [ord0] at this
      rw [nz_ord, w1.f2.ng_ord]; dsimp only; omega
     refine Ev.b _ (sabove_ev P w2 s1) ?_
     have w3 : WF (abv p (nz (ng (lw q.2 0))) (nz (ng q.1))) := abv_WF P w2.f1 w2.f2 s1 (by rw [nz_ord, w1.f1.ng_ord]; dsimp only; omega)
     refine Ev.b _ (sNeg_ev (Is.enc w3)) ?_
     exact Ev.b _ (Join2_ev (Is.enc hu) (Is.enc D2)) (Ev.now _)
    ·rw [if_neg c, join_none]
     exact Ev.ift (l2.2 (by omega)) (Ev.now _)
   refine Ev.b _ (atMost_ev q.2 0 Q.u2 (by decide)) ?_
   unfold divS
   dsimp only
   by_cases c : 0 < ord q.2
   ·rw [if_pos c] at D1 ⊢
    refine Ev.iff (fun x => by have := l1.1 x; omega) ?_
    refine Ev.b _ sinf_ev (Ev.b _ (sMake_ev 0 INF (by decide) (by decide)) ?_)
    rw [Z0INF.1]
    refine Ev.b _ (Meet_ev (Is.enc w') (Is.enc Z0INF.2.wf)) ?_
    obtain ⟨e1, w1⟩ := half_hi Q c
    rw [e1]
    refine Ev.b _ (sabove_ev P w1 (by have := hr_spec q.1 0; rw [ord0] at this; dsimp only; omega)) ?_
    exact J _ D1
   ·rw [if_neg c]
    exact Ev.ift (l1.2 (by omega)) (J none trivial)
def mv (f : Nat) (up strict : Bool) : Nat := if strict = true ∧ cls f ≠ 3 then (if up then nx f else pv f) else f
def sideS (s : Sp) (f : Nat) (up strict : Bool) : Sp := if up then meet s (norm false (mv f up strict) INF) else meet s (norm false NINF (mv f up strict))
theorem pv_U {a : Nat} (h : U a) : U (pv a) := ng_U _ (nx_U (ng_U a h))
theorem mv_U {f : Nat} (h : U f) (up strict : Bool) : U (mv f up strict) := by
 unfold mv
 split
 ·split
  ·exact nx_U h
  ·exact pv_U h
 ·exact h
theorem sideS_WF {s : Sp} (h : WF s) {f : Nat} (hf : U f) (up strict : Bool) : WF (sideS s f up strict) := by
 unfold sideS
 cases up
 ·exact meet_WF h (norm_WF _ _ _ (by decide) (mv_U hf _ _))
 ·exact meet_WF h (norm_WF _ _ _ (mv_U hf _ _) (by decide))
theorem side_ev {e : Bool} {a b : Int} {s : Sp} (h : Is e a b s) (f : Nat) (hf : U f) (up strict : Bool) : Ev (fun k => span_side.f k e a b (f : Int) up strict) (enc (sideS s f up strict)) := by
 have hm := mv_U hf up strict
 have J : Ev (fun k => span_side.j1 k ((mv f up strict : Nat) : Int) up e a b) (enc (sideS s f up strict)) := by
  refine Ev.next ?_
  simp only [span_side.j1]
  unfold sideS
  cases up
  ·rw [if_neg (by decide)]
   refine Ev.iff (by decide) ?_
   refine Ev.b _ sninf_ev (Ev.b _ (sMake_ev _ _ (by decide) hm) ?_)
   exact Ev.b _ (Meet_ev h (Is.enc (norm_WF _ _ _ (by decide) hm))) (Ev.now _)
  ·rw [if_pos rfl]
   refine Ev.ift rfl ?_
   refine Ev.b _ sinf_ev (Ev.b _ (sMake_ev _ _ hm (by decide)) ?_)
   exact Ev.b _ (Meet_ev h (Is.enc (norm_WF _ _ _ hm (by decide)))) (Ev.now _)
 have cb : (((cls f : Nat) : Int) != 3) = decide (cls f ≠ 3) := by
  by_cases c : cls f = 3
  ·rw [c]; rfl
  ·rw [decide_eq_true c, bne_iff_ne]; omega
 unfold span_side.f
 refine Ev.b _ (Class_ev f hf) ?_
 rw [cb]
 unfold mv at J
 cases up <;> cases strict
 ·refine Ev.iff (by decide) (Ev.next ?_)
  simp only [span_side.j0]
  rw [if_neg (fun x => Bool.noConfusion x.1)] at J
  exact Ev.iff (by decide) (Ev.iff (by decide) J)
 ·refine Ev.iff (by decide) (Ev.next ?_)
  simp only [span_side.j0]
  refine Ev.iff (by decide) (Ev.ift trivial ?_)
  by_cases c : cls f = 3
  ·rw [if_neg (fun x => x.2 c)] at J
   exact Ev.iff (by rw [decide_eq_true_iff]; exact fun x => x c) J
  ·rw [if_pos ⟨rfl, c⟩, if_neg (by decide)] at J
   exact Ev.ift (decide_eq_true c) (Ev.b _ (pPrev_ev f hf) J)
 ·refine Ev.ift rfl (Ev.iff (by decide) (Ev.next ?_))
  simp only [span_side.j0]
  rw [if_neg (fun x => Bool.noConfusion x.1)] at J
  exact Ev.iff (by decide) (Ev.iff (by decide) J)
 ·refine Ev.ift rfl (Ev.ift rfl (Ev.next ?_))
  simp only [span_side.j0]
  by_cases c : cls f = 3
  ·rw [if_neg (fun x => x.2 c)] at J
   have n : ¬ decide (cls f ≠ 3) = true := by rw [decide_eq_true_iff]; exact fun x => x c
   exact Ev.iff n (Ev.ift trivial (Ev.iff n J))
  ·rw [if_pos ⟨rfl, c⟩, if_pos rfl] at J
   exact Ev.ift (decide_eq_true c) (Ev.b _ (pNext_ev f hf) J)
def wo (p q : Nat × Nat) : Sp :=
 if q.1 = q.2 then (if p.1 = q.1 then (match sideS (some p) q.1 true true with | none => none | some r => if r.2 = q.1 then sideS (some r) q.1 false true else some r)
  else if p.2 = q.1 then sideS (some p) q.1 false true else some p) else some p
theorem without_ev {p q : Nat × Nat} (hp : W2 p) (hq : W2 q) : Ev (fun k => span_without.f k (enc (some p)).1 (enc (some p)).2.1 (enc (some p)).2.2 (enc (some q)).1 (enc (some q)).2.1 (enc (some q)).2.2) (enc (wo p q)) := by
 have q1 : (enc (some q)).2.1 = (q.1 : Int) := rfl
 have q2 : (enc (some q)).2.2 = (q.2 : Int) := rfl
 have p1 : (enc (some p)).2.1 = (p.1 : Int) := rfl
 have p2 : (enc (some p)).2.2 = (p.2 : Int) := rfl
 unfold span_without.f wo
 by_cases c1 : q.1 = q.2
 ·rw [if_pos c1]
  refine Ev.ift (by rw [q1, q2, c1]) ?_
  by_cases c2 : p.1 = q.1
  ·rw [if_pos c2]
   refine Ev.ift (by rw [q1, p1, c2]) ?_
   have w := sideS_WF hp.wf (f := q.1) hq.u1 true true
   refine Ev.b _ (side_ev (Is.enc hp.wf) q.1 hq.u1 true true) ?_
   generalize sideS (some p) q.1 true true = r at w ⊢
   cases r with
   | none =>
    dsimp only
    by_cases c3 : (enc none).2.2 = (enc (some q)).2.1
    ·exact Ev.ift c3 (Ev.ift e_none (Ev.now _))
    ·exact Ev.iff c3 (Ev.now _)
   | some r =>
    dsimp only
    by_cases c3 : r.2 = q.1
    ·rw [if_pos c3]
     refine Ev.ift (by show (r.2 : Int) = (q.1 : Int); rw [c3]) (Ev.iff (e_some r) ?_)
     exact Ev.b _ (side_ev (Is.enc w) q.1 hq.u1 false true) (Ev.now _)
    ·rw [if_neg c3]
     exact Ev.iff (by show ¬ (r.2 : Int) = (q.1 : Int); omega) (Ev.now _)
  ·rw [if_neg c2]
   refine Ev.iff (by rw [q1, p1]; omega) ?_
   by_cases c3 : p.2 = q.1
   ·rw [if_pos c3]
    refine Ev.ift (by rw [q1, p2, c3]) (Ev.iff (e_some p) ?_)
    exact Ev.b _ (side_ev (Is.enc hp.wf) q.1 hq.u1 false true) (Ev.now _)
   ·rw [if_neg c3]
    exact Ev.iff (by rw [q1, p2]; omega) (Ev.now _)
 ·rw [if_neg c1]
  exact Ev.iff (by rw [q1, q2]; omega) (Ev.now _)
theorem wo_WF {p q : Nat × Nat} (hp : W2 p) (hq : W2 q) : WF (wo p q) := by
 unfold wo
 have v := sideS_WF hp.wf (f := q.1) hq.u1 true true
 split
 ·split
  ·generalize sideS (some p) q.1 true true = z at v ⊢
   cases z with
   | none => trivial
   | some r =>
    dsimp only
    split
    ·exact sideS_WF v hq.u1 _ _
    ·exact v
  ·split
   ·exact sideS_WF hp.wf hq.u1 _ _
   ·exact hp.wf
 ·exact hp.wf
def fin2 (x y : Sp) : Sp × Sp := match x, y with | some p, some q => (some p, some q) | _, _ => (none, none)
def tst (op : Int) (p q : Nat × Nat) : Sp × Sp :=
 if op = 9 ∨ op = 10 then (sideS (some p) q.2 false (op == 9), sideS (some q) p.1 true (op == 9))
 else if op = 13 ∨ op = 14 then (sideS (some p) q.1 true (op == 13), sideS (some q) p.2 false (op == 13))
 else if op = 11 then (meet (some p) (some q), meet (some p) (some q))
 else if op = 12 then (wo p q, wo q p)
 else (some p, some q)
def testS (op : Int) : Sp → Sp → Sp × Sp
 | some p, some q => fin2 (tst op p q).1 (tst op p q).2
 | _, _ => (none, none)
def enc2 (x : Sp × Sp) : Bool × Int × Int × Bool × Int × Int := ((enc x.1).1, (enc x.1).2.1, (enc x.1).2.2, (enc x.2).1, (enc x.2).2.1, (enc x.2).2.2)
theorem fin2_l (y : Sp) : fin2 none y = (none, none) := by cases y <;> rfl
theorem tst_WF (op : Int) {p q : Nat × Nat} (hp : W2 p) (hq : W2 q) : WF (tst op p q).1 ∧ WF (tst op p q).2 := by
 unfold tst
 split
 ·dsimp only; exact ⟨sideS_WF hp.wf hq.u2 _ _, sideS_WF hq.wf hp.u1 _ _⟩
 ·split
  ·dsimp only; exact ⟨sideS_WF hp.wf hq.u1 _ _, sideS_WF hq.wf hp.u2 _ _⟩
  ·split
   ·exact ⟨meet_WF hp.wf hq.wf, meet_WF hp.wf hq.wf⟩
   ·split
    ·exact ⟨wo_WF hp hq, wo_WF hq hp⟩
    ·exact ⟨hp.wf, hq.wf⟩
theorem Test_j4 (x y : Sp) : Ev (fun k => span_Test.j4 k (enc x).1 (enc x).2.1 (enc x).2.2 (enc y).1 (enc y).2.1 (enc y).2.2) (enc2 (fin2 x y)) := by
 refine Ev.next ?_
 simp only [span_Test.j4]
 cases x with
 | none =>
  refine Ev.ift e_none (Ev.next ?_)
  simp only [span_Test.j5]
  rw [fin2_l]
  exact Ev.ift trivial (Ev.now _)
 | some p =>
  refine Ev.iff (e_some p) (Ev.next ?_)
  simp only [span_Test.j5]
  cases y with
  | none => exact Ev.ift e_none (Ev.now _)
  | some q => exact Ev.iff (e_some q) (Ev.now _)
theorem sTest_ev (op : Int) {e : Bool} {a b : Int} {s : Sp} {e' : Bool} {a' b' : Int} {t : Sp} (h : Is e a b s) (k : Is e' a' b' t) : Ev (fun k => span_Test.f k op e a b e' a' b') (enc2 (testS op s t)) := by
 have w := h.wf
 have w' := k.wf
 unfold span_Test.f
 refine Ev.b _ (sn_ev h) (Ev.b _ (sn_ev k) ?_)
 cases s with
 | none =>
  have z : testS op none t = (none, none) := by cases t <;> rfl
  rw [z]
  refine Ev.ift e_none (Ev.next ?_)
  simp only [span_Test.j0]
  exact Ev.ift trivial (Ev.now _)
 | some p =>
  refine Ev.iff (e_some p) (Ev.next ?_)
  simp only [span_Test.j0]
  cases t with
  | none => exact Ev.ift e_none (Ev.now _)
  | some q =>
   have P := W2.of w
   have Q := W2.of w'
   obtain ⟨T1, T2⟩ := tst_WF op P Q
   refine Ev.iff (e_some q) ?_
   have J : ∀ X : Bool, X = (op == 9 || op == 13) → Ev (fun k => span_Test.j1 k op X (enc (some p)).1 (enc (some p)).2.1 (enc (some p)).2.2 (enc (some q)).1 (enc (some q)).2.1 (enc (some q)).2.2 (enc (some p)).1 (enc (some p)).2.1 (enc (some p)).2.2 (enc (some q)).1 (enc (some q)).2.1 (enc (some q)).2.2) (enc2 (testS op (some p) (some q))) := by
    intro X hX
    have K : Ev (fun k => span_Test.j2 k X op (op == 9 || op == 10) (enc (some p)).1 (enc (some p)).2.1 (enc (some p)).2.2 (enc (some q)).1 (enc (some q)).2.1 (enc (some q)).2.2 (enc (some p)).1 (enc (some p)).2.1 (enc (some p)).2.2 (enc (some q)).1 (enc (some q)).2.1 (enc (some q)).2.2) (enc2 (testS op (some p) (some q))) := by
     refine Ev.next ?_
     simp only [span_Test.j2]
     unfold testS
     dsimp only
     unfold tst
     by_cases c1 : op = 9 ∨ op = 10
     ·rw [if_pos c1]
      have eX : X = (op == 9) := by rw [hX]; rcases c1 with rfl | rfl <;> rfl
      refine Ev.ift (by rcases c1 with rfl | rfl <;> rfl) ?_
      rw [eX]
      exact Ev.b _ (side_ev (Is.enc w) q.2 Q.u2 false (op == 9)) (Ev.b _ (side_ev (Is.enc w') p.1 P.u1 true (op == 9)) (Test_j4 _ _))
     ·rw [if_neg c1]
      have n9 : (op == 9) = false := by rw [beq_eq_false_iff_ne]; omega
      have n10 : (op == 10) = false := by rw [beq_eq_false_iff_ne]; omega
      refine Ev.iff (by rw [n9, n10]; decide) ?_
      have L : Ev (fun k => span_Test.j3 k X op (op == 13 || op == 14) (enc (some p)).1 (enc (some p)).2.1 (enc (some p)).2.2 (enc (some q)).1 (enc (some q)).2.1 (enc (some q)).2.2 (enc (some p)).1 (enc (some p)).2.1 (enc (some p)).2.2 (enc (some q)).1 (enc (some q)).2.1 (enc (some q)).2.2)
        (enc2 (fin2 (if op = 13 ∨ op = 14 then (sideS (some p) q.1 true (op == 13), sideS (some q) p.2 false (op == 13)) else if op = 11 then (meet (some p) (some q), meet (some p) (some q)) else if op = 12 then (wo p q, wo q p) else (some p, some q)).1
         (if op = 13 ∨ op = 14 then (sideS (some p) q.1 true (op == 13), sideS (some q) p.2 false (op == 13)) else if op = 11 then (meet (some p) (some q), meet (some p) (some q)) else if op = 12 then (wo p q, wo q p) else (some p, some q)).2)) := by
       refine Ev.next ?_
       simp only [span_Test.j3]
       by_cases c2 : op = 13 ∨ op = 14
       ·rw [if_pos c2]
        have eX : X = (op == 13) := by rw [hX]; rcases c2 with rfl | rfl <;> rfl
        refine Ev.ift (by rcases c2 with rfl | rfl <;> rfl) ?_
        rw [eX]
        exact Ev.b _ (side_ev (Is.enc w) q.1 Q.u1 true (op == 13)) (Ev.b _ (side_ev (Is.enc w') p.2 P.u2 false (op == 13)) (Test_j4 _ _))
       ·rw [if_neg c2]
        have n13 : (op == 13) = false := by rw [beq_eq_false_iff_ne]; omega
        have n14 : (op == 14) = false := by rw [beq_eq_false_iff_ne]; omega
        refine Ev.iff (by rw [n13, n14]; decide) ?_
        by_cases c3 : op = 11
        ·rw [if_pos c3]
         exact Ev.ift c3 (Ev.b _ (Meet_ev (Is.enc w) (Is.enc w')) (Test_j4 _ _))
        ·rw [if_neg c3]
         refine Ev.iff c3 ?_
         by_cases c4 : op = 12
         ·rw [if_pos c4]
          exact Ev.ift c4 (Ev.b _ (without_ev P Q) (Ev.b _ (without_ev Q P) (Test_j4 _ _)))
         ·rw [if_neg c4]
          exact Ev.iff c4 (Test_j4 (some p) (some q))
      by_cases c5 : op = 13
      ·have e : (op == 13 || op == 14) = (op == 13) := by rw [c5]; rfl
       rw [e] at L
       exact Ev.ift c5 L
      ·have e : (op == 13 || op == 14) = (op == 14) := by rw [show (op == 13) = false from beq_eq_false_iff_ne.2 c5]; rfl
       rw [e] at L
       exact Ev.iff c5 L
    refine Ev.next ?_
    simp only [span_Test.j1]
    by_cases c5 : op = 9
    ·have e : (op == 9 || op == 10) = (op == 9) := by rw [c5]; rfl
     rw [e] at K
     exact Ev.ift c5 K
    ·have e : (op == 9 || op == 10) = (op == 10) := by rw [show (op == 9) = false from beq_eq_false_iff_ne.2 c5]; rfl
     rw [e] at K
     exact Ev.iff c5 K
   by_cases c5 : op = 9
   ·exact Ev.ift c5 (J true (by rw [c5]; rfl))
   ·exact Ev.iff c5 (J (op == 13) (by rw [show (op == 9) = false from beq_eq_false_iff_ne.2 c5]; rfl))
end Go.Proofs.Ytmadjhmecfbcmaa.M
end
section
namespace Go.Proofs.Ytmadjhmecfbcmaa.M
open Go.RowKit Go.Proofs.YtmadjhmecfbcmaaW.PrintWords Go.Proofs.YtmadjhmecfbcmaaW.PrintLast Go.Proofs.YtmadjhmecfbcmaaW.PrintMore Go.Proofs.Ytmadjhmecfbcmaa.F
theorem mk_ev (lo hi : Nat) (v : Sp) (h1 : U lo) (h2 : U hi) (e : norm false lo hi = v) : Ev (fun k => span_Make.f k (lo : Int) (hi : Int)) (enc v) := by
 have := sMake_ev lo hi h1 h2
 rw [e] at this; exact this
theorem pt_ev (f : Nat) (v : Sp) (h : U f) (e : norm false f f = v) : Ev (fun k => span_Point.f k (f : Int)) (enc v) := by
 have := sPoint_ev f h
 rw [e] at this; exact this
theorem eq3 (x : Bool × Int × Int) : (x.1 == x.1 && (x.2.1 == x.2.1 && (x.2.2 == x.2.2))) = true := by simp
theorem n12 : norm false 4607182418800017408 4611686018427387904 = some (4607182418800017408, 4611686018427387904) := by decide +kernel
theorem n34 : norm false 13837309855095848960 4616189618054758400 = some (13837309855095848960, 4616189618054758400) := by decide +kernel
theorem n11 : norm false 4607182418800017408 4607182418800017408 = some (4607182418800017408, 4607182418800017408) := by decide +kernel
theorem nm2 : norm false 13830554455654793216 4611686018427387904 = some (13830554455654793216, 4611686018427387904) := by decide +kernel
theorem n00 : norm false 0 0 = some (0, 0) := by decide +kernel
theorem n04 : norm false 0 4616189618054758400 = some (0, 4616189618054758400) := by decide +kernel
theorem n68 : norm false 13841813454723219456 4620693217682128896 = some (13841813454723219456, 4620693217682128896) := by decide +kernel
theorem nall : norm false NINF INF = some (NINF, INF) := by decide +kernel
theorem n4i : norm false 4598175219545276416 9218868437227405312 = some (4598175219545276416, 9218868437227405312) := by decide +kernel
theorem n0t : norm false 0 4611686018427387903 = some (0, 4611686018427387903) := by decide +kernel
theorem n21 : norm false 4611686018427387904 4607182418800017408 = none := by decide +kernel
theorem n02 : norm false 0 4611686018427387904 = some (0, 4611686018427387904) := by decide +kernel
theorem n1t : norm false 4607182418800017408 4611686018427387903 = some (4607182418800017408, 4611686018427387903) := by decide +kernel
theorem nm0 : norm false 13830554455654793216 0 = some (13830554455654793216, 0) := by decide +kernel
theorem n01 : norm false 0 4607182418800017408 = some (0, 4607182418800017408) := by decide +kernel
theorem v1 : mulS (some (4607182418800017408, 4611686018427387904)) (some (13837309855095848960, 4616189618054758400)) = some (13841813454723219456, 4620693217682128896) := by decide +kernel
theorem v2 : divS (some (4607182418800017408, 4607182418800017408)) (some (13830554455654793216, 4611686018427387904)) = some (NINF, INF) := by decide +kernel
theorem v3 : divS (some (0, 0)) (some (13830554455654793216, 4611686018427387904)) = some (0, 0) := by decide +kernel
theorem v4 : divS (some (4607182418800017408, 4607182418800017408)) (some (0, 4616189618054758400)) = some (4598175219545276416, 9218868437227405312) := by decide +kernel
theorem v5 : testS 9 (some (0, 4616189618054758400)) (some (4607182418800017408, 4611686018427387904)) = (some (0, 4611686018427387903), some (4607182418800017408, 4611686018427387904)) := by decide +kernel
theorem v6 : hasS (some (0, 4611686018427387903)) 4607182418800017408 = true := by decide +kernel
theorem v7 : ins (some (4607182418800017408, 4611686018427387904)) (some (0, 4616189618054758400)) = true := by decide +kernel
theorem v8 : join (some (0, 4611686018427387903)) (some (4607182418800017408, 4611686018427387904)) = some (0, 4611686018427387904) := by decide +kernel
theorem v9 : meet (some (0, 4611686018427387903)) (some (4607182418800017408, 4611686018427387904)) = some (4607182418800017408, 4611686018427387903) := by decide +kernel
theorem v10 : mostS (neg (some (4607182418800017408, 4611686018427387904))) = 4611686018427387904 := by decide +kernel
theorem v11 : absS (some (13830554455654793216, 0)) = some (0, 4607182418800017408) := by decide +kernel
theorem wf_of {lo hi : Nat} {v : Sp} (h1 : U lo) (h2 : U hi) (e : norm false lo hi = v) : WF v := by rw [← e]; exact norm_WF _ _ _ h1 h2
theorem works16_ev : Ev (fun k => flyballlaw16_works.f k) true := by
 have W12 := wf_of (by decide) (by decide) n12
 have W34 := wf_of (by decide) (by decide) n34
 have W11 := wf_of (by decide) (by decide) n11
 have Wm2 := wf_of (by decide) (by decide) nm2
 have W00 := wf_of (by decide) (by decide) n00
 have W04 := wf_of (by decide) (by decide) n04
 have W0t := wf_of (by decide) (by decide) n0t
 have Wm0 := wf_of (by decide) (by decide) nm0
 unfold flyballlaw16_works.f
 refine Ev.b _ (mk_ev _ _ _ (by decide) (by decide) n12) (Ev.b _ (mk_ev _ _ _ (by decide) (by decide) n34) ?_)
 refine Ev.b _ (sMul_ev (Is.enc W12) (Is.enc W34)) ?_
 refine Ev.b _ (pt_ev _ _ (by decide) n11) (Ev.b _ (mk_ev _ _ _ (by decide) (by decide) nm2) ?_)
 refine Ev.b _ (sDivide_ev (Is.enc W11) (Is.enc Wm2)) ?_
 refine Ev.b _ (pt_ev _ _ (by decide) n00) (Ev.b _ (mk_ev _ _ _ (by decide) (by decide) nm2) ?_)
 refine Ev.b _ (sDivide_ev (Is.enc W00) (Is.enc Wm2)) ?_
 refine Ev.b _ (pt_ev _ _ (by decide) n11) (Ev.b _ (mk_ev _ _ _ (by decide) (by decide) n04) ?_)
 refine Ev.b _ (sDivide_ev (Is.enc W11) (Is.enc W04)) ?_
 refine Ev.b _ (mk_ev _ _ _ (by decide) (by decide) n04) (Ev.b _ (mk_ev _ _ _ (by decide) (by decide) n12) ?_)
 refine Ev.b _ (sTest_ev 9 (Is.enc W04) (Is.enc W12)) ?_
 rw [v1, v2, v3, v4, v5]
 refine Ev.b _ (mk_ev _ _ _ (by decide) (by decide) n68) (Ev.ift (eq3 _) ?_)
 refine Ev.b _ sAll_ev ?_
 rw [nall]
 refine Ev.ift (eq3 _) ?_
 refine Ev.b _ (pt_ev _ _ (by decide) n00) (Ev.ift (eq3 _) ?_)
 refine Ev.b _ (Inf_ev false) ?_
 refine Ev.b _ (mk_ev _ _ _ (by decide) (by decide) n4i) (Ev.ift (eq3 _) ?_)
 refine Ev.b _ (mk_ev _ _ _ (by decide) (by decide) n0t) (Ev.ift (eq3 _) ?_)
 refine Ev.b _ (mk_ev _ _ _ (by decide) (by decide) n12) (Ev.ift (eq3 _) ?_)
 refine Ev.b _ (mk_ev _ _ _ (by decide) (by decide) n21) (Ev.ift e_none ?_)
 refine Ev.b _ (sHas_ev (Is.enc W0t) 4607182418800017408 (by decide)) (Ev.ift v6 ?_)
 refine Ev.b _ (mk_ev _ _ _ (by decide) (by decide) n04) ?_
 refine Ev.b _ (sIn_ev (Is.enc W12) (Is.enc W04)) (Ev.ift v7 ?_)
 refine Ev.b _ (Join2_ev (Is.enc W0t) (Is.enc W12)) ?_
 rw [v8]
 refine Ev.b _ (mk_ev _ _ _ (by decide) (by decide) n02) (Ev.ift (eq3 _) ?_)
 refine Ev.b _ (Meet_ev (Is.enc W0t) (Is.enc W12)) ?_
 rw [v9]
 refine Ev.b _ (mk_ev _ _ _ (by decide) (by decide) n1t) (Ev.ift (eq3 _) ?_)
 refine Ev.b _ (sNeg_ev (Is.enc W12)) ?_
 refine Ev.b _ (sMost_ev (Is.enc (neg_WF W12))) ?_
 rw [v10]
 refine Ev.ift rfl ?_
 refine Ev.b _ (mk_ev _ _ _ (by decide) (by decide) nm0) ?_
 refine Ev.b _ (sAbs_ev (Is.enc Wm0)) ?_
 rw [v11]
 refine Ev.b _ (mk_ev _ _ _ (by decide) (by decide) n01) (Ev.const ?_)
 exact congrArg some (eq3 _)
theorem Is.lit {e : Bool} {a b : Int} (h1 : (Lit.int .u64 a).wf = true) (h2 : (Lit.int .u64 b).wf = true) : ∃ s, Is e a b s := by
 obtain ⟨x, rfl, hx⟩ := wf_u64 h1
 obtain ⟨y, rfl, hy⟩ := wf_u64 h2
 exact ⟨_, Is.raw e hx hy⟩
end Go.Proofs.Ytmadjhmecfbcmaa.M
end
section
namespace Go.Proofs.Ytmadjhmecfbcmaa.M
open Go.RowKit Go.Proofs.YtmadjhmecfbcmaaW.PrintWords Go.Proofs.YtmadjhmecfbcmaaW.PrintLast Go.Proofs.YtmadjhmecfbcmaaW.PrintMore Go.Proofs.Ytmadjhmecfbcmaa.F
theorem rkey_ok (a : Nat) (h : U a) : flyballref04_Key.f (a : Int) = some (ord a) := by
 have e := ex_lt a
 have f := fr_lt a
 have k := key_parts' a
 unfold flyballref04_Key.f
 rw [ref_Parts_ok a h, Option.bind_some]
 dsimp only
 rw [w64 (n := (ex a : Int) * 4503599627370496) (by omega) (by omega), w64 (n := (fr a : Int)) (by omega) (by omega), w64 (n := (ex a : Int) * 4503599627370496 + (fr a : Int)) (by omega) (by omega)]
 unfold ord
 by_cases s : sgn a = true
 ·rw [if_pos s, if_pos s, w64 (by omega) (by omega)]
  congr 1; omega
 ·rw [if_neg s, if_neg s]
  congr 1; omega
theorem refCmp_ev (a b : Nat) (ha : U a) (hb : U b) : Ev (fun k => flyballref04_Cmp.f k (a : Int) (b : Int)) (cmpI a b) := by
 have la := cls_le a
 have lb := cls_le b
 unfold flyballref04_Cmp.f
 refine Ev.b _ (ref_Class_ev a ha) ?_
 by_cases c1 : cls a = 4
 ·have e : cmpI a b = (0, false) := by unfold cmpI; rw [if_pos (.inl c1)]
  rw [e]
  refine Ev.ift (by omega) (Ev.next ?_)
  simp only [flyballref04_Cmp.j0]
  exact Ev.ift trivial (Ev.now _)
 ·refine Ev.iff (by omega) (Ev.b _ (ref_Class_ev b hb) (Ev.next ?_))
  simp only [flyballref04_Cmp.j0]
  by_cases c2 : cls b = 4
  ·have e : cmpI a b = (0, false) := by unfold cmpI; rw [if_pos (.inr c2)]
   rw [e]
   exact Ev.ift (by rw [c2]; rfl) (Ev.now _)
  ·refine Ev.iff (by rw [beq_iff_eq]; omega) ?_
   refine Ev.b _ (Ev.const (rkey_ok a ha)) (Ev.b _ (Ev.const (rkey_ok b hb)) (Ev.const ?_))
   unfold cmpI
   rw [if_neg (show ¬ (cls a = 4 ∨ cls b = 4) by omega)]
   by_cases c3 : ord a < ord b
   ·rw [if_pos c3, if_pos c3]
   ·rw [if_neg c3, if_neg c3]
    by_cases c4 : ord a > ord b
    ·rw [if_pos c4, if_pos c4]
    ·rw [if_neg c4, if_neg c4]
theorem rle_ev (a b : Nat) (ha : U a) (hb : U b) : Ev (fun k => flyballref16_le.f k (a : Int) (b : Int)) (le a b) := by
 unfold flyballref16_le.f
 refine Ev.b _ (refCmp_ev a b ha hb) (Ev.const ?_)
 rw [le_cmp]
 cases (cmpI a b).2
 ·rw [if_neg (by decide)]; rfl
 ·rw [if_pos rfl]; rfl
theorem nz_eq (a : Nat) (h : U a) : ((if (a : Int) = 9223372036854775808 then (0 : Int) else (a : Int))) = ((nz a : Nat) : Int) := by
 have k := (key_cls a).2.2.2
 unfold nz
 by_cases c : cls a = 0
 ·rw [if_pos c]
  have := k.1 c
  unfold key at this
  unfold U at h
  by_cases z : (a : Int) = 9223372036854775808
  ·rw [if_pos z]; rfl
  ·rw [if_neg z]; omega
 ·rw [if_neg c, if_neg]
  intro z
  apply c
  rw [k]; unfold key; omega
theorem rn_ev {e : Bool} {a b : Int} {s : Sp} (h : Is e a b s) : Ev (fun k => flyballref16_Norm.f k e a b) (enc s) := by
 obtain ⟨lo, hi, h1, h2, rfl, rfl, rfl⟩ := h
 unfold flyballref16_Norm.f
 refine Ev.b _ (rle_ev lo hi h1 h2) ?_
 have T : norm e lo hi = none → Ev (fun k => flyballref16_Norm.j0 k true e (lo : Int) (hi : Int)) (enc (norm e lo hi)) := by
  intro n
  rw [n]
  refine Ev.next ?_
  simp only [flyballref16_Norm.j0]
  exact Ev.ift trivial (Ev.now _)
 by_cases c1 : e = true
 ·exact Ev.ift c1 (T (by unfold norm; rw [if_pos (.inl c1)]))
 ·refine Ev.iff c1 ?_
  by_cases c2 : le lo hi = true
  ·refine Ev.ift c2 ?_
   by_cases c3 : lo = INF
   ·exact Ev.ift (by rw [c3]; rfl) (T (by unfold norm; rw [if_pos (.inr (.inr (.inl c3)))]))
   ·refine Ev.iff (fun x => c3 (by unfold INF; omega)) (Ev.next ?_)
    simp only [flyballref16_Norm.j0]
    by_cases c4 : hi = NINF
    ·have n : norm e lo hi = none := by unfold norm; rw [if_pos (.inr (.inr (.inr c4)))]
     rw [n]
     exact Ev.ift (by rw [c4]; rfl) (Ev.now _)
    ·refine Ev.iff (by rw [beq_iff_eq]; intro x; exact c4 (by unfold NINF; omega)) ?_
     have n : norm e lo hi = some (nz lo, nz hi) := by
      unfold norm; rw [if_neg]
      rintro (x | x | x | x)
      ·exact c1 x
      ·rw [c2] at x; cases x
      ·exact c3 x
      ·exact c4 x
     have e0 : e = false := by cases e; rfl; exact absurd rfl c1
     have R : enc (norm e lo hi) = (e, (if (lo : Int) = 9223372036854775808 then (0 : Int) else (lo : Int)), (if (hi : Int) = 9223372036854775808 then (0 : Int) else (hi : Int))) := by
      rw [n, nz_eq lo h1, nz_eq hi h2, e0]; rfl
     rw [R]
     by_cases z1 : (lo : Int) = 9223372036854775808
     ·refine Ev.ift z1 ?_
      by_cases z2 : (hi : Int) = 9223372036854775808
      ·refine Ev.ift z2 ?_
       rw [if_pos z1, if_pos z2]; exact Ev.now _
      ·refine Ev.iff z2 ?_
       rw [if_pos z1, if_neg z2]; exact Ev.now _
     ·refine Ev.iff z1 ?_
      by_cases z2 : (hi : Int) = 9223372036854775808
      ·refine Ev.ift z2 ?_
       rw [if_neg z1, if_pos z2]; exact Ev.now _
      ·refine Ev.iff z2 ?_
       rw [if_neg z1, if_neg z2]; exact Ev.now _
  ·exact Ev.iff c2 (T (by unfold norm; rw [if_pos (.inr (.inl (Bool.eq_false_iff.2 c2)))]))
theorem Finite_ev (a : Nat) (h : U a) : Ev (fun k => flyballref04_Finite.f k (a : Int)) (decide (cls a ≤ 2)) := by
 have l := cls_le a
 unfold flyballref04_Finite.f
 refine Ev.b _ (ref_Class_ev a h) ?_
 by_cases c : cls a = 3
 ·rw [decide_eq_false (by omega)]
  exact Ev.ift (by omega) (Ev.now _)
 ·refine Ev.iff (by omega) (Ev.const ?_)
  by_cases c4 : cls a = 4
  ·rw [decide_eq_false (by omega), c4]; rfl
  ·rw [decide_eq_true (by omega)]; congr 1; rw [bne_iff_ne]; omega
theorem lw_le {a b : Nat} (ha : Fl a) (hb : Fl b) (za : nz a = a) (zb : nz b = b) : lw a b = if le b a = true then b else a := by
 have i := le_iff hb.n ha.n
 unfold lw
 by_cases c : ord b < ord a
 ·rw [if_pos c, if_pos (i.2 (by omega))]
 ·rw [if_neg c]
  by_cases d : le b a = true
  ·rw [if_pos d]; exact ord_inj ha.u hb.u za zb (by have := i.1 d; omega)
  ·rw [if_neg d]
theorem hr_le {a b : Nat} (ha : Fl a) (hb : Fl b) (za : nz a = a) (zb : nz b = b) : hr a b = if le a b = true then b else a := by
 have i := le_iff ha.n hb.n
 unfold hr
 by_cases c : ord a < ord b
 ·rw [if_pos c, if_pos (i.2 (by omega))]
 ·rw [if_neg c]
  by_cases d : le a b = true
  ·rw [if_pos d]; exact ord_inj ha.u hb.u za zb (by have := i.1 d; omega)
  ·rw [if_neg d]
theorem rMeet_ev {e : Bool} {a b : Int} {s : Sp} {e' : Bool} {a' b' : Int} {t : Sp} (h : Is e a b s) (k : Is e' a' b' t) : Ev (fun k => flyballref16_Meet.f k e a b e' a' b') (enc (meet s t)) := by
 have w := h.wf
 have w' := k.wf
 unfold flyballref16_Meet.f
 refine Ev.b _ (rn_ev h) (Ev.b _ (rn_ev k) ?_)
 cases s with
 | none =>
  refine Ev.ift e_none (Ev.next ?_)
  simp only [flyballref16_Meet.j0]
  exact Ev.ift trivial (Ev.now _)
 | some p =>
  refine Ev.iff (e_some p) (Ev.next ?_)
  simp only [flyballref16_Meet.j0]
  cases t with
  | none => exact Ev.ift e_none (Ev.now _)
  | some q =>
   have v := W2.of w
   have v' := W2.of w'
   refine Ev.iff (e_some q) ?_
   have J : ∀ x : Nat, U x → Ev (fun k => flyballref16_Meet.j1 k false (x : Int) (p.2 : Int) (enc (some q)).1 (enc (some q)).2.1 (enc (some q)).2.2) (enc (norm false x (lw p.2 q.2))) := by
    intro x hx
    refine Ev.next ?_
    simp only [flyballref16_Meet.j1]
    rw [lw_le v.f2 v'.f2 v.z2 v'.z2]
    refine Ev.b _ (rle_ev q.2 p.2 v'.u2 v.u2) ?_
    cases le q.2 p.2
    ·rw [if_neg (by decide)]
     exact Ev.iff (by decide) (Ev.b _ (rn_ev (Is.raw false hx v.u2)) (Ev.now _))
    ·rw [if_pos rfl]
     exact Ev.ift rfl (Ev.b _ (rn_ev (Is.raw false hx v'.u2)) (Ev.now _))
   refine Ev.b _ (rle_ev p.1 q.1 v.u1 v'.u1) ?_
   have em : meet (some p) (some q) = norm false (hr p.1 q.1) (lw p.2 q.2) := rfl
   rw [em, hr_le v.f1 v'.f1 v.z1 v'.z1]
   cases le p.1 q.1
   ·rw [if_neg (by decide)]
    exact Ev.iff (by decide) (J p.1 v.u1)
   ·rw [if_pos rfl]
    exact Ev.ift rfl (J q.1 v'.u1)
end Go.Proofs.Ytmadjhmecfbcmaa.M
end
section
namespace Go.Proofs.Ytmadjhmecfbcmaa.M
open Go.RowKit Go.Proofs.YtmadjhmecfbcmaaW.PrintWords Go.Proofs.YtmadjhmecfbcmaaW.PrintLast Go.Proofs.YtmadjhmecfbcmaaW.PrintMore Go.Proofs.Ytmadjhmecfbcmaa.F
theorem mk_n (neg : Bool) (n : Nat) : mk neg (n / 4503599627370496) (n % 4503599627370496) = sg neg + n := by unfold mk; omega
theorem rMk (neg : Bool) (n : Nat) (h : n ≤ 9218868437227405312) : flyballref04_Make.f neg (wrap64 (Int.tdiv (n : Int) 4503599627370496)) (IntKind.u64.wrap (Int.tmod (n : Int) 4503599627370496)) = some ((sg neg + n : Nat) : Int) := by
 have e1 : Int.tdiv (n : Int) 4503599627370496 = ((n / 4503599627370496 : Nat) : Int) := by rw [Int.tdiv_eq_ediv_of_nonneg (by omega)]; omega
 have e2 : Int.tmod (n : Int) 4503599627370496 = ((n % 4503599627370496 : Nat) : Int) := by rw [Int.tmod_eq_emod_of_nonneg (by omega)]; omega
 rw [e1, e2, w64 (by omega) (by omega), wu64 (by omega) (by omega), ref_Make_ok neg _ _ (by omega) (by omega), mk_n]
theorem Of_pos (n : Nat) (b : Bool) (h : n ≤ 9218868437227405312) (h0 : n = 0 → b = false) : Ev (fun k => flyballref04_Of.f k (n : Int) b) (n : Int) := by
 have J : Ev (fun k => flyballref04_Of.j0 k (n : Int) false) (n : Int) := by
  refine Ev.next ?_
  simp only [flyballref04_Of.j0]
  refine Ev.iff (by decide) (Ev.const ?_)
  rw [rMk false n h, Option.bind_some]
  have : sg false = 0 := rfl
  rw [this, Nat.zero_add]
 unfold flyballref04_Of.f
 refine Ev.iff (by omega) ?_
 by_cases c : n = 0
 ·refine Ev.ift (by omega) ?_
  rw [h0 c]; exact J
 ·exact Ev.iff (by omega) J
theorem Of_neg (n : Nat) (b : Bool) (h : n ≤ 9218868437227405312) (h0 : n = 0 → b = true) : Ev (fun k => flyballref04_Of.f k (-(n : Int)) b) ((9223372036854775808 + n : Nat) : Int) := by
 have J : Ev (fun k => flyballref04_Of.j0 k (-(n : Int)) true) ((9223372036854775808 + n : Nat) : Int) := by
  refine Ev.next ?_
  simp only [flyballref04_Of.j0]
  refine Ev.ift trivial (Ev.const ?_)
  have e : wrap64 (- -(n : Int)) = (n : Int) := by rw [Int.neg_neg, w64 (by omega) (by omega)]
  rw [e, rMk true n h, Option.bind_some]
  rfl
 unfold flyballref04_Of.f
 by_cases c : n = 0
 ·refine Ev.iff (by omega) (Ev.ift (by omega) ?_)
  rw [h0 c]; exact J
 ·exact Ev.ift (by omega) J
theorem sgn_iff (a : Nat) : (sgn a = true → ord a = -(key a : Int)) ∧ (sgn a = false → ord a = key a) := by
 unfold ord
 exact ⟨fun h => by rw [if_pos h], fun h => by rw [if_neg (by rw [h]; decide)]⟩
theorem key_lim {a : Nat} (h : cls a ≠ 4) : key a ≤ 9218868437227405312 := by
 have := (key_cls a).2.2.1
 omega
theorem rNext_ev (a : Nat) (h : U a) : Ev (fun k => flyballref04_Next.f k (a : Int)) ((nx a : Nat) : Int) := by
 unfold flyballref04_Next.f
 refine Ev.b _ (ref_Class_ev a h) ?_
 by_cases c4 : cls a = 4
 ·refine Ev.ift (by omega) (Ev.next ?_)
  simp only [flyballref04_Next.j0]
  refine Ev.ift trivial (Ev.const ?_)
  unfold nx; rw [if_pos (.inl c4)]
 ·refine Ev.iff (by omega) ?_
  refine Ev.b _ (Ev.const (rkey_ok a h)) (Ev.next ?_)
  simp only [flyballref04_Next.j0]
  have ie := eq_INF h c4
  by_cases ci : a = INF
  ·refine Ev.ift (by rw [ie.1 ci]; rfl) (Ev.const ?_)
   unfold nx; rw [if_pos (.inr ci)]
  ·have on : ord a ≠ 9218868437227405312 := fun x => ci (ie.2 x)
   refine Ev.iff (by rw [beq_iff_eq]; exact on) ?_
   refine Ev.b _ (Ev.const (rkey_ok a h)) (Ev.b _ (Ev.const (rkey_ok a h)) ?_)
   have bd := ord_bd a c4
   rw [w64 (n := ord a + 1) (by omega) (by omega)]
   have p := a_parts a h
   have kl := key_lim c4
   obtain ⟨s1, s2⟩ := sgn_iff a
   have ne : ¬ (cls a = 4 ∨ a = INF) := by rintro (x | x); exact c4 x; exact ci x
   unfold nx
   rw [if_neg ne]
   by_cases ck : key a = 0
   ·rw [if_pos ck]
    have o0 : ord a = 0 := by rw [ord_zero, (key_cls a).2.2.2]; exact ck
    rw [o0]
    exact Ev.b _ (Of_pos 1 _ (by omega) (fun x => by omega)) (Ev.now _)
   ·rw [if_neg ck]
    cases s : sgn a
    ·have o := s2 s
     rw [if_neg (by decide)]
     rw [s] at p
     have z : sg false = 0 := rfl
     have e : ord a + 1 = ((a + 1 : Nat) : Int) := by omega
     rw [e]
     exact Ev.b _ (Of_pos (a + 1) _ (by omega) (fun x => by omega)) (Ev.now _)
    ·have o := s1 s
     rw [if_pos rfl]
     rw [s] at p
     have z : sg true = 9223372036854775808 := rfl
     have e : ord a + 1 = -((key a - 1 : Nat) : Int) := by omega
     have e2 : a - 1 = 9223372036854775808 + (key a - 1) := by omega
     rw [e, e2]
     exact Ev.b _ (Of_neg (key a - 1) _ (by omega) (fun x => by rw [decide_eq_true_iff]; omega)) (Ev.now _)
theorem flip_lo {a : Nat} (h : a < 9223372036854775808) : flip a = 9223372036854775808 + a := by unfold flip; rw [if_pos h]; omega
theorem flip_hi {a : Nat} (h : ¬ a < 9223372036854775808) : flip a = a - 9223372036854775808 := by unfold flip; rw [if_neg h]
theorem cls_of_key {a : Nat} (h : key a ≤ 9218868437227405312) : cls a ≠ 4 := by
 have := (key_cls a).2.2.1
 omega
theorem rPrev_ev (a : Nat) (h : U a) : Ev (fun k => flyballref04_Prev.f k (a : Int)) ((pv a : Nat) : Int) := by
 unfold flyballref04_Prev.f
 refine Ev.b _ (ref_Class_ev a h) ?_
 by_cases c4 : cls a = 4
 ·refine Ev.ift (by omega) (Ev.next ?_)
  simp only [flyballref04_Prev.j0]
  refine Ev.ift trivial (Ev.const ?_)
  have e1 : ng a = a := by unfold ng; rw [if_pos c4]
  have e2 : nx a = a := by unfold nx; rw [if_pos (.inl c4)]
  unfold pv; rw [e1, e2, e1]
 ·refine Ev.iff (by omega) ?_
  refine Ev.b _ (Ev.const (rkey_ok a h)) (Ev.next ?_)
  simp only [flyballref04_Prev.j0]
  have ie := eq_NINF h c4
  by_cases ci : a = NINF
  ·refine Ev.ift (by rw [ie.1 ci]; rfl) (Ev.const ?_)
   rw [ci]; decide +kernel
  ·have on : ord a ≠ -9218868437227405312 := fun x => ci (ie.2 x)
   refine Ev.iff (by rw [beq_iff_eq]; exact on) ?_
   refine Ev.b _ (Ev.const (rkey_ok a h)) (Ev.b _ (Ev.const (rkey_ok a h)) ?_)
   have bd := ord_bd a c4
   rw [w64 (n := ord a - 1) (by omega) (by omega)]
   have p := a_parts a h
   have kl := key_lim c4
   obtain ⟨s1, s2⟩ := sgn_iff a
   have gp := flip_parts a h
   have gn : ng a = flip a := by unfold ng; rw [if_neg c4]
   have cg := ng_cls a h
   have gne : ¬ (cls (ng a) = 4 ∨ ng a = INF) := by
    rintro (x | x)
    ·omega
    ·apply on
     have := ng_ord a h c4
     rw [x, oINF] at this; omega
   have kg : key (ng a) = key a := by rw [gn]; exact gp.2
   unfold pv nx
   rw [if_neg gne, kg]
   by_cases ck : key a = 0
   ·rw [if_pos ck]
    have o0 : ord a = 0 := by rw [ord_zero, (key_cls a).2.2.2]; exact ck
    rw [o0]
    have e1 : ng 1 = 9223372036854775809 := by decide
    rw [e1]
    exact Ev.b _ (Of_neg 1 _ (by omega) (fun x => by omega)) (Ev.now _)
   ·rw [if_neg ck, gn, gp.1]
    cases s : sgn a
    ·have o := s2 s
     rw [if_pos (show (!false) = true from rfl)]
     rw [s] at p
     have z : sg false = 0 := rfl
     have f1 : flip a = 9223372036854775808 + a := flip_lo (by omega)
     have e3 : flip a - 1 = 9223372036854775808 + (key a - 1) := by omega
     have k1 : key (9223372036854775808 + (key a - 1)) = key a - 1 := by unfold key; omega
     have e4 : ng (flip a - 1) = key a - 1 := by
      rw [e3]; unfold ng
      rw [if_neg (cls_of_key (by rw [k1]; omega)), flip_hi (by omega)]; omega
     have e : ord a - 1 = ((key a - 1 : Nat) : Int) := by omega
     rw [e4, e]
     exact Ev.b _ (Of_pos (key a - 1) _ (by omega) (fun x => by rw [decide_eq_false_iff_not]; omega)) (Ev.now _)
    ·have o := s1 s
     rw [if_neg (show ¬ (!true) = true by decide)]
     rw [s] at p
     have z : sg true = 9223372036854775808 := rfl
     have f1 : flip a = key a := by rw [flip_hi (by omega)]; omega
     have k1 : key (key a + 1) = key a + 1 := by have := key_lt a; unfold key at *; omega
     have kn : key a ≠ 9218868437227405312 := by omega
     have e4 : ng (flip a + 1) = 9223372036854775808 + (key a + 1) := by
      rw [f1]; unfold ng
      rw [if_neg (cls_of_key (by rw [k1]; omega)), flip_lo (by omega)]
     have e : ord a - 1 = -((key a + 1 : Nat) : Int) := by omega
     rw [e4, e]
     exact Ev.b _ (Of_neg (key a + 1) _ (by omega) (fun x => by omega)) (Ev.now _)
theorem below_ev {e : Bool} {a b : Int} {s : Sp} (h : Is e a b s) (f : Nat) (hf : Fl f) (strict : Bool) : Ev (fun k => flyballref16_below.f k e a b (f : Int) strict) (enc (sideS s f false strict)) := by
 have l := cls_le f
 have n := hf.n
 have J : ∀ x : Nat, U x → Ev (fun k => (flyballref16_Meet.f k e a b false 18442240474082181120 (x : Int)).bind fun bt1264 => some (bt1264.1, bt1264.2.1, bt1264.2.2)) (enc (meet s (norm false NINF x))) := by
  intro x hx
  exact Ev.b _ (rMeet_ev h (Is.raw false (lo := NINF) (by decide) hx)) (Ev.now _)
 have K : Ev (fun k => flyballref16_below.j0 k (f : Int) (strict && decide (cls f ≠ 3)) e a b) (enc (sideS s f false strict)) := by
  refine Ev.next ?_
  simp only [flyballref16_below.j0]
  unfold sideS mv
  rw [if_neg (show ¬ false = true by decide)]
  by_cases c : strict = true ∧ cls f ≠ 3
  ·rw [if_pos c, if_neg (show ¬ false = true by decide)]
   refine Ev.ift (by rw [c.1, decide_eq_true c.2]; rfl) ?_
   exact Ev.b _ (rPrev_ev f hf.u) (J _ (pv_U hf.u))
  ·rw [if_neg c]
   refine Ev.iff (by rw [Bool.and_eq_true, decide_eq_true_iff]; exact c) ?_
   exact J f hf.u
 unfold flyballref16_below.f
 cases strict
 ·exact Ev.iff (by decide) K
 ·refine Ev.ift rfl (Ev.b _ (Finite_ev f hf.u) ?_)
  have e1 : decide (cls f ≤ 2) = (true && decide (cls f ≠ 3)) := by rw [Bool.true_and, decide_eq_decide]; omega
  rw [e1]; exact K
theorem from_ev {e : Bool} {a b : Int} {s : Sp} (h : Is e a b s) (f : Nat) (hf : Fl f) (strict : Bool) : Ev (fun k => flyballref16_from.f k e a b (f : Int) strict) (enc (sideS s f true strict)) := by
 have l := cls_le f
 have n := hf.n
 have J : ∀ x : Nat, U x → Ev (fun k => (flyballref16_Meet.f k e a b false (x : Int) 9218868437227405312).bind fun bt1264 => some (bt1264.1, bt1264.2.1, bt1264.2.2)) (enc (meet s (norm false x INF))) := by
  intro x hx
  exact Ev.b _ (rMeet_ev h (Is.raw false (hi := INF) hx (by decide))) (Ev.now _)
 have K : Ev (fun k => flyballref16_from.j0 k (f : Int) (strict && decide (cls f ≠ 3)) e a b) (enc (sideS s f true strict)) := by
  refine Ev.next ?_
  simp only [flyballref16_from.j0]
  unfold sideS mv
  rw [if_pos rfl]
  by_cases c : strict = true ∧ cls f ≠ 3
  ·rw [if_pos c, if_pos rfl]
   refine Ev.ift (by rw [c.1, decide_eq_true c.2]; rfl) ?_
   exact Ev.b _ (rNext_ev f hf.u) (J _ (nx_U hf.u))
  ·rw [if_neg c]
   refine Ev.iff (by rw [Bool.and_eq_true, decide_eq_true_iff]; exact c) ?_
   exact J f hf.u
 unfold flyballref16_from.f
 cases strict
 ·exact Ev.iff (by decide) K
 ·refine Ev.ift rfl (Ev.b _ (Finite_ev f hf.u) ?_)
  have e1 : decide (cls f ≤ 2) = (true && decide (cls f ≠ 3)) := by rw [Bool.true_and, decide_eq_decide]; omega
  rw [e1]; exact K
theorem nx_fl {a : Nat} (h : Fl a) (l : ord a < 9218868437227405312) : Fl (nx a) ∧ ord (nx a) = ord a + 1 := by
 have ie := eq_INF h.u h.n
 have p := a_parts a h.u
 have kl := key_lim h.n
 have kk := key_lt a
 obtain ⟨s1, s2⟩ := sgn_iff a
 have ne : ¬ (cls a = 4 ∨ a = INF) := by rintro (x | x); exact h.n x; have := ie.1 x; omega
 have U1 := nx_U h.u
 have q : cls (nx a) ≠ 4 ∧ ord (nx a) = ord a + 1 := by
  unfold nx
  rw [if_neg ne]
  by_cases ck : key a = 0
  ·rw [if_pos ck]
   have o0 : ord a = 0 := by rw [ord_zero, (key_cls a).2.2.2]; exact ck
   rw [o0]; decide +kernel
  ·rw [if_neg ck]
   cases s : sgn a
   ·have o := s2 s
    rw [if_neg (by decide)]
    rw [s] at p
    have z : sg false = 0 := rfl
    have e : a + 1 = sg false + (key a + 1) := by omega
    have k1 := key_sg false (key a + 1) (by omega)
    have o1 := ord_sg false (key a + 1) (by omega)
    rw [if_neg (by decide)] at o1
    rw [e]
    exact ⟨cls_of_key (by rw [k1]; omega), by omega⟩
   ·have o := s1 s
    rw [if_pos rfl]
    rw [s] at p
    have z : sg true = 9223372036854775808 := rfl
    have e : a - 1 = sg true + (key a - 1) := by omega
    have k1 := key_sg true (key a - 1) (by omega)
    have o1 := ord_sg true (key a - 1) (by omega)
    rw [if_pos rfl] at o1
    rw [e]
    exact ⟨cls_of_key (by rw [k1]; omega), by omega⟩
 exact ⟨⟨U1, q.1⟩, q.2⟩
theorem wo_ref {p q : Nat × Nat} (hp : W2 p) (hq : W2 q) (e : q.1 = q.2) :
  wo p q = if p.1 = q.1 ∧ p.2 = q.1 then none else if p.1 = q.1 then sideS (some p) q.1 true true else if p.2 = q.1 then sideS (some p) q.1 false true else some p := by
 unfold wo
 rw [if_pos e]
 by_cases c1 : p.1 = q.1
 ·rw [if_pos c1]
  have l := hq.l
  have g := hq.g
  rw [← e] at g
  have l2 := hp.l
  have g2 := hp.g
  have b2 := hp.f2.bd
  obtain ⟨fn, on⟩ := nx_fl hq.f1 l
  have c3 : cls q.1 ≠ 3 := fun x => by have := (inf_iff hq.f1).1 x; omega
  have em : mv q.1 true true = nx q.1 := by unfold mv; rw [if_pos ⟨rfl, c3⟩, if_pos rfl]
  have es : sideS (some p) q.1 true true = meet (some p) (norm false (nx q.1) INF) := by unfold sideS; rw [if_pos rfl, em]
  by_cases c2 : p.2 = q.1
  ·rw [if_pos ⟨c1, c2⟩]
   have : sideS (some p) q.1 true true = none := by
    rw [es]
    by_cases c4 : ord (nx q.1) = 9218868437227405312
    ·rw [norm_none fn FlINF (.inr (.inl c4))]; rfl
    ·obtain ⟨en, wn⟩ := norm_some fn FlINF (by rw [oINF]; omega) (by omega) (by rw [oINF]; decide)
     rw [en]
     show norm false (hr p.1 (nz (nx q.1))) (lw p.2 (nz INF)) = none
     have a := hr_spec p.1 (nz (nx q.1))
     have b := lw_spec p.2 (nz INF)
     rw [nz_ord] at a b
     refine norm_none (hr_p hp.f1 fn.nz) (lw_p hp.f2 FlINF.nz) (.inl ?_)
     rw [c2] at b ⊢
     omega
   rw [this]
  ·rw [if_neg (fun x => c2 x.2), if_pos c1]
   have key : ∀ r, sideS (some p) q.1 true true = some r → r.2 = p.2 := by
    intro r hr'
    rw [es] at hr'
    by_cases c4 : ord (nx q.1) = 9218868437227405312
    ·rw [norm_none fn FlINF (.inr (.inl c4))] at hr'; cases hr'
    ·obtain ⟨en, wn⟩ := norm_some fn FlINF (by rw [oINF]; omega) (by omega) (by rw [oINF]; decide)
     rw [en] at hr'
     rcases meet_ok hp wn with h0 | ⟨r', e', w', _, o2⟩
     ·rw [h0] at hr'; cases hr'
     ·rw [e'] at hr'
      obtain rfl := Option.some.inj hr'
      have b := lw_spec p.2 (nz INF)
      rw [nz_ord, oINF] at b
      exact ord_inj w'.u2 hp.u2 w'.z2 hp.z2 (by dsimp only at o2; omega)
   have w := sideS_WF hp.wf (f := q.1) hq.u1 true true
   generalize sideS (some p) q.1 true true = z at key ⊢
   cases z with
   | none => rfl
   | some r =>
    dsimp only
    rw [if_neg (by rw [key r rfl]; exact c2)]
 ·have n : ¬ (p.1 = q.1 ∧ p.2 = q.1) := fun x => c1 x.1
  rw [if_neg c1, if_neg n, if_neg c1]
theorem rwo_ev {p q : Nat × Nat} (hp : W2 p) (hq : W2 q) (e : q.1 = q.2) : Ev (fun k => flyballref16_without.f k (enc (some p)).1 (enc (some p)).2.1 (enc (some p)).2.2 (q.1 : Int)) (enc (wo p q)) := by
 rw [wo_ref hp hq e]
 have p1 : (enc (some p)).2.1 = (p.1 : Int) := rfl
 have p2 : (enc (some p)).2.2 = (p.2 : Int) := rfl
 have J : ∀ X : Bool, (X = true ↔ p.1 = q.1 ∧ p.2 = q.1) → Ev (fun k => flyballref16_without.j0 k (q.1 : Int) X (enc (some p)).1 (enc (some p)).2.1 (enc (some p)).2.2) (enc (if p.1 = q.1 ∧ p.2 = q.1 then none else if p.1 = q.1 then sideS (some p) q.1 true true else if p.2 = q.1 then sideS (some p) q.1 false true else some p)) := by
  intro X hX
  refine Ev.next ?_
  simp only [flyballref16_without.j0]
  by_cases c1 : p.1 = q.1 ∧ p.2 = q.1
  ·rw [if_pos c1]
   exact Ev.ift (hX.2 c1) (Ev.now _)
  ·rw [if_neg c1]
   refine Ev.iff (fun x => c1 (hX.1 x)) ?_
   by_cases c2 : p.1 = q.1
   ·rw [if_pos c2]
    exact Ev.ift (by rw [p1, c2]) (Ev.b _ (from_ev (Is.enc hp.wf) q.1 hq.f1 true) (Ev.now _))
   ·rw [if_neg c2]
    refine Ev.iff (by rw [p1]; omega) ?_
    by_cases c3 : p.2 = q.1
    ·rw [if_pos c3]
     exact Ev.ift (by rw [p2, c3]) (Ev.b _ (below_ev (Is.enc hp.wf) q.1 hq.f1 true) (Ev.now _))
    ·rw [if_neg c3]
     exact Ev.iff (by rw [p2]; omega) (Ev.now _)
 unfold flyballref16_without.f
 by_cases c2 : p.1 = q.1
 ·refine Ev.ift (by rw [p1, c2]) (J _ ?_)
  rw [p2, beq_iff_eq]
  constructor
  ·intro x; exact ⟨c2, by omega⟩
  ·intro x; rw [x.2]
 ·refine Ev.iff (by rw [p1]; omega) (J false ?_)
  constructor
  ·intro x; cases x
  ·intro x; exact absurd x.1 c2
theorem fin_ev (x y : Sp) : Ev (fun _ => if (enc x).1 = true then some (true, (0 : Int), (0 : Int), true, (0 : Int), (0 : Int)) else if (enc y).1 = true then some (true, (0 : Int), (0 : Int), true, (0 : Int), (0 : Int)) else some ((enc x).1, (enc x).2.1, (enc x).2.2, (enc y).1, (enc y).2.1, (enc y).2.2)) (enc2 (fin2 x y)) := by
 cases x with
 | none => rw [fin2_l]; exact Ev.ift e_none (Ev.now _)
 | some p =>
  refine Ev.iff (e_some p) ?_
  cases y with
  | none => exact Ev.ift e_none (Ev.now _)
  | some q => exact Ev.iff (e_some q) (Ev.now _)
theorem wo_ne {p q : Nat × Nat} (e : q.1 ≠ q.2) : wo p q = some p := by unfold wo; rw [if_neg e]
theorem rTest_ev (op : Int) {e : Bool} {a b : Int} {s : Sp} {e' : Bool} {a' b' : Int} {t : Sp} (h : Is e a b s) (k : Is e' a' b' t) : Ev (fun k => flyballref16_Test.f k op e a b e' a' b') (enc2 (testS op s t)) := by
 have w := h.wf
 have w' := k.wf
 unfold flyballref16_Test.f
 refine Ev.b _ (rn_ev h) (Ev.b _ (rn_ev k) ?_)
 cases s with
 | none =>
  have z : testS op none t = (none, none) := by cases t <;> rfl
  rw [z]
  refine Ev.ift e_none (Ev.next ?_)
  simp only [flyballref16_Test.j0]
  exact Ev.ift trivial (Ev.now _)
 | some p =>
  refine Ev.iff (e_some p) (Ev.next ?_)
  simp only [flyballref16_Test.j0]
  cases t with
  | none => exact Ev.ift e_none (Ev.now _)
  | some q =>
   have P := W2.of w
   have Q := W2.of w'
   refine Ev.iff (e_some q) ?_
   have q1 : (enc (some q)).2.1 = (q.1 : Int) := rfl
   have q2 : (enc (some q)).2.2 = (q.2 : Int) := rfl
   have p1 : (enc (some p)).2.1 = (p.1 : Int) := rfl
   have p2 : (enc (some p)).2.2 = (p.2 : Int) := rfl
   have K : Ev (fun k => flyballref16_Test.j1 k op op (op == 9 || op == 10) (enc (some p)).1 (enc (some p)).2.1 (enc (some p)).2.2 (enc (some q)).1 (enc (some q)).2.1 (enc (some q)).2.2 true 0 0 (enc (some p)).1 (enc (some p)).2.1 (enc (some p)).2.2 (enc (some q)).1 (enc (some q)).2.1 (enc (some q)).2.2) (enc2 (testS op (some p) (some q))) := by
    refine Ev.next ?_
    simp only [flyballref16_Test.j1]
    unfold testS
    dsimp only
    unfold tst
    by_cases c1 : op = 9 ∨ op = 10
    ·rw [if_pos c1]
     refine Ev.ift (by rcases c1 with rfl | rfl <;> rfl) ?_
     refine Ev.b _ (below_ev (Is.enc w) q.2 Q.f2 (op == 9)) (Ev.b _ (from_ev (Is.enc w') p.1 P.f1 (op == 9)) ?_)
     exact fin_ev _ _
    ·rw [if_neg c1]
     have n9 : (op == 9) = false := by rw [beq_eq_false_iff_ne]; omega
     have n10 : (op == 10) = false := by rw [beq_eq_false_iff_ne]; omega
     refine Ev.iff (by rw [n9, n10]; decide) ?_
     have L : Ev (fun k => flyballref16_Test.j2 k op op (op == 13 || op == 14) (enc (some p)).1 (enc (some p)).2.1 (enc (some p)).2.2 (enc (some q)).1 (enc (some q)).2.1 (enc (some q)).2.2 true 0 0 (enc (some p)).1 (enc (some p)).2.1 (enc (some p)).2.2 (enc (some q)).1 (enc (some q)).2.1 (enc (some q)).2.2)
       (enc2 (fin2 (if op = 13 ∨ op = 14 then (sideS (some p) q.1 true (op == 13), sideS (some q) p.2 false (op == 13)) else if op = 11 then (meet (some p) (some q), meet (some p) (some q)) else if op = 12 then (wo p q, wo q p) else (some p, some q)).1
        (if op = 13 ∨ op = 14 then (sideS (some p) q.1 true (op == 13), sideS (some q) p.2 false (op == 13)) else if op = 11 then (meet (some p) (some q), meet (some p) (some q)) else if op = 12 then (wo p q, wo q p) else (some p, some q)).2)) := by
      refine Ev.next ?_
      simp only [flyballref16_Test.j2]
      by_cases c2 : op = 13 ∨ op = 14
      ·rw [if_pos c2]
       refine Ev.ift (by rcases c2 with rfl | rfl <;> rfl) ?_
       refine Ev.b _ (from_ev (Is.enc w) q.1 Q.f1 (op == 13)) (Ev.b _ (below_ev (Is.enc w') p.2 P.f2 (op == 13)) ?_)
       exact fin_ev _ _
      ·rw [if_neg c2]
       have n13 : (op == 13) = false := by rw [beq_eq_false_iff_ne]; omega
       have n14 : (op == 14) = false := by rw [beq_eq_false_iff_ne]; omega
       refine Ev.iff (by rw [n13, n14]; decide) ?_
       by_cases c3 : op = 11
       ·rw [if_pos c3]
        refine Ev.ift c3 (Ev.b _ (rMeet_ev (Is.enc w) (Is.enc w')) ?_)
        generalize meet (some p) (some q) = z
        dsimp only
        cases z with
        | none => exact Ev.ift e_none (Ev.now _)
        | some z => exact Ev.iff (e_some z) (Ev.now _)
       ·rw [if_neg c3]
        refine Ev.iff c3 ?_
        by_cases c4 : op = 12
        ·rw [if_pos c4]
         refine Ev.ift c4 ?_
         have J3 : ∀ x : Sp, Ev (fun k => flyballref16_Test.j3 k (enc (some p)).1 (enc (some p)).2.1 (enc (some p)).2.2 (enc (some q)).1 (enc (some q)).2.1 (enc (some q)).2.2 true 0 0 (enc x).1 (enc x).2.1 (enc x).2.2 (enc (some q)).1 (enc (some q)).2.1 (enc (some q)).2.2) (enc2 (fin2 x (wo q p))) := by
          intro x
          refine Ev.next ?_
          simp only [flyballref16_Test.j3]
          by_cases c5 : p.1 = p.2
          ·refine Ev.ift (by rw [p1, p2, c5]) ?_
           exact Ev.b _ (rwo_ev Q P c5) (fin_ev x _)
          ·refine Ev.iff (by rw [p1, p2]; omega) ?_
           rw [wo_ne c5]
           exact fin_ev x (some q)
         by_cases c5 : q.1 = q.2
         ·refine Ev.ift (by rw [q1, q2, c5]) ?_
          exact Ev.b _ (rwo_ev P Q c5) (J3 _)
         ·refine Ev.iff (by rw [q1, q2]; omega) ?_
          rw [wo_ne c5]
          exact J3 (some p)
        ·rw [if_neg c4]
         exact Ev.iff c4 (fin_ev (some p) (some q))
     by_cases c5 : op = 13
     ·have e : (op == 13 || op == 14) = (op == 13) := by rw [c5]; rfl
      rw [e] at L
      exact Ev.ift c5 L
     ·have e : (op == 13 || op == 14) = (op == 14) := by rw [show (op == 13) = false from beq_eq_false_iff_ne.2 c5]; rfl
      rw [e] at L
      exact Ev.iff c5 L
   by_cases c5 : op = 9
   ·have e : (op == 9 || op == 10) = (op == 9) := by rw [c5]; rfl
    rw [e] at K
    exact Ev.ift c5 K
   ·have e : (op == 9 || op == 10) = (op == 10) := by rw [show (op == 9) = false from beq_eq_false_iff_ne.2 c5]; rfl
    rw [e] at K
    exact Ev.iff c5 K
theorem SpanTests (op : Int) (e1 : Bool) (a1 b1 : Int) (e2 : Bool) (a2 b2 : Int)
  (_h0 : (Lit.int .u8 op).wf = true) (h1 : (Lit.int .u64 a1).wf = true) (h2 : (Lit.int .u64 b1).wf = true) (h3 : (Lit.int .u64 a2).wf = true) (h4 : (Lit.int .u64 b2).wf = true) :
  ∃ k, flyballlaw16_SpanTests.f k op e1 a1 b1 e2 a2 b2 = some true := by
 obtain ⟨a, ha⟩ := Is.lit (e := e1) h1 h2
 obtain ⟨b, hb⟩ := Is.lit (e := e2) h3 h4
 refine Ev.ex (r := true) ?_
 unfold flyballlaw16_SpanTests.f
 refine Ev.b _ works16_ev (Ev.ift rfl ?_)
 refine Ev.b _ (sTest_ev op ha hb) (Ev.b _ (rTest_ev op ha hb) (Ev.ift (eq3 (enc (testS op a b).1)) (Ev.const ?_)))
 exact congrArg some (eq3 (enc (testS op a b).2))
end Go.Proofs.Ytmadjhmecfbcmaa.M
end
