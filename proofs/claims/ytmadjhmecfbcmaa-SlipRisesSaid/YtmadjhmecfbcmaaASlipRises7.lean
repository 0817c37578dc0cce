/- The walk of the law SlipRises and what it computes, part 7 of 7: no conditions. -/
import Derived.Test.YtmadjhmecfbcmaaASlipRises6
set_option linter.unusedVariables false
set_option linter.unusedSimpArgs false
section
namespace Go.Proofs.Ytmadjhmecfbcmaa.M
open Go.RowKit Go.Proofs.YtmadjhmecfbcmaaW.PrintWords Go.Proofs.YtmadjhmecfbcmaaW.PrintLast Go.Proofs.YtmadjhmecfbcmaaW.PrintMore Go.Proofs.Ytmadjhmecfbcmaa.F
theorem cap_le2 (X : Nat) (s : Bool) : cap X s 2 ≤ 9218868437227405311 := by
 by_cases c1 : 9218868437227405312 ≤ kk X s 2
 ·rw [cap_over c1, if_pos rfl]; exact Nat.le_refl _
 ·rw [cap_in c1]; omega
theorem ro_lt (n : Bool) (X : Nat) (s : Bool) : ro n X s 2 < 9218868437227405312 := by
 unfold ro; cases n
 ·rw [if_neg (by decide), show dir false 2 = 2 from rfl]; have := cap_le2 X s; omega
 ·rw [if_pos rfl]; omega
theorem ro_gt (n : Bool) (X : Nat) (s : Bool) : -9218868437227405312 < ro n X s 1 := by
 unfold ro; cases n
 ·rw [if_neg (by decide)]; omega
 ·rw [if_pos rfl, show dir true 1 = 2 from rfl]; have := cap_le2 X s; omega
theorem rq_lt (v : Int) (D : Nat) : rq v D 2 < 9218868437227405312 := ro_lt _ _ _
theorem rq_gt (v : Int) (D : Nat) : -9218868437227405312 < rq v D 1 := ro_gt _ _ _
theorem rq_mono2 {v w : Int} {D E : Nat} (m : Nat) (hD : 0 < D) (hE : 0 < E) (h : v * E ≤ w * D) : rq v D m ≤ rq w E m := by
 have key : ∀ {a b A B : Nat}, 0 < A → 0 < B → a * B ≤ b * A → a / A < b / B ∨ a / A = b / B ∧ (decide (a % A ≠ 0) = true → decide (b % B ≠ 0) = true) := by
  intro a b A B hA hB hab
  have h2 := Nat.div_add_mod a A
  have h3 := Nat.div_add_mod b B
  have h1 : a / A ≤ b / B := by
   rw [Nat.le_div_iff_mul_le hB]
   have k : a / A * B * A ≤ b * A := by
    have : a / A * A * B ≤ a * B := Nat.mul_le_mul_right _ (Nat.div_mul_le_self a A)
    have e : a / A * B * A = a / A * A * B := by rw [Nat.mul_assoc, Nat.mul_comm B, ← Nat.mul_assoc]
    omega
   exact Nat.le_of_mul_le_mul_right k hA
  by_cases e : a / A = b / B
  ·right
   refine ⟨e, ?_⟩
   rw [decide_eq_true_iff, decide_eq_true_iff]
   intro z z2
   rw [z2, Nat.add_zero] at h3
   rw [← e] at h3
   have k : a * B ≤ A * (a / A) * B := by
    have e2 : A * (a / A) * B = b * A := by rw [← h3]; rw [Nat.mul_comm A, Nat.mul_assoc, Nat.mul_comm A B, ← Nat.mul_assoc, Nat.mul_comm (a / A) B]
    omega
   have := Nat.le_of_mul_le_mul_right k hB
   omega
  ·left; omega
 apply ro_mono
 have pD : (0 : Int) < D := by omega
 have pE : (0 : Int) < E := by omega
 have ab : ∀ (x : Int) (N : Nat), (x.natAbs * N : Nat) = (x * N).natAbs := by intro x N; rw [Int.natAbs_mul]; rfl
 by_cases c1 : v < 0
 ·by_cases c2 : w < 0
  ·right; right
   refine ⟨decide_eq_true c1, decide_eq_true c2, key hE hD ?_⟩
   rw [ab, ab]
   have := Int.mul_neg_of_neg_of_pos c1 pE
   have := Int.mul_neg_of_neg_of_pos c2 pD
   omega
  ·left; exact ⟨decide_eq_true c1, decide_eq_false c2⟩
 ·right; left
  have h0 : 0 ≤ v * E := Int.mul_nonneg (by omega) (by omega)
  have c2 : ¬ w < 0 := by
   intro c2
   have := Int.mul_neg_of_neg_of_pos c2 pD
   omega
  refine ⟨decide_eq_false c1, decide_eq_false c2, key hD hE ?_⟩
  rw [ab, ab]
  have : 0 ≤ w * D := Int.mul_nonneg (by omega) (by omega)
  omega
theorem fin_iff {a : Nat} (h : Fl a) : cls a ≤ 2 ↔ -9218868437227405312 < ord a ∧ ord a < 9218868437227405312 := by
 have l := cls_le a
 have n := h.n
 constructor
 ·exact ord_fin a
 ·intro k
  by_cases c : cls a = 3
  ·have := ord_inf a c; split at this <;> omega
  ·omega
theorem inf_iff {a : Nat} (h : Fl a) : cls a = 3 ↔ ord a = 9218868437227405312 ∨ ord a = -9218868437227405312 := by
 constructor
 ·intro c; have := ord_inf a c; split at this <;> omega
 ·exact cls_inf a h.n
theorem sgn_neg {a : Nat} (h : ord a < 0) : sgn a = true := by
 cases s : sgn a
 ·have := ord_pos_ge a s; omega
 ·rfl
theorem sgn_pos {a : Nat} (h : 0 < ord a) : sgn a = false := by
 cases s : sgn a
 ·rfl
 ·have := ord_neg_le a s; omega
theorem sv_pos {a : Nat} : 0 < sv a ↔ 0 < ord a := by
 have o0 : ord 0 = 0 := by decide
 have s0 : sv 0 = 0 := by decide
 constructor
 ·intro h
  by_cases c : ord a ≤ ord 0
  ·have := sv_mono c; omega
  ·omega
 ·intro h
  by_cases c : sv a ≤ sv 0
  ·have := sv_ord c; omega
  ·omega
theorem sv_sgn {a b : Nat} : sv a ≤ sv b ↔ ord a ≤ ord b := ⟨sv_ord, sv_mono⟩
theorem sv0 : sv 0 = 0 := by decide
theorem add_lo {a b : Nat} (ha : Fl a) (hb : Fl b) (la : ord a < 9218868437227405312) (lb : ord b < 9218868437227405312) :
  Fl (sAdd a b 2).1 ∧ ord (sAdd a b 2).1 < 9218868437227405312 ∧ (ord a = -9218868437227405312 ∨ ord b = -9218868437227405312 → ord (sAdd a b 2).1 = -9218868437227405312) ∧
  (-9218868437227405312 < ord a → -9218868437227405312 < ord b → ord (sAdd a b 2).1 = rq (2 * (sv a + sv b)) 1 2) := by
 have n4 : ¬ (cls a = 4 ∨ cls b = 4) := by have := ha.n; have := hb.n; omega
 have ia := inf_iff ha
 have ib := inf_iff hb
 have ba := ha.bd
 have bb := hb.bd
 have n3 : ¬ (cls a = 3 ∧ cls b = 3 ∧ sgn a ≠ sgn b) := by
  rintro ⟨x, y, z⟩
  apply z
  rw [sgn_neg (a := a) (by omega), sgn_neg (a := b) (by omega)]
 have F : Fl (sAdd a b 2).1 := ⟨sAdd_U a b 2 ha.u hb.u, fun x => by
  rcases (cls_sAdd a b 2).1 x with h | h | h
  ·exact n4 (.inl h)
  ·exact n4 (.inr h)
  ·exact n3 h⟩
 refine ⟨F, ?_⟩
 by_cases c1 : cls a = 3
 ·rw [sAdd_infl 2 n4 n3 c1]; dsimp only; omega
 ·by_cases c2 : cls b = 3
  ·rw [sAdd_infr 2 n4 c1 c2]; dsimp only; omega
  ·have fa := (fin_iff ha).2 (by omega)
   have fb := (fin_iff hb).2 (by omega)
   have e := ord_sAdd a b 2 fa fb
   have := rq_lt (2 * (sv a + sv b)) 1
   omega
theorem add_hi {a b : Nat} (ha : Fl a) (hb : Fl b) (la : -9218868437227405312 < ord a) (lb : -9218868437227405312 < ord b) :
  Fl (sAdd a b 1).1 ∧ -9218868437227405312 < ord (sAdd a b 1).1 ∧ (ord a = 9218868437227405312 ∨ ord b = 9218868437227405312 → ord (sAdd a b 1).1 = 9218868437227405312) ∧
  (ord a < 9218868437227405312 → ord b < 9218868437227405312 → ord (sAdd a b 1).1 = rq (2 * (sv a + sv b)) 1 1) := by
 have n4 : ¬ (cls a = 4 ∨ cls b = 4) := by have := ha.n; have := hb.n; omega
 have ia := inf_iff ha
 have ib := inf_iff hb
 have ba := ha.bd
 have bb := hb.bd
 have n3 : ¬ (cls a = 3 ∧ cls b = 3 ∧ sgn a ≠ sgn b) := by
  rintro ⟨x, y, z⟩
  apply z
  rw [sgn_pos (a := a) (by omega), sgn_pos (a := b) (by omega)]
 have F : Fl (sAdd a b 1).1 := ⟨sAdd_U a b 1 ha.u hb.u, fun x => by
  rcases (cls_sAdd a b 1).1 x with h | h | h
  ·exact n4 (.inl h)
  ·exact n4 (.inr h)
  ·exact n3 h⟩
 refine ⟨F, ?_⟩
 by_cases c1 : cls a = 3
 ·rw [sAdd_infl 1 n4 n3 c1]; dsimp only; omega
 ·by_cases c2 : cls b = 3
  ·rw [sAdd_infr 1 n4 c1 c2]; dsimp only; omega
  ·have fa := (fin_iff ha).2 (by omega)
   have fb := (fin_iff hb).2 (by omega)
   have e := ord_sAdd a b 1 fa fb
   have := rq_gt (2 * (sv a + sv b)) 1
   omega
def tms (a b m : Nat) : Nat := if cls a = 0 ∨ cls b = 0 then 0 else (sMul a b m).1
theorem tms_fl {a b : Nat} (ha : Fl a) (hb : Fl b) (m : Nat) : Fl (tms a b m) := by
 unfold tms
 by_cases c : cls a = 0 ∨ cls b = 0
 ·rw [if_pos c]; exact Fl0
 ·rw [if_neg c]
  have n4 : ¬ (cls a = 4 ∨ cls b = 4) := by have := ha.n; have := hb.n; omega
  have n0 : ¬ (cls a = 3 ∧ cls b = 0 ∨ cls a = 0 ∧ cls b = 3) := by omega
  refine ⟨sMul_U a b m, ?_⟩
  by_cases c3 : cls a = 3 ∨ cls b = 3
  ·rw [sMul_inf m n4 n0 c3]
   have := cls_sg (sgn a != sgn b) INF (by decide)
   dsimp only; omega
  ·have la := cls_le a
   have lb := cls_le b
   rw [sMul_fin m (by omega) (by omega)]
   split
   ·dsimp only; rw [cls_sg0]; decide
   ·have := cls_RND (sgn a != sgn b) (mg a * mg b / 2 ^ 1073) (decide (mg a * mg b % 2 ^ 1073 ≠ 0)) m
    omega
theorem tms_zero {a b : Nat} (m : Nat) (h : ord a = 0 ∨ ord b = 0) : ord (tms a b m) = 0 := by
 unfold tms; rw [if_pos (by rw [← ord_zero, ← ord_zero]; exact h)]; exact ord0
theorem tms_inf {a b : Nat} (ha : Fl a) (hb : Fl b) (m : Nat) (h : ord a = 9218868437227405312 ∨ ord a = -9218868437227405312 ∨ ord b = 9218868437227405312 ∨ ord b = -9218868437227405312) :
  (0 < ord a ∧ 0 < ord b ∨ ord a < 0 ∧ ord b < 0 → ord (tms a b m) = 9218868437227405312) ∧ (0 < ord a ∧ ord b < 0 ∨ ord a < 0 ∧ 0 < ord b → ord (tms a b m) = -9218868437227405312) := by
 have n4 : ¬ (cls a = 4 ∨ cls b = 4) := by have := ha.n; have := hb.n; omega
 have ia := inf_iff ha
 have ib := inf_iff hb
 have za := ord_zero a
 have zb := ord_zero b
 have key : ord a ≠ 0 → ord b ≠ 0 → ord (tms a b m) = if sgn a != sgn b then -9218868437227405312 else 9218868437227405312 := by
  intro h1 h2
  unfold tms
  rw [if_neg (by omega), sMul_inf m n4 (by omega) (by omega)]
  dsimp only; rw [ord_INF]
 refine ⟨?_, ?_⟩
 ·rintro (⟨h1, h2⟩ | ⟨h1, h2⟩)
  ·rw [key (by omega) (by omega), sgn_pos h1, sgn_pos h2]; decide
  ·rw [key (by omega) (by omega), sgn_neg h1, sgn_neg h2]; decide
 ·rintro (⟨h1, h2⟩ | ⟨h1, h2⟩)
  ·rw [key (by omega) (by omega), sgn_pos h1, sgn_neg h2]; decide
  ·rw [key (by omega) (by omega), sgn_neg h1, sgn_pos h2]; decide
theorem tms_fin {a b : Nat} (ha : Fl a) (hb : Fl b) (m : Nat) (a1 : -9218868437227405312 < ord a) (a2 : ord a < 9218868437227405312) (b1 : -9218868437227405312 < ord b) (b2 : ord b < 9218868437227405312) :
  ord (tms a b m) = rq (sv a * sv b) (2 ^ 1073) m := by
 have fa := (fin_iff ha).2 ⟨a1, a2⟩
 have fb := (fin_iff hb).2 ⟨b1, b2⟩
 by_cases c : cls a = 0 ∨ cls b = 0
 ·have z : sv a * sv b = 0 := by
   rcases c with c | c
   ·rw [(sv_zero a).2 c, Int.zero_mul]
   ·rw [(sv_zero b).2 c, Int.mul_zero]
  rw [z, rq_zero]
  exact tms_zero m (by rw [ord_zero, ord_zero]; exact c)
 ·unfold tms; rw [if_neg c]; exact ord_sMul a b m fa fb
theorem tms_comm (a b m : Nat) : tms a b m = tms b a m := by
 unfold tms; rw [sMul_comm]
 congr 1
 exact propext ⟨Or.symm, Or.symm⟩
theorem tms_mono {a c b : Nat} (ha : Fl a) (hc : Fl c) (hb : Fl b) (m : Nat) (h : ord a ≤ ord c) (s : 0 ≤ ord b) : ord (tms a b m) ≤ ord (tms c b m) := by
 have ba := ha.bd
 have bc := hc.bd
 have bb := hb.bd
 have r1 := (tms_fl ha hb m).bd
 have r2 := (tms_fl hc hb m).bd
 have z1 := tms_zero (a := a) (b := b) m
 have z2 := tms_zero (a := c) (b := b) m
 have i1 := tms_inf ha hb m
 have i2 := tms_inf hc hb m
 by_cases fin : -9218868437227405312 < ord a ∧ ord c < 9218868437227405312 ∧ ord b < 9218868437227405312
 ·rw [tms_fin ha hb m (by omega) (by omega) (by omega) (by omega), tms_fin hc hb m (by omega) (by omega) (by omega) (by omega)]
  apply rq_mono
  exact Int.mul_le_mul_of_nonneg_right (sv_mono h) (by have := sv_mono (a := 0) (b := b) (by rw [ord0]; exact s); rw [sv0] at this; exact this)
 ·omega
theorem FXS_den (A B T : Nat) (E : Int) (r : Bool) : FX A (B * 2 ^ T) (E + T) = FX A B E ∧ FS A (B * 2 ^ T) (E + T) r = FS A B E r := by
 have key : ∃ u, FN A (E + T) = 2 ^ u * FN A E ∧ FD (B * 2 ^ T) (E + T) = 2 ^ u * FD B E := by
  refine ⟨(E + T + 1075).toNat - (E + 1075).toNat, ?_, ?_⟩
  ·unfold FN
   rw [Nat.mul_left_comm, ← Nat.pow_add]; congr 2; omega
  ·unfold FD
   rw [Nat.mul_assoc, ← Nat.pow_add, Nat.mul_left_comm, ← Nat.pow_add]; congr 2; omega
 obtain ⟨u, k1, k2⟩ := key
 unfold FX FS
 rw [k1, k2, Nat.mul_div_mul_left _ _ (two_pos u), Nat.mul_mod_mul_left]
 refine ⟨rfl, ?_⟩
 congr 2
 rw [Ne, Nat.mul_eq_zero, eq_iff_iff]
 have := two_pos u
 constructor
 ·intro h1 h2; exact h1 (.inr h2)
 ·rintro h1 (h2 | h2)
  ·omega
  ·exact h1 h2
theorem FX_div (a b : Nat) (ca : cls a ≤ 2) (cb : cls b ≤ 2) : FX (spm a) (spm b) (spe a - spe b) = mg a * 2 ^ 1075 / mg b ∧ FS (spm a) (spm b) (spe a - spe b) false = decide (mg a * 2 ^ 1075 % mg b ≠ 0) := by
 have ha := spe_bd a
 have hb := spe_bd b
 have S := FXS_scale (spm a) (spm b) (spe a + 1074).toNat (spe a - spe b) false
 have T := FXS_den (spm a * 2 ^ (spe a + 1074).toNat) (spm b) (spe b + 1074).toNat (spe a - spe b - (spe a + 1074).toNat) false
 have e2 : spe a - spe b - ((spe a + 1074).toNat : Int) + ((spe b + 1074).toNat : Int) = 0 := by omega
 rw [e2, ← mg_split a ca, ← mg_split b cb] at T
 rw [← mg_split a ca] at S
 rw [← S.1, ← S.2, ← T.1, ← T.2]
 unfold FX FS FN FD
 have e3 : ((0 : Int) + 1075).toNat = 1075 := by decide
 have e4 : (-((0 : Int) + 1075)).toNat = 0 := by decide
 rw [e3, e4, Nat.pow_zero, Nat.mul_one, Bool.false_or]
 generalize (2 : Nat) ^ 1075 = T
 exact ⟨rfl, rfl⟩
theorem sDiv_fin {a b : Nat} (m : Nat) (ca : cls a = 1 ∨ cls a = 2) (cb : cls b = 1 ∨ cls b = 2) :
  sDiv a b m = RND (sgn a != sgn b) (mg a * 2 ^ 1075 / mg b) (decide (mg a * 2 ^ 1075 % mg b ≠ 0)) m := by
 have F := FX_div a b (by omega) (by omega)
 unfold sDiv
 rw [if_neg (by omega), if_neg (by omega), if_neg (by omega), if_neg (by omega), if_neg (by omega), F.1, F.2]
theorem natAbs_pow (v : Int) (n : Nat) : (v * 2 ^ n).natAbs = v.natAbs * 2 ^ n := by rw [Int.natAbs_mul, Int.natAbs_pow]; rfl
theorem mul_neg_iff (v : Int) (n : Nat) : v * 2 ^ n < 0 ↔ v < 0 := by
 have p2 : (0 : Int) < 2 ^ n := Int.pow_pos (by decide)
 constructor
 ·intro h
  by_cases c : 0 ≤ v
  ·have := Int.mul_nonneg c (Int.le_of_lt p2); omega
  ·omega
 ·intro h; exact Int.mul_neg_of_neg_of_pos h p2
theorem sv_abs (a : Nat) : (sv a).natAbs = mg a := by unfold sv; split <;> omega
theorem ord_sDiv (a b m : Nat) (ca : cls a = 1 ∨ cls a = 2) (cb : cls b = 1 ∨ cls b = 2) (hb : sgn b = false) : ord (sDiv a b m).1 = rq (sv a * 2 ^ 1075) (mg b) m := by
 rw [sDiv_fin m ca cb, ord_RND, hb]
 have e : (sgn a != false) = sgn a := by cases sgn a <;> rfl
 rw [e]
 have hp : 0 < mg a := Nat.pos_of_ne_zero (fun h => by rw [mg_zero] at h; omega)
 have hd : decide (sv a < 0) = sgn a := by
  unfold sv
  cases sgn a
  ·rw [if_neg (by decide), decide_eq_false_iff_not]; omega
  ·rw [if_pos rfl, decide_eq_true_iff]; omega
 unfold rq ro
 rw [natAbs_pow, sv_abs, show decide (sv a * 2 ^ 1075 < 0) = decide (sv a < 0) from decide_eq_decide.2 (mul_neg_iff _ _), hd]
def ov (a b m : Nat) : Nat := if cls a = 0 then 0 else if cls a = 3 ∨ cls b = 0 then (if sgn a then NINF else INF) else if cls b = 3 then 0 else (sDiv a b m).1
theorem sDiv_U (a b m : Nat) : U (sDiv a b m).1 := by
 unfold sDiv
 (repeat' split)
 ·decide
 ·decide
 ·unfold U sg INF; split <;> omega
 ·unfold U sg INF; split <;> omega
 ·unfold U sg; dsimp only; split <;> omega
 ·exact U_RND _ _ _ _
theorem ov_spec {a b : Nat} (ha : Fl a) (hb : Fl b) (s : 0 ≤ ord b) (m : Nat) : Fl (ov a b m) ∧ (ord a = 0 → ord (ov a b m) = 0) ∧
  (ord a = 9218868437227405312 ∨ ord a = -9218868437227405312 ∨ ord b = 0 → (0 < ord a → ord (ov a b m) = 9218868437227405312) ∧ (ord a < 0 → ord (ov a b m) = -9218868437227405312)) ∧
  (-9218868437227405312 < ord a → ord a < 9218868437227405312 → ord b = 9218868437227405312 → ord (ov a b m) = 0) ∧
  (-9218868437227405312 < ord a → ord a < 9218868437227405312 → 0 < ord b → ord b < 9218868437227405312 → ord (ov a b m) = rq (sv a * 2 ^ 1075) (mg b) m) := by
 have ia := inf_iff ha
 have ib := inf_iff hb
 have fa := fin_iff ha
 have fb := fin_iff hb
 have za := ord_zero a
 have zb := ord_zero b
 have la := cls_le a
 have lb := cls_le b
 have na := ha.n
 have nb := hb.n
 unfold ov
 by_cases c0 : cls a = 0
 ·rw [if_pos c0]
  have o := za.2 c0
  refine ⟨Fl0, fun _ => ord0, fun _ => ⟨fun h => by omega, fun h => by omega⟩, fun _ _ _ => ord0, fun _ _ _ _ => ?_⟩
  rw [(sv_zero a).2 c0, Int.zero_mul, rq_zero]; exact ord0
 ·rw [if_neg c0]
  by_cases c1 : cls a = 3 ∨ cls b = 0
  ·rw [if_pos c1]
   refine ⟨by split; exact FlNINF; exact FlINF, fun h => by omega, fun _ => ⟨fun h => ?_, fun h => ?_⟩, fun _ _ _ => by omega, fun _ _ _ _ => by omega⟩
   ·rw [sgn_pos h, if_neg (by decide)]; exact oINF
   ·rw [sgn_neg h, if_pos rfl]; exact oNINF
  ·rw [if_neg c1]
   by_cases c2 : cls b = 3
   ·rw [if_pos c2]
    exact ⟨Fl0, fun _ => ord0, fun h => by omega, fun _ _ _ => ord0, fun _ _ _ _ => by omega⟩
   ·rw [if_neg c2]
    have hs : sgn b = false := by
     cases s' : sgn b
     ·rfl
     ·have := ord_neg_le b s'; omega
    have R := ord_sDiv a b m (by omega) (by omega) hs
    refine ⟨⟨sDiv_U a b m, ?_⟩, fun h => by omega, fun h => by omega, fun _ _ _ => by omega, fun _ _ _ _ => R⟩
    rw [sDiv_fin m (by omega) (by omega)]
    have := cls_RND (sgn a != sgn b) (mg a * 2 ^ 1075 / mg b) (decide (mg a * 2 ^ 1075 % mg b ≠ 0)) m
    omega
theorem mg_pos {b : Nat} (h : 0 < ord b) : 0 < mg b ∧ (mg b : Int) = sv b := by
 have := (sv_pos (a := b)).2 h
 unfold sv at this ⊢
 rw [sgn_pos h] at this ⊢
 rw [if_neg (by decide)] at this ⊢
 exact ⟨by omega, rfl⟩
theorem p1075 : (0 : Int) < 2 ^ 1075 := Int.pow_pos (by decide)
theorem rq_sign {v : Int} (D m : Nat) : (0 ≤ v → 0 ≤ rq v D m) ∧ (v ≤ 0 → rq v D m ≤ 0) := by
 refine ⟨fun h => ?_, fun h => ?_⟩
 ·have := rq_mono D m h; rw [rq_zero] at this; exact this
 ·have := rq_mono D m h; rw [rq_zero] at this; exact this
theorem sv_le0 {a : Nat} : sv a ≤ 0 ↔ ord a ≤ 0 := by have := sv_sgn (a := a) (b := 0); rw [sv0, ord0] at this; exact this
theorem sv_ge0 {a : Nat} : 0 ≤ sv a ↔ 0 ≤ ord a := by have := sv_sgn (a := 0) (b := a); rw [sv0, ord0] at this; exact this
theorem ov_mono {a c b : Nat} (ha : Fl a) (hc : Fl c) (hb : Fl b) (s : 0 ≤ ord b) (m : Nat) (h : ord a ≤ ord c) : ord (ov a b m) ≤ ord (ov c b m) := by
 obtain ⟨f1, s1⟩ := ov_spec ha hb s m
 obtain ⟨f2, s2⟩ := ov_spec hc hb s m
 have ba := ha.bd
 have bc := hc.bd
 have bb := hb.bd
 have r1 := f1.bd
 have r2 := f2.bd
 have d := rq_mono (mg b) m (Int.mul_le_mul_of_nonneg_right (sv_mono h) (Int.le_of_lt p1075))
 omega
theorem ov_den {a b c : Nat} (ha : Fl a) (hb : Fl b) (hc : Fl c) (s : 0 ≤ ord b) (m : Nat) (h : ord b ≤ ord c) :
  (0 ≤ ord a → ord (ov a c m) ≤ ord (ov a b m)) ∧ (ord a ≤ 0 → ord (ov a b m) ≤ ord (ov a c m)) := by
 obtain ⟨f1, s1⟩ := ov_spec ha hb s m
 obtain ⟨f2, s2⟩ := ov_spec ha hc (by omega) m
 have ba := ha.bd
 have bc := hc.bd
 have bb := hb.bd
 have r1 := f1.bd
 have r2 := f2.bd
 have g1 := rq_sign (v := sv a * 2 ^ 1075) (mg b) m
 by_cases fin : -9218868437227405312 < ord a ∧ ord a < 9218868437227405312 ∧ 0 < ord b ∧ ord c < 9218868437227405312
 ·have pb := mg_pos (b := b) (by omega)
  have pc := mg_pos (b := c) (by omega)
  have hs := sv_mono h
  rw [s1.2.2.2 (by omega) (by omega) (by omega) (by omega), s2.2.2.2 (by omega) (by omega) (by omega) (by omega)]
  refine ⟨fun k => ?_, fun k => ?_⟩
  ·apply rq_mono2 m pc.1 pb.1
   rw [pc.2, pb.2]
   exact Int.mul_le_mul_of_nonneg_left hs (Int.mul_nonneg (sv_ge0.2 k) (Int.le_of_lt p1075))
  ·apply rq_mono2 m pb.1 pc.1
   rw [pc.2, pb.2]
   have := Int.mul_le_mul_of_nonneg_left hs (show 0 ≤ -(sv a * 2 ^ 1075) by
    have := Int.mul_nonneg (show 0 ≤ -sv a by have := sv_le0.2 k; omega) (Int.le_of_lt p1075)
    rw [Int.neg_mul] at this; exact this)
   rw [Int.neg_mul, Int.neg_mul] at this
   omega
 ·have g2 : 0 ≤ ord a → 0 ≤ sv a * 2 ^ 1075 := fun k => Int.mul_nonneg (sv_ge0.2 k) (Int.le_of_lt p1075)
  have g3 : ord a ≤ 0 → sv a * 2 ^ 1075 ≤ 0 := fun k => by
   have := Int.mul_nonneg (show 0 ≤ -sv a by have := sv_le0.2 k; omega) (Int.le_of_lt p1075)
   rw [Int.neg_mul] at this; omega
  generalize sv a * 2 ^ 1075 = v at *
  generalize rq v (mg b) m = x at *
  generalize rq v (mg c) m = y at *
  refine ⟨fun k => ?_, fun k => ?_⟩
  ·have := g1.1 (g2 k); omega
  ·have := g1.2 (g3 k); omega
def abv (p : Nat × Nat) (lo hi : Nat) : Sp := cornP (ov p.1 lo 2) (ov p.1 lo 1) (ov p.1 hi 2) (ov p.1 hi 1) (ov p.2 lo 2) (ov p.2 lo 1) (ov p.2 hi 2) (ov p.2 hi 1)
def divS : Sp → Sp → Sp
 | some p, some q => join (if 0 < ord q.2 then abv p (hr q.1 0) q.2 else none) (if ord q.1 < 0 then neg (abv p (nz (ng (lw q.2 0))) (nz (ng q.1))) else none)
 | _, _ => none
end Go.Proofs.Ytmadjhmecfbcmaa.M
end
section
namespace Go.Proofs.Ytmadjhmecfbcmaa.M
open Go.RowKit Go.Proofs.YtmadjhmecfbcmaaW.PrintWords Go.Proofs.YtmadjhmecfbcmaaW.PrintLast Go.Proofs.YtmadjhmecfbcmaaW.PrintMore Go.Proofs.Ytmadjhmecfbcmaa.F
def sub : Sp → Sp → Prop
 | none, _ => True
 | some _, none => False
 | some p, some q => ord q.1 ≤ ord p.1 ∧ ord p.2 ≤ ord q.2
theorem sub_refl (s : Sp) : sub s s := by
 cases s with
 | none => trivial
 | some p => exact ⟨Int.le_refl _, Int.le_refl _⟩
theorem sub_join {s t u v : Sp} (h : sub s u) (k : sub t v) : sub (join s t) (join u v) := by
 cases s with
 | none =>
  cases t with
  | none => trivial
  | some q =>
   cases v with
   | none => exact k.elim
   | some y =>
    obtain ⟨k1, k2⟩ := k
    cases u with
    | none => exact ⟨k1, k2⟩
    | some x =>
     have a := lw_spec x.1 y.1
     have b := hr_spec x.2 y.2
     exact ⟨by dsimp only; omega, by dsimp only; omega⟩
 | some p =>
  cases u with
  | none => exact h.elim
  | some x =>
   obtain ⟨h1, h2⟩ := h
   cases t with
   | none =>
    cases v with
    | none => exact ⟨h1, h2⟩
    | some y =>
     have a := lw_spec x.1 y.1
     have b := hr_spec x.2 y.2
     exact ⟨by dsimp only; omega, by dsimp only; omega⟩
   | some q =>
    cases v with
    | none => exact k.elim
    | some y =>
     obtain ⟨k1, k2⟩ := k
     have a := lw_spec x.1 y.1
     have b := hr_spec x.2 y.2
     have c := lw_spec p.1 q.1
     have d := hr_spec p.2 q.2
     exact ⟨by dsimp only; omega, by dsimp only; omega⟩
theorem sub_none (s : Sp) : sub none s := trivial
theorem sub_l (s t : Sp) : sub s (join s t) := by
 have := sub_join (sub_refl s) (sub_none t)
 rw [join_none] at this; exact this
theorem abs_ok {p : Nat × Nat} (h : W2 p) : ∃ r, absS (some p) = some r ∧ W2 r ∧ 0 ≤ ord r.1 ∧ (0 ≤ ord p.1 → ord r.1 = ord p.1 ∧ ord r.2 = ord p.2) ∧ (ord p.1 < 0 → ord p.2 ≤ 0 → ord r.1 = -ord p.2 ∧ ord r.2 = -ord p.1) ∧
  (ord p.1 < 0 → 0 < ord p.2 → ord r.1 = 0 ∧ (ord r.2 = -ord p.1 ∨ ord r.2 = ord p.2) ∧ -ord p.1 ≤ ord r.2 ∧ ord p.2 ≤ ord r.2) := by
 unfold absS
 dsimp only
 by_cases c1 : 0 ≤ ord p.1
 ·rw [if_pos c1]; exact ⟨p, rfl, h, c1, fun _ => ⟨rfl, rfl⟩, fun x => by omega, fun x => by omega⟩
 ·rw [if_neg c1]
  by_cases c2 : ord p.2 ≤ 0
  ·rw [if_pos c2]
   obtain ⟨e, w⟩ := h.neg
   refine ⟨_, e, w, ?_, fun x => by omega, fun _ _ => ?_, fun _ x => by omega⟩
   ·dsimp only; rw [nz_ord, h.f2.ng_ord]; omega
   ·dsimp only; rw [nz_ord, h.f2.ng_ord, nz_ord, h.f1.ng_ord]; exact ⟨rfl, rfl⟩
  ·rw [if_neg c2]
   obtain ⟨e, w⟩ := h.abs3 (by omega) (by omega)
   have s := hr_spec (ng p.1) p.2
   rw [h.f1.ng_ord] at s
   refine ⟨_, e, w, ?_, fun x => by omega, fun _ x => by omega, fun _ _ => ?_⟩
   ·dsimp only; rw [ord0]; omega
   ·dsimp only; rw [ord0, nz_ord]; exact ⟨rfl, by omega, by omega, by omega⟩
theorem abs_sub {s u : Sp} (hs : WF s) (hu : WF u) (h : sub s u) : sub (absS s) (absS u) := by
 cases s with
 | none => trivial
 | some p => cases u with
  | none => exact h.elim
  | some x =>
   have p' := W2.of hs
   have x' := W2.of hu
   have op := p'.o
   obtain ⟨h1, h2⟩ := h
   obtain ⟨r, e, _, a⟩ := abs_ok p'
   obtain ⟨r', e', _, a'⟩ := abs_ok x'
   rw [e, e']
   refine ⟨?_, ?_⟩ <;> omega
end Go.Proofs.Ytmadjhmecfbcmaa.M
end
section
namespace Go.Proofs.Ytmadjhmecfbcmaa.M
open Go.RowKit Go.Proofs.YtmadjhmecfbcmaaW.PrintWords Go.Proofs.YtmadjhmecfbcmaaW.PrintLast Go.Proofs.YtmadjhmecfbcmaaW.PrintMore Go.Proofs.Ytmadjhmecfbcmaa.F
theorem Ev.ift {α : Type} {c : Prop} [Decidable c] {g f : Nat → Option α} {r : α} (h : c) (k : Ev g r) : Ev (fun n => if c then g n else f n) r := Ev.congr (fun _ => if_pos h) k
theorem Ev.iff {α : Type} {c : Prop} [Decidable c] {g f : Nat → Option α} {r : α} (h : ¬ c) (k : Ev f r) : Ev (fun n => if c then g n else f n) r := Ev.congr (fun _ => if_neg h) k
theorem e_none : (enc none).1 = true := rfl
theorem e_some (p : Nat × Nat) : ¬ (enc (some p)).1 = true := by show ¬ false = true; decide
def Is (e : Bool) (a b : Int) (s : Sp) : Prop := ∃ lo hi : Nat, U lo ∧ U hi ∧ a = lo ∧ b = hi ∧ norm e lo hi = s
theorem Is.wf {e : Bool} {a b : Int} {s : Sp} (h : Is e a b s) : WF s := by
 obtain ⟨lo, hi, h1, h2, _, _, rfl⟩ := h; exact norm_WF e lo hi h1 h2
theorem Is.raw (e : Bool) {lo hi : Nat} (h1 : U lo) (h2 : U hi) : Is e lo hi (norm e lo hi) := ⟨lo, hi, h1, h2, rfl, rfl, rfl⟩
theorem Is.enc {s : Sp} (h : WF s) : Is (enc s).1 (enc s).2.1 (enc s).2.2 s := by
 cases s with
 | none => exact ⟨0, 0, by decide, by decide, rfl, rfl, by unfold norm; rw [if_pos (.inl rfl)]⟩
 | some p => exact ⟨p.1, p.2, h.1, h.2.1, rfl, rfl, norm_id h⟩
theorem sn_ev {e : Bool} {a b : Int} {s : Sp} (h : Is e a b s) : Ev (fun k => span_norm.f k e a b) (enc s) := by
 obtain ⟨lo, hi, h1, h2, rfl, rfl, rfl⟩ := h; exact snorm_ev e lo hi h1 h2
theorem less_m {a b : Nat} (ha : Fl a) (hb : Fl b) : less a b = decide (ord a < ord b) := by
 unfold less; rw [decide_eq_decide]; exact ⟨fun h => h.2.2, fun h => ⟨ha.n, hb.n, h⟩⟩
theorem Max_ev {a b : Nat} (ha : Fl a) (hb : Fl b) : Ev (fun k => pattern_Max.f k [(a : Int), (b : Int)]) ((hr a b : Nat) : Int) := by
 unfold pattern_Max.f
 dsimp only
 refine Ev.b _ (nan_ev a ha.u) (Ev.iff (by rw [decide_eq_true_iff]; exact ha.n) ?_)
 refine Ev.b _ (Less_ev a a ha.u ha.u) (Ev.b _ (nan_ev b hb.u) (Ev.iff (by rw [decide_eq_true_iff]; exact hb.n) ?_))
 refine Ev.b _ (Less_ev a b ha.u hb.u) (Ev.const ?_)
 rw [less_m ha hb]
 unfold hr
 by_cases c : ord a < ord b
 ·rw [decide_eq_true c, if_pos rfl, if_pos c]
 ·rw [decide_eq_false c, if_neg (by decide), if_neg c]
theorem Min_ev {a b : Nat} (ha : Fl a) (hb : Fl b) : Ev (fun k => pattern_Min.f k [(a : Int), (b : Int)]) ((lw a b : Nat) : Int) := by
 unfold pattern_Min.f
 dsimp only
 refine Ev.b _ (nan_ev a ha.u) (Ev.iff (by rw [decide_eq_true_iff]; exact ha.n) ?_)
 refine Ev.b _ (Less_ev a a ha.u ha.u) (Ev.b _ (nan_ev b hb.u) (Ev.iff (by rw [decide_eq_true_iff]; exact hb.n) ?_))
 refine Ev.b _ (Less_ev b a hb.u ha.u) (Ev.const ?_)
 rw [less_m hb ha]
 unfold lw
 by_cases c : ord b < ord a
 ·rw [decide_eq_true c, if_pos rfl, if_pos c]
 ·rw [decide_eq_false c, if_neg (by decide), if_neg c]
theorem sMake_W2 {p : Nat × Nat} (h : W2 p) : Ev (fun k => span_Make.f k (p.1 : Int) (p.2 : Int)) (enc (some p)) := by
 have := sMake_ev p.1 p.2 h.u1 h.u2
 rw [h.norm] at this; exact this
theorem Join_step {L : List S43} {n i : Int} {e : Bool} {a b : Int} {s t : Sp} {r : Bool × Int × Int} (hs : WF s) (h0 : i < n) (h1 : 0 ≤ i) (h2 : i < (L.length : Int)) (hi : i < 1000) (ge : (rd_T43 L i).f0 = e) (ga : (rd_T43 L i).f1 = a) (gb : (rd_T43 L i).f2 = b) (h : Is e a b t)
  (K : Ev (fun k => span_Join.l0 k L n (i + 1) (enc (join s t)).1 (enc (join s t)).2.1 (enc (join s t)).2.2) r) :
  Ev (fun k => span_Join.l0 k L n i (enc s).1 (enc s).2.1 (enc s).2.2) r := by
 have w := h.wf
 have wi : wrap64 (i + 1) = i + 1 := w64 (by omega) (by omega)
 refine Ev.next ?_
 simp only [span_Join.l0]
 refine Ev.ift h0 (Ev.ift h1 (Ev.ift h2 ?_))
 rw [ge, ga, gb, wi]
 refine Ev.b _ (sn_ev h) ?_
 cases t with
 | none =>
  refine Ev.ift e_none ?_
  rw [join_none] at K
  exact K
 | some q =>
  refine Ev.iff (e_some q) ?_
  cases s with
  | none => exact Ev.ift e_none K
  | some p =>
   refine Ev.iff (e_some p) ?_
   have hp := W2.of hs
   have hq := W2.of w
   refine Ev.b _ (Min_ev hp.f1 hq.f1) (Ev.b _ (Max_ev hp.f2 hq.f2) ?_)
   have M := sMake_W2 (hp.join hq)
   have ej : join (some p) (some q) = some (lw p.1 q.1, hr p.2 q.2) := rfl
   rw [ej] at K
   dsimp only at M
   exact Ev.b _ M K
theorem Join_end {L : List S43} {n i : Int} {s : Sp} (h : ¬ i < n) : Ev (fun k => span_Join.l0 k L n i (enc s).1 (enc s).2.1 (enc s).2.2) (enc s) := by
 refine Ev.next ?_
 simp only [span_Join.l0]
 exact Ev.iff h (Ev.now _)
theorem Join1_ev {e : Bool} {a b : Int} {s : Sp} (h : Is e a b s) : Ev (fun k => span_Join.f k [⟨e, a, b⟩]) (enc s) := by
 unfold span_Join.f
 refine Ev.b (enc none) (Ev.now _) ?_
 refine Join_step (s := none) trivial (by simp) (by decide) (by simp) (by decide) rfl rfl rfl h ?_
 exact Join_end (by simp)
theorem Join2_ev {e : Bool} {a b : Int} {s : Sp} {e' : Bool} {a' b' : Int} {t : Sp} (h : Is e a b s) (k : Is e' a' b' t) : Ev (fun k => span_Join.f k [⟨e, a, b⟩, ⟨e', a', b'⟩]) (enc (join s t)) := by
 unfold span_Join.f
 refine Ev.b (enc none) (Ev.now _) ?_
 refine Join_step (s := none) trivial (by simp) (by decide) (by simp) (by decide) rfl rfl rfl h ?_
 refine Join_step (s := s) h.wf (by simp) (by decide) (by simp) (by decide) rfl rfl rfl k ?_
 exact Join_end (by simp)
theorem sNeg_ev {e : Bool} {a b : Int} {s : Sp} (h : Is e a b s) : Ev (fun k => span_Neg.f k e a b) (enc (neg s)) := by
 have w := h.wf
 unfold span_Neg.f
 refine Ev.b _ (sn_ev h) ?_
 cases s with
 | none => exact Ev.ift e_none (Ev.now _)
 | some p =>
  have w := W2.of w
  refine Ev.iff (e_some p) ?_
  exact Ev.b _ (Neg_ev p.2 w.u2) (Ev.b _ (Neg_ev p.1 w.u1) (Ev.b _ (sMake_ev _ _ (ng_U _ w.u2) (ng_U _ w.u1)) (Ev.now _)))
theorem sAbs_ev {e : Bool} {a b : Int} {s : Sp} (h : Is e a b s) : Ev (fun k => span_Abs.f k e a b) (enc (absS s)) := by
 have w := h.wf
 unfold span_Abs.f
 refine Ev.b _ (sn_ev h) ?_
 cases s with
 | none =>
  refine Ev.ift e_none (Ev.next ?_)
  simp only [span_Abs.j0]
  exact Ev.ift e_none (Ev.now _)
 | some p =>
  have v := W2.of w
  refine Ev.iff (e_some p) ?_
  refine Ev.b _ (atMost_ev 0 p.1 (by decide) v.u1) (Ev.next ?_)
  simp only [span_Abs.j0]
  have l0 := le_iff Fl0.n v.n1
  have l1 := le_iff v.n2 Fl0.n
  rw [ord0] at l0 l1
  unfold absS
  dsimp only
  by_cases c1 : 0 ≤ ord p.1
  ·rw [if_pos c1]
   exact Ev.ift (l0.2 c1) (Ev.now _)
  ·rw [if_neg c1]
   refine Ev.iff (fun x => c1 (l0.1 x)) ?_
   refine Ev.b _ (atMost_ev p.2 0 v.u2 (by decide)) ?_
   by_cases c2 : ord p.2 ≤ 0
   ·rw [if_pos c2]
    exact Ev.ift (l1.2 c2) (Ev.b _ (sNeg_ev (Is.enc w)) (Ev.now _))
   ·rw [if_neg c2]
    refine Ev.iff (fun x => c2 (l1.1 x)) ?_
    refine Ev.b _ (Neg_ev p.1 v.u1) (Ev.b _ (Max_ev v.f1.ng v.f2) ?_)
    exact Ev.b _ (sMake_ev 0 _ (by decide) (hr_p (P := U) v.f1.ng.u v.u2)) (Ev.now _)
theorem sMost_ev {e : Bool} {a b : Int} {s : Sp} (h : Is e a b s) : Ev (fun k => span_Most.f k e a b) ((mostS s : Nat) : Int) := by
 unfold span_Most.f
 refine Ev.b _ (sAbs_ev h) (Ev.const ?_)
 unfold mostS
 cases absS s <;> rfl
theorem sIn_ev {e : Bool} {a b : Int} {s : Sp} {e' : Bool} {a' b' : Int} {t : Sp} (h : Is e a b s) (k : Is e' a' b' t) : Ev (fun k => span_Inside.f k e a b e' a' b') (ins s t) := by
 obtain ⟨l1, h1, a1, a2, rfl, rfl, rfl⟩ := h
 obtain ⟨l2, h2, b1, b2, rfl, rfl, rfl⟩ := k
 exact sInside_ev e l1 h1 e' l2 h2 a1 a2 b1 b2
def hasS (s : Sp) (f : Nat) : Bool := match s with | none => false | some p => decide (cls f ≠ 3) && (le p.1 f && le f p.2)
theorem norm_nan {f : Nat} (h : cls f = 4) : norm false f f = none := by
 unfold norm; rw [if_pos]; right; left; unfold le; rw [decide_eq_false_iff_not]; exact fun x => x.1 h
theorem sHas_ev {e : Bool} {a b : Int} {s : Sp} (h : Is e a b s) (f : Nat) (hf : U f) : Ev (fun k => span_Has.f k e a b (f : Int)) (hasS s f) := by
 have w := h.wf
 have lf := cls_le f
 unfold span_Has.f
 refine Ev.b _ (Class_ev f hf) ?_
 by_cases c3 : cls f = 3
 ·refine Ev.ift (by omega) (Ev.const ?_)
  unfold hasS
  cases s
  ·rfl
  ·rw [decide_eq_false (fun x => x c3)]; rfl
 ·refine Ev.iff (by omega) ?_
  refine Ev.b _ (sPoint_ev f hf) ?_
  by_cases c4 : cls f = 4
  ·rw [norm_nan c4]
   refine Ev.ift e_none (Ev.const ?_)
   unfold hasS
   cases s with
   | none => rfl
   | some p =>
    have : le p.1 f = false := by unfold le; rw [decide_eq_false_iff_not]; exact fun x => x.2.1 c4
    dsimp only
    rw [this, Bool.false_and, Bool.and_false]
  ·have F : Fl f := ⟨hf, c4⟩
   have fb := (fin_iff F).1 (by omega)
   obtain ⟨en, wn⟩ := norm_some F F (Int.le_refl _) fb.2 fb.1
   refine Ev.iff (by rw [en]; exact e_some _) ?_
   refine Ev.b _ (sPoint_ev f hf) ?_
   rw [en]
   refine Ev.b _ (sIn_ev (Is.enc wn.wf) h) (Ev.const ?_)
   unfold hasS ins
   cases s with
   | none => rfl
   | some p =>
    dsimp only
    rw [decide_eq_true c3, Bool.true_and]
    have e1 : le p.1 (nz f) = le p.1 f := by unfold le; rw [nz_cls, nz_ord]
    have e2 : le (nz f) p.2 = le f p.2 := by unfold le; rw [nz_cls, nz_ord]
    rw [e1, e2]
end Go.Proofs.Ytmadjhmecfbcmaa.M
end
section
namespace Go.Proofs.Ytmadjhmecfbcmaa.M
open Go.RowKit Go.Proofs.YtmadjhmecfbcmaaW.PrintWords Go.Proofs.YtmadjhmecfbcmaaW.PrintLast Go.Proofs.YtmadjhmecfbcmaaW.PrintMore Go.Proofs.Ytmadjhmecfbcmaa.F
theorem mk_ev (lo hi : Nat) (v : Sp) (h1 : U lo) (h2 : U hi) (e : norm false lo hi = v) : Ev (fun k => span_Make.f k (lo : Int) (hi : Int)) (enc v) := by
 have := sMake_ev lo hi h1 h2
 rw [e] at this; exact this
theorem pt_ev (f : Nat) (v : Sp) (h : U f) (e : norm false f f = v) : Ev (fun k => span_Point.f k (f : Int)) (enc v) := by
 have := sPoint_ev f h
 rw [e] at this; exact this
theorem n11 : norm false 4607182418800017408 4607182418800017408 = some (4607182418800017408, 4607182418800017408) := by decide +kernel
theorem nall : norm false NINF INF = some (NINF, INF) := by decide +kernel
theorem n02 : norm false 0 4611686018427387904 = some (0, 4611686018427387904) := by decide +kernel
theorem n01 : norm false 0 4607182418800017408 = some (0, 4607182418800017408) := by decide +kernel
theorem v2 : divS (some (4607182418800017408, 4607182418800017408)) (some (13830554455654793216, 4611686018427387904)) = some (NINF, INF) := by decide +kernel
theorem wf_of {lo hi : Nat} {v : Sp} (h1 : U lo) (h2 : U hi) (e : norm false lo hi = v) : WF v := by rw [← e]; exact norm_WF _ _ _ h1 h2
theorem Is.lit {e : Bool} {a b : Int} (h1 : (Lit.int .u64 a).wf = true) (h2 : (Lit.int .u64 b).wf = true) : ∃ s, Is e a b s := by
 obtain ⟨x, rfl, hx⟩ := wf_u64 h1
 obtain ⟨y, rfl, hy⟩ := wf_u64 h2
 exact ⟨_, Is.raw e hx hy⟩
end Go.Proofs.Ytmadjhmecfbcmaa.M
end
section
namespace Go.Proofs.Ytmadjhmecfbcmaa.M
open Go.RowKit Go.Proofs.YtmadjhmecfbcmaaW.PrintWords Go.Proofs.YtmadjhmecfbcmaaW.PrintLast Go.Proofs.YtmadjhmecfbcmaaW.PrintMore Go.Proofs.Ytmadjhmecfbcmaa.F
theorem rd_map (l : List Nat) (i : Nat) (h : i < l.length) : rd (l.map Nat.cast) (i : Int) = ((l[i] : Nat) : Int) := by
 unfold rd; rw [Int.toNat_natCast, List.getD_eq_getElem?_getD, List.getElem?_map, List.getElem?_eq_getElem h]; rfl
end Go.Proofs.Ytmadjhmecfbcmaa.M
end
section
namespace Go.Proofs.Ytmadjhmecfbcmaa.M
open Go.RowKit Go.Proofs.YtmadjhmecfbcmaaW.PrintWords Go.Proofs.YtmadjhmecfbcmaaW.PrintLast Go.Proofs.YtmadjhmecfbcmaaW.PrintMore Go.Proofs.Ytmadjhmecfbcmaa.F
def gd (e : Nat) : Nat := if cls e = 0 then 0 else if cls e = 4 ∨ sgn e = true then INF else e
structure G (x : Nat) : Prop where
 fl : Fl x
 p : 0 ≤ ord x
 z : nz x = x
theorem G0 : G 0 := ⟨Fl0, by decide, by decide⟩
theorem GINF : G INF := ⟨FlINF, by decide +kernel, by decide⟩
theorem G1 : G 1 := ⟨⟨by decide, by decide⟩, by decide +kernel, by decide⟩
theorem ord1 : ord 1 = 1 := by decide +kernel
theorem gd_G {e : Nat} (h : U e) : G (gd e) := by
 unfold gd
 split
 ·exact G0
 ·rename_i c0
  split
  ·exact GINF
  ·rename_i c
   have s : sgn e = false := by
    cases s : sgn e
    ·rfl
    ·exact absurd (.inr s) c
   exact ⟨⟨h, fun x => c (.inl x)⟩, ord_pos_ge e s, by unfold nz; rw [if_neg c0]⟩
theorem gd_id {x : Nat} (h : G x) : gd x = x := by
 unfold gd
 by_cases c : cls x = 0
 ·rw [if_pos c]; have := h.z; unfold nz at this; rw [if_pos c] at this; exact this
 ·rw [if_neg c, if_neg]
  rintro (y | y)
  ·exact h.fl.n y
  ·have := ord_neg_le x y
   have p := h.p
   exact c ((ord_zero x).1 (by omega))
theorem gd_ord {x : Nat} (h : Fl x) (p : 0 ≤ ord x) : ord (gd x) = ord x := by
 unfold gd
 by_cases c : cls x = 0
 ·rw [if_pos c, (ord_zero x).2 c]; exact ord0
 ·rw [if_neg c, if_neg]
  rintro (y | y)
  ·exact h.n y
  ·have := ord_neg_le x y
   exact c ((ord_zero x).1 (by omega))
theorem gd_nan {x : Nat} (h : cls x = 4) : gd x = INF := by
 unfold gd; rw [if_neg (by omega), if_pos (.inl h)]
theorem gd_ev (e : Nat) (h : U e) : Ev (fun k => slip_Good.f k (e : Int)) ((gd e : Nat) : Int) := by
 have es : ((e : Int) / 9223372036854775808 = 1) ↔ sgn e = true := by rw [← sgn_cast, beq_iff_eq]
 have I : Ev (fun k => slip_inf.f k) (INF : Int) := by unfold slip_inf.f; exact Ev.b _ (Inf_ev false) (Ev.now _)
 have Z : Ev (fun k => slip_zero.f k (e : Int)) (decide (cls e = 0)) := by
  unfold slip_zero.f
  refine Ev.b _ (Class_ev e h) (Ev.const ?_)
  congr 1
  by_cases c : cls e = 0
  ·rw [decide_eq_true c, c]; rfl
  ·rw [decide_eq_false c, beq_eq_false_iff_ne]; omega
 unfold slip_Good.f gd
 refine Ev.b _ Z ?_
 by_cases c0 : cls e = 0
 ·rw [if_pos c0]; exact Ev.ift (decide_eq_true c0) (Ev.now _)
 ·rw [if_neg c0]
  refine Ev.iff (by rw [decide_eq_true_iff]; exact c0) (Ev.b _ (Class_ev e h) ?_)
  by_cases c4 : cls e = 4
  ·rw [if_pos (.inl c4)]
   exact Ev.ift (by omega) (Ev.b _ I (Ev.now _))
  ·refine Ev.iff (by omega) ?_
   by_cases s : sgn e = true
   ·rw [if_pos (.inr s)]
    exact Ev.ift (es.2 s) (Ev.b _ I (Ev.now _))
   ·have n : ¬ (cls e = 4 ∨ sgn e = true) := by rintro (x | x); exact c4 x; exact s x
    rw [if_neg n]
    exact Ev.iff (fun x => s (es.1 x)) (Ev.now _)
theorem sinf19_ev : Ev (fun k => slip_inf.f k) (INF : Int) := by unfold slip_inf.f; exact Ev.b _ (Inf_ev false) (Ev.now _)
theorem szero19_ev (e : Nat) (h : U e) : Ev (fun k => slip_zero.f k (e : Int)) (decide (cls e = 0)) := by
 unfold slip_zero.f
 refine Ev.b _ (Class_ev e h) (Ev.const ?_)
 congr 1
 by_cases c : cls e = 0
 ·rw [decide_eq_true c, c]; rfl
 ·rw [decide_eq_false c, beq_eq_false_iff_ne]; omega
def ad (a b : Nat) : Nat := gd (sAdd a b 1).1
def mu (a b : Nat) : Nat := gd (tms a b 1)
def dv (a b : Nat) : Nat := gd (sDiv a b 1).1
theorem ad_ev (a b : Nat) (ha : U a) (hb : U b) : Ev (fun k => slip_add.f k (a : Int) (b : Int)) ((ad a b : Nat) : Int) := by
 have A := Add_ev a b 1 ha hb
 have u := sAdd_U a b 1 ha hb
 unfold slip_add.f ad
 unfold pr at A
 generalize sAdd a b 1 = x at A u ⊢
 exact Ev.b _ A (Ev.b _ (gd_ev x.1 u) (Ev.now _))
theorem dv_ev (a b : Nat) (ha : U a) (hb : U b) : Ev (fun k => slip_div.f k (a : Int) (b : Int)) ((dv a b : Nat) : Int) := by
 have A := Div_ev a b 1 ha hb
 have u := sDiv_U a b 1
 unfold slip_div.f dv
 unfold pr at A
 generalize sDiv a b 1 = x at A u ⊢
 exact Ev.b _ A (Ev.b _ (gd_ev x.1 u) (Ev.now _))
theorem mu_ev (a b : Nat) (ha : U a) (hb : U b) : Ev (fun k => slip_mul.f k (a : Int) (b : Int)) ((mu a b : Nat) : Int) := by
 have g0 : gd 0 = 0 := by decide
 unfold slip_mul.f mu tms
 refine Ev.b _ (szero19_ev a ha) ?_
 by_cases c1 : cls a = 0
 ·rw [if_pos (.inl c1), g0]
  refine Ev.ift (decide_eq_true c1) (Ev.next ?_)
  simp only [slip_mul.j0]
  exact Ev.ift trivial (Ev.now _)
 ·refine Ev.iff (by rw [decide_eq_true_iff]; exact c1) (Ev.b _ (szero19_ev b hb) (Ev.next ?_))
  simp only [slip_mul.j0]
  by_cases c2 : cls b = 0
  ·rw [if_pos (.inr c2), g0]
   exact Ev.ift (decide_eq_true c2) (Ev.now _)
  ·have n : ¬ (cls a = 0 ∨ cls b = 0) := by rintro (x | x); exact c1 x; exact c2 x
   rw [if_neg n]
   refine Ev.iff (by rw [decide_eq_true_iff]; exact c2) ?_
   have A := Mul_ev a b 1 ha hb
   have u := sMul_U a b 1
   unfold pr at A
   generalize sMul a b 1 = x at A u ⊢
   exact Ev.b _ A (Ev.b _ (gd_ev x.1 u) (Ev.now _))
theorem ad_G {a b : Nat} (ha : G a) (hb : G b) : G (ad a b) := gd_G (sAdd_U _ _ _ ha.fl.u hb.fl.u)
theorem mu_G {a b : Nat} (ha : G a) (hb : G b) : G (mu a b) := gd_G (tms_fl ha.fl hb.fl 1).u
theorem dv_G (a b : Nat) : G (dv a b) := gd_G (sDiv_U _ _ _)
theorem ad_spec {a b : Nat} (ha : G a) (hb : G b) : (ord a = 9218868437227405312 ∨ ord b = 9218868437227405312 → ord (ad a b) = 9218868437227405312) ∧
  (ord a < 9218868437227405312 → ord b < 9218868437227405312 → ord (ad a b) = rq (2 * (sv a + sv b)) 1 1) := by
 have pa := ha.p
 have pb := hb.p
 obtain ⟨f, l, i, r⟩ := add_hi ha.fl hb.fl (by omega) (by omega)
 have ba := ha.fl.bd
 have bb := hb.fl.bd
 have s := (rq_sign (v := 2 * (sv a + sv b)) 1 1).1 (by have := sv_ge0.2 pa; have := sv_ge0.2 pb; omega)
 have z : 0 ≤ ord (sAdd a b 1).1 := by omega
 unfold ad
 rw [gd_ord f z]
 exact ⟨i, r⟩
theorem ad_mono {a b c d : Nat} (ha : G a) (hb : G b) (hc : G c) (hd : G d) (h : ord a ≤ ord c) (k : ord b ≤ ord d) : ord (ad a b) ≤ ord (ad c d) := by
 have s1 := ad_spec ha hb
 have s2 := ad_spec hc hd
 have b1 := (ad_G ha hb).fl.bd
 have b2 := (ad_G hc hd).fl.bd
 have x1 := ha.fl.bd
 have x2 := hb.fl.bd
 have x3 := hc.fl.bd
 have x4 := hd.fl.bd
 have m := rq_mono 1 1 (show 2 * (sv a + sv b) ≤ 2 * (sv c + sv d) by have := sv_mono h; have := sv_mono k; omega)
 omega
theorem mu_ord {a b : Nat} (ha : G a) (hb : G b) : ord (mu a b) = ord (tms a b 1) := by
 have f := tms_fl ha.fl hb.fl 1
 have m := tms_mono Fl0 ha.fl hb.fl 1 (by rw [ord0]; exact ha.p) hb.p
 rw [tms_zero (a := 0) 1 (.inl ord0)] at m
 exact gd_ord f m
theorem mu_mono {a b c d : Nat} (ha : G a) (hb : G b) (hc : G c) (hd : G d) (h : ord a ≤ ord c) (k : ord b ≤ ord d) : ord (mu a b) ≤ ord (mu c d) := by
 rw [mu_ord ha hb, mu_ord hc hd]
 have m1 := tms_mono ha.fl hc.fl hb.fl 1 h hb.p
 have m2 := tms_mono hb.fl hd.fl hc.fl 1 k hc.p
 rw [tms_comm b, tms_comm d] at m2
 omega
theorem dv_spec {a b : Nat} (ha : G a) (hb : Fl b) (s : 0 < ord b) : (ord a = 9218868437227405312 → ord (dv a b) = 9218868437227405312) ∧ (ord a < 9218868437227405312 → ord (dv a b) = ord (ov a b 1)) := by
 have ia := inf_iff ha.fl
 have ib := inf_iff hb
 have ba := ha.fl.bd
 have bb := hb.bd
 have pa := ha.p
 have za := ord_zero a
 have zb := ord_zero b
 have na := ha.fl.n
 have nb := hb.n
 refine ⟨fun h => ?_, fun h => ?_⟩
 ·have c3 := ia.2 (.inl h)
  unfold dv sDiv
  rw [if_neg (show ¬ (cls a = 4 ∨ cls b = 4) by omega)]
  by_cases b3 : cls b = 3
  ·rw [if_pos (.inl ⟨c3, b3⟩)]
   rw [gd_nan QN_cls]; exact oINF
  ·rw [if_neg (show ¬ (cls a = 3 ∧ cls b = 3 ∨ cls a = 0 ∧ cls b = 0) by omega), if_pos c3, sgn_pos (a := a) (by omega), sgn_pos s]
   decide +kernel
 ·obtain ⟨f, o⟩ := ov_spec ha.fl hb (by omega) 1
  have m := ov_mono Fl0 ha.fl hb (by omega) 1 (by rw [ord0]; exact pa)
  rw [(ov_spec Fl0 hb (by omega) 1).2.1 ord0] at m
  have e : gd (sDiv a b 1).1 = gd (ov a b 1) := by
   unfold ov
   by_cases c0 : cls a = 0
   ·rw [if_pos c0]
    have h1 : (sDiv a b 1).1 = sg (sgn a != sgn b) := by
     unfold sDiv
     rw [if_neg (show ¬ (cls a = 4 ∨ cls b = 4) by omega), if_neg (show ¬ (cls a = 3 ∧ cls b = 3 ∨ cls a = 0 ∧ cls b = 0) by omega), if_neg (show ¬ cls a = 3 by omega), if_neg (show ¬ cls b = 0 by omega), if_pos (.inl c0)]
    rw [h1]
    have g : ∀ n : Bool, gd (sg n) = gd 0 := by intro n; cases n <;> decide
    exact g _
   ·rw [if_neg c0, if_neg (show ¬ (cls a = 3 ∨ cls b = 0) by omega)]
    by_cases b3 : cls b = 3
    ·rw [if_pos b3]
     have h1 : (sDiv a b 1).1 = sg (sgn a != sgn b) := by
      unfold sDiv
      rw [if_neg (show ¬ (cls a = 4 ∨ cls b = 4) by omega), if_neg (show ¬ (cls a = 3 ∧ cls b = 3 ∨ cls a = 0 ∧ cls b = 0) by omega), if_neg (show ¬ cls a = 3 by omega), if_neg (show ¬ cls b = 0 by omega), if_pos (.inr b3)]
     rw [h1]
     have g : ∀ n : Bool, gd (sg n) = gd 0 := by intro n; cases n <;> decide
     exact g _
    ·rw [if_neg b3]
  unfold dv
  rw [e, gd_ord f m]
theorem dv_mono {a b c d : Nat} (ha : G a) (hc : G c) (hb : Fl b) (hd : Fl d) (s : 0 < ord d) (h : ord a ≤ ord c) (k : ord d ≤ ord b) : ord (dv a b) ≤ ord (dv c d) := by
 have s1 := dv_spec ha hb (by omega)
 have s2 := dv_spec hc hd s
 have b1 := (dv_G a b).fl.bd
 have b2 := (dv_G c d).fl.bd
 have x1 := ha.fl.bd
 have x2 := hc.fl.bd
 have m1 := ov_mono ha.fl hc.fl hb (by omega) 1 h
 have m2 := (ov_den hc.fl hd hb (by omega) 1 k).1 hc.p
 omega
def rnu (m : Nat) : Nat := if gd m = 0 then 0 else if gd m = INF then INF else hr (mu (gd m) 4368491638549381120) 1
theorem Gun : G 4368491638549381120 := ⟨⟨by decide, by decide⟩, by decide +kernel, by decide⟩
theorem hr_G {a b : Nat} (ha : G a) (hb : G b) : G (hr a b) := by
 have s := hr_spec a b
 have p := ha.p
 exact ⟨hr_p ha.fl hb.fl, by omega, hr_p (P := fun x => nz x = x) ha.z hb.z⟩
theorem rnu_G {m : Nat} (h : U m) : G (rnu m) := by
 unfold rnu
 split
 ·exact G0
 ·split
  ·exact GINF
  ·exact hr_G (mu_G (gd_G h) Gun) G1
theorem rnu_ev (m : Nat) (h : U m) : Ev (fun k => slip_Round.f k (m : Int)) ((rnu m : Nat) : Int) := by
 have g := gd_G h
 unfold slip_Round.f rnu
 refine Ev.b _ (gd_ev m h) ?_
 generalize gd m = x at g ⊢
 by_cases c0 : x = 0
 ·rw [if_pos c0]; exact Ev.ift (by omega) (Ev.now _)
 ·rw [if_neg c0]
  refine Ev.iff (by omega) (Ev.b _ sinf19_ev ?_)
  by_cases c1 : x = INF
  ·rw [if_pos c1, ← c1]; exact Ev.ift rfl (Ev.now _)
  ·rw [if_neg c1]
   refine Ev.iff (by omega) (Ev.b _ (mu_ev x 4368491638549381120 g.fl.u (by decide)) ?_)
   exact Ev.b _ (Max_ev (mu_G g Gun).fl G1.fl) (Ev.now _)
theorem rnu_mono {a b : Nat} (ha : G a) (hb : G b) (h : ord a ≤ ord b) : ord (rnu a) ≤ ord (rnu b) := by
 have ga := (rnu_G ha.fl.u).fl.bd
 have gb := (rnu_G hb.fl.u).p
 unfold rnu at *
 rw [gd_id ha, gd_id hb] at *
 by_cases c0 : a = 0
 ·rw [if_pos c0, ord0]; exact gb
 ·rw [if_neg c0]
  have a0 : 0 < ord a := by
   have := ha.p
   by_cases z : ord a = 0
   ·exact absurd (ord_inj ha.fl.u Fl0.u ha.z (by decide) (by rw [z, ord0])) c0
   ·omega
  have b0 : b ≠ 0 := by intro z; rw [z, ord0] at h; omega
  rw [if_neg b0]
  by_cases c1 : b = INF
  ·rw [if_pos c1, oINF]; rw [if_neg c0] at ga; exact ga.2
  ·rw [if_neg c1]
   have a1 : a ≠ INF := by
    intro z
    have bb := hb.fl.bd
    rw [z, oINF] at h
    exact c1 ((eq_INF hb.fl.u hb.fl.n).2 (by omega))
   rw [if_neg a1]
   have m := mu_mono ha Gun hb Gun h (Int.le_refl _)
   have s1 := hr_spec (mu a 4368491638549381120) 1
   have s2 := hr_spec (mu b 4368491638549381120) 1
   omega
def jn : Nat → List Nat → Nat
 | j, [] => j
 | j, e :: l => jn (hr j (gd e)) l
theorem jn_l0 (l : List Nat) (hl : l.length < 1000000) (hU : ∀ x ∈ l, U x) : ∀ (d i j : Nat), l.length - i = d → i ≤ l.length → G j →
  Ev (fun k => slip_Join.l0 k (j : Int) (l.map Nat.cast) ((l.map Nat.cast : List Int).length : Int) (i : Int)) ((jn j (l.drop i) : Nat) : Int)
 | 0, i, j, hd, hi, g => by
  rw [List.drop_eq_nil_of_le (by omega)]
  refine Ev.next ?_
  simp only [slip_Join.l0]
  exact Ev.iff (by rw [List.length_map]; omega) (Ev.now _)
 | d + 1, i, j, hd, hi, g => by
  have hlt : i < l.length := by omega
  have uf := hU l[i] (List.getElem_mem hlt)
  rw [List.drop_eq_getElem_cons hlt]
  refine Ev.next ?_
  simp only [slip_Join.l0]
  refine Ev.ift (by rw [List.length_map]; omega) (Ev.ift (by omega) (Ev.ift (by rw [List.length_map]; omega) ?_))
  rw [rd_map l i hlt]
  have wr : wrap64 ((i : Int) + 1) = ((i + 1 : Nat) : Int) := by rw [w64 (by omega) (by omega)]; omega
  rw [wr]
  refine Ev.b _ (gd_ev _ uf) (Ev.b _ (Max_ev g.fl (gd_G uf).fl) ?_)
  exact jn_l0 l hl hU d (i + 1) _ (by omega) (by omega) (hr_G g (gd_G uf))
theorem jn_ev (l : List Nat) (hl : l.length < 1000000) (hU : ∀ x ∈ l, U x) : Ev (fun k => slip_Join.f k (l.map Nat.cast)) ((jn 0 l : Nat) : Int) := by
 unfold slip_Join.f
 exact jn_l0 l hl hU l.length 0 0 (by omega) (by omega) G0
def wdl (y : Nat) : Nat → List Nat → Nat
 | b, [] => b
 | b, f :: l => wdl y (if le y f = true ∧ less f b = true then f else b) l
def wds (o n : Nat) (l : List Nat) : Nat := if less (gd o) (gd n) = true then wdl (gd n) INF l else gd o
theorem cmp_le (a b : Nat) : (cmpI a b).2 = true ∧ (cmpI a b).1 ≤ 0 ↔ le a b = true := by
 rw [le_cmp, Bool.and_eq_true, decide_eq_true_iff]
theorem sWd_l0 (y : Nat) (uy : U y) (l : List Nat) (hl : l.length < 1000000) (hU : ∀ x ∈ l, U x) : ∀ (d i b : Nat), l.length - i = d → i ≤ l.length → U b →
  Ev (fun k => slip_Widen.l0 k (y : Int) (b : Int) (l.map Nat.cast) ((l.map Nat.cast : List Int).length : Int) (i : Int)) ((wdl y b (l.drop i) : Nat) : Int)
 | 0, i, b, hd, hi, g => by
  rw [List.drop_eq_nil_of_le (by omega)]
  refine Ev.next ?_
  simp only [slip_Widen.l0]
  exact Ev.iff (by rw [List.length_map]; omega) (Ev.now _)
 | d + 1, i, b, hd, hi, g => by
  have hlt : i < l.length := by omega
  have uf := hU l[i] (List.getElem_mem hlt)
  rw [List.drop_eq_getElem_cons hlt]
  refine Ev.next ?_
  simp only [slip_Widen.l0]
  refine Ev.ift (by rw [List.length_map]; omega) (Ev.ift (by omega) (Ev.ift (by rw [List.length_map]; omega) ?_))
  rw [rd_map l i hlt]
  have wr : wrap64 ((i : Int) + 1) = ((i + 1 : Nat) : Int) := by rw [w64 (by omega) (by omega)]; omega
  rw [wr]
  have e2 : wdl y b (l[i] :: l.drop (i + 1)) = wdl y (if le y l[i] = true ∧ less l[i] b = true then l[i] else b) (l.drop (i + 1)) := rfl
  rw [e2]
  refine Ev.b _ (Cmp_ev y l[i] uy uf) ?_
  have cl := cmp_le y l[i]
  by_cases c1 : le y l[i] = true
  ·refine Ev.ift (cl.2 c1).1 (Ev.ift (cl.2 c1).2 (Ev.b _ (Less_ev l[i] b uf g) ?_))
   by_cases c2 : less l[i] b = true
   ·rw [if_pos (show le y l[i] = true ∧ less l[i] b = true from ⟨c1, c2⟩)]
    exact Ev.ift c2 (sWd_l0 y uy l hl hU d (i + 1) _ (by omega) (by omega) uf)
   ·rw [if_neg (show ¬ (le y l[i] = true ∧ less l[i] b = true) from fun x => c2 x.2)]
    exact Ev.iff c2 (sWd_l0 y uy l hl hU d (i + 1) _ (by omega) (by omega) g)
  ·rw [if_neg (show ¬ (le y l[i] = true ∧ less l[i] b = true) from fun x => c1 x.1)]
   by_cases c2 : (cmpI y l[i]).2 = true
   ·exact Ev.ift c2 (Ev.iff (fun x => c1 (cl.1 ⟨c2, x⟩)) (sWd_l0 y uy l hl hU d (i + 1) _ (by omega) (by omega) g))
   ·exact Ev.iff c2 (sWd_l0 y uy l hl hU d (i + 1) _ (by omega) (by omega) g)
theorem sWds_ev (o n : Nat) (uo : U o) (un : U n) (l : List Nat) (hl : l.length < 1000000) (hU : ∀ x ∈ l, U x) : Ev (fun k => slip_Widen.f k (o : Int) (n : Int) (l.map Nat.cast)) ((wds o n l : Nat) : Int) := by
 have go := gd_G uo
 have gn := gd_G un
 unfold slip_Widen.f wds
 refine Ev.b _ (gd_ev o uo) (Ev.b _ (gd_ev n un) (Ev.b _ (Less_ev _ _ go.fl.u gn.fl.u) ?_))
 by_cases c : less (gd o) (gd n) = true
 ·rw [if_pos c]
  exact Ev.ift c (Ev.b _ sinf19_ev (sWd_l0 (gd n) gn.fl.u l hl hU l.length 0 INF (by omega) (by omega) (by decide)))
 ·rw [if_neg c]
  exact Ev.iff c (Ev.now _)
def fad (op : Int) (s t : Sp) : Bool := if op = 7 then (if mostS s = 0 then false else decide (mostS t ≠ 0)) else if op = 8 then decide (mostS s ≠ 0) else false
def quo (s t : Sp) (p q r : Nat) : Nat :=
 if hasS t 0 = true then INF
 else match absS t with
  | none => INF
  | some n => if less 0 (sAdd n.1 (ng q) 2).1 = true then ad (dv (ad (mu (dv (mostS s) n.1) q) p) (sAdd n.1 (ng q) 2).1) r else INF
def doR (op : Int) (s t : Sp) (p q r : Nat) : Nat :=
 if op = 5 ∨ op = 6 then ad (ad p q) r
 else if op = 7 then (if p = INF ∨ q = INF then INF else ad (ad (ad (mu (mostS s) q) (mu (mostS t) p)) (mu p q)) r)
 else if op = 8 then quo s t p q r
 else if op = 17 ∨ op = 21 then p
 else if op = 20 then 0
 else INF
def rOf (op : Int) (s t u : Sp) : Nat := if fad op s t = true ∧ rnu (mostS u) = 0 then 1 else rnu (mostS u)
end Go.Proofs.Ytmadjhmecfbcmaa.M
end
section
namespace Go.Proofs.Ytmadjhmecfbcmaa.M
open Go.RowKit Go.Proofs.YtmadjhmecfbcmaaW.PrintWords Go.Proofs.YtmadjhmecfbcmaaW.PrintLast Go.Proofs.YtmadjhmecfbcmaaW.PrintMore Go.Proofs.Ytmadjhmecfbcmaa.F
theorem most_G {s : Sp} (h : WF s) : G (mostS s) := by
 cases s with
 | none => exact G0
 | some p =>
  obtain ⟨r, e, w, p0, _⟩ := abs_ok (W2.of h)
  have o := w.o
  unfold mostS; rw [e]
  exact ⟨w.f2, by dsimp only; omega, w.z2⟩
theorem most_mono {s t : Sp} (h : WF s) (k : WF t) (u : sub s t) : ord (mostS s) ≤ ord (mostS t) := by
 have q := abs_sub h k u
 have g := (most_G k).p
 cases s with
 | none => show ord 0 ≤ _; rw [ord0]; exact g
 | some p => cases t with
  | none => exact u.elim
  | some x =>
   obtain ⟨r, e, w, _⟩ := abs_ok (W2.of h)
   obtain ⟨r', e', w', _⟩ := abs_ok (W2.of k)
   rw [e, e'] at q
   unfold mostS; rw [e, e']
   exact q.2
theorem G_zero {x : Nat} (h : G x) : x = 0 ↔ ord x = 0 := by
 constructor
 ·intro e; rw [e]; exact ord0
 ·intro e; exact ord_inj h.fl.u Fl0.u h.z (by decide) (by rw [e, ord0])
theorem G_inf {x : Nat} (h : G x) : x = INF ↔ ord x = 9218868437227405312 := eq_INF h.fl.u h.fl.n
theorem fad_ev (op : Int) {s t : Sp} (u : Bool × Int × Int) (p q : Int) (hs : WF s) (ht : WF t) :
  Ev (fun k => slip_sides_fades.f k (enc s).1 (enc s).2.1 (enc s).2.2 (enc t).1 (enc t).2.1 (enc t).2.2 u.1 u.2.1 u.2.2 p q op) (fad op s t) := by
 have m1 := sMost_ev (Is.enc hs)
 have m2 := sMost_ev (Is.enc ht)
 unfold slip_sides_fades.f fad
 have ne : ∀ x : Nat, ((x : Int) != 0) = decide (x ≠ 0) := by
  intro x
  by_cases c : x = 0
  ·rw [c]; rfl
  ·rw [decide_eq_true c, bne_iff_ne]; omega
 by_cases c7 : op = 7
 ·rw [if_pos c7]
  refine Ev.ift c7 (Ev.b _ m1 ?_)
  by_cases c : mostS s = 0
  ·rw [if_pos c]; exact Ev.ift (by omega) (Ev.now _)
  ·rw [if_neg c, ← ne]
   exact Ev.iff (by omega) (Ev.b _ m2 (Ev.now _))
 ·rw [if_neg c7]
  refine Ev.iff c7 ?_
  by_cases c8 : op = 8
  ·rw [if_pos c8, ← ne]
   exact Ev.ift c8 (Ev.b _ m1 (Ev.now _))
  ·rw [if_neg c8]
   exact Ev.iff c8 (Ev.now _)
theorem sSub_ev (a b m : Nat) (ha : U a) (hb : U b) : Ev (fun k => soft_Sub.f k (a : Int) (b : Int) (m : Int)) (pr (sAdd a (ng b) m)) := Sub_ev a b m ha hb
theorem quo_ev {s t : Sp} (u : Bool × Int × Int) {p q r : Nat} (hs : WF s) (ht : WF t) (tn : t ≠ none) (gp : G p) (gq : G q) (gr : G r) :
  Ev (fun k => slip_sides_quotient.f k (enc s).1 (enc s).2.1 (enc s).2.2 (enc t).1 (enc t).2.1 (enc t).2.2 u.1 u.2.1 u.2.2 (p : Int) (q : Int) (r : Int)) ((quo s t p q r : Nat) : Int) := by
 unfold slip_sides_quotient.f quo
 refine Ev.b _ (sHas_ev (Is.enc ht) 0 (by decide)) ?_
 by_cases c : hasS t 0 = true
 ·rw [if_pos c]
  exact Ev.ift c (Ev.b _ sinf19_ev (Ev.now _))
 ·rw [if_neg c]
  refine Ev.iff c (Ev.b _ (sAbs_ev (Is.enc ht)) ?_)
  have hn : ∃ n, absS t = some n ∧ W2 n := by
   cases t with
   | none => exact absurd rfl tn
   | some y => obtain ⟨n, e, w, _⟩ := abs_ok (W2.of ht); exact ⟨n, e, w⟩
  obtain ⟨n, en, wn⟩ := hn
  rw [en]
  dsimp only
  have S := sSub_ev n.1 q 2 wn.u1 gq.fl.u
  have us := sAdd_U n.1 (ng q) 2 wn.u1 (ng_U q gq.fl.u)
  unfold pr at S
  generalize sAdd n.1 (ng q) 2 = d at S us ⊢
  refine Ev.b _ S (Ev.b _ (Less_ev 0 d.1 (by decide) us) ?_)
  by_cases l : less 0 d.1 = true
  ·rw [if_pos l]
   have gm := most_G hs
   have g1 := dv_G (mostS s) n.1
   have g2 := mu_G g1 gq
   have g3 := ad_G g2 gp
   have g4 := dv_G (ad (mu (dv (mostS s) n.1) q) p) d.1
   refine Ev.ift l (Ev.b _ (sMost_ev (Is.enc hs)) ?_)
   refine Ev.b _ (dv_ev _ _ gm.fl.u wn.u1) (Ev.b _ (mu_ev _ _ g1.fl.u gq.fl.u) (Ev.b _ (ad_ev _ _ g2.fl.u gp.fl.u) ?_))
   exact Ev.b _ (dv_ev _ _ g3.fl.u us) (Ev.b _ (ad_ev _ _ g4.fl.u gr.fl.u) (Ev.now _))
  ·rw [if_neg l]
   exact Ev.iff l (Ev.b _ sinf19_ev (Ev.now _))
def doS (op : Int) (s t u : Sp) (p q : Nat) : Nat :=
 if s = none ∨ u = none ∨ (5 ≤ op ∧ op ≤ 16 ∧ t = none) then 0 else doR op s t p q (rOf op s t u)
theorem rOf_G (op : Int) {s t u : Sp} (hu : WF u) : G (rOf op s t u) := by
 unfold rOf
 split
 ·exact G1
 ·exact rnu_G (most_G hu).fl.u
theorem doR_ev (op : Int) {s t : Sp} (u : Bool × Int × Int) {p q r : Nat} (hs : WF s) (ht : WF t) (tn : op = 8 → t ≠ none) (gp : G p) (gq : G q) (gr : G r) :
  Ev (fun k => slip_Do.j2 k op (r : Int) (enc s).1 (enc s).2.1 (enc s).2.2 (enc t).1 (enc t).2.1 (enc t).2.2 u.1 u.2.1 u.2.2 (p : Int) (q : Int)) ((doR op s t p q r : Nat) : Int) := by
 have g1 := ad_G gp gq
 have ms := most_G hs
 have mt := most_G ht
 have J5 : ∀ X : Bool, (X = true ↔ op = 17 ∨ op = 21) → Ev (fun k => slip_Do.j5 k op X (enc s).1 (enc s).2.1 (enc s).2.2 (enc t).1 (enc t).2.1 (enc t).2.2 u.1 u.2.1 u.2.2 (p : Int) (q : Int)) (((if op = 17 ∨ op = 21 then p else if op = 20 then 0 else INF : Nat)) : Int) := by
  intro X hX
  refine Ev.next ?_
  simp only [slip_Do.j5]
  by_cases c : op = 17 ∨ op = 21
  ·rw [if_pos c]; exact Ev.ift (hX.2 c) (Ev.now _)
  ·rw [if_neg c]
   refine Ev.iff (fun x => c (hX.1 x)) ?_
   by_cases c2 : op = 20
   ·rw [if_pos c2]; exact Ev.ift c2 (Ev.now _)
   ·rw [if_neg c2]; exact Ev.iff c2 (Ev.b _ sinf19_ev (Ev.now _))
 have J4 : ∀ X : Bool, (X = true ↔ p = INF ∨ q = INF) → Ev (fun k => slip_Do.j4 k (r : Int) X (enc s).1 (enc s).2.1 (enc s).2.2 (enc t).1 (enc t).2.1 (enc t).2.2 u.1 u.2.1 u.2.2 (p : Int) (q : Int)) (((if p = INF ∨ q = INF then INF else ad (ad (ad (mu (mostS s) q) (mu (mostS t) p)) (mu p q)) r : Nat)) : Int) := by
  intro X hX
  refine Ev.next ?_
  simp only [slip_Do.j4]
  by_cases c : p = INF ∨ q = INF
  ·rw [if_pos c]; exact Ev.ift (hX.2 c) (Ev.b _ sinf19_ev (Ev.now _))
  ·rw [if_neg c]
   have a1 := mu_G ms gq
   have a2 := mu_G mt gp
   have a3 := ad_G a1 a2
   have a4 := mu_G gp gq
   have a5 := ad_G a3 a4
   refine Ev.iff (fun x => c (hX.1 x)) ?_
   refine Ev.b _ (sMost_ev (Is.enc hs)) (Ev.b _ (mu_ev _ _ ms.fl.u gq.fl.u) (Ev.b _ (sMost_ev (Is.enc ht)) (Ev.b _ (mu_ev _ _ mt.fl.u gp.fl.u) ?_)))
   refine Ev.b _ (ad_ev _ _ a1.fl.u a2.fl.u) (Ev.b _ (mu_ev _ _ gp.fl.u gq.fl.u) (Ev.b _ (ad_ev _ _ a3.fl.u a4.fl.u) ?_))
   exact Ev.b _ (ad_ev _ _ a5.fl.u gr.fl.u) (Ev.now _)
 have J3 : ∀ X : Bool, (X = true ↔ op = 5 ∨ op = 6) → Ev (fun k => slip_Do.j3 k (r : Int) op X (enc s).1 (enc s).2.1 (enc s).2.2 (enc t).1 (enc t).2.1 (enc t).2.2 u.1 u.2.1 u.2.2 (p : Int) (q : Int)) ((doR op s t p q r : Nat) : Int) := by
  intro X hX
  refine Ev.next ?_
  simp only [slip_Do.j3]
  unfold doR
  by_cases c : op = 5 ∨ op = 6
  ·rw [if_pos c]
   exact Ev.ift (hX.2 c) (Ev.b _ (ad_ev _ _ gp.fl.u gq.fl.u) (Ev.b _ (ad_ev _ _ g1.fl.u gr.fl.u) (Ev.now _)))
  ·rw [if_neg c]
   refine Ev.iff (fun x => c (hX.1 x)) ?_
   by_cases c7 : op = 7
   ·rw [if_pos c7]
    refine Ev.ift c7 (Ev.b _ sinf19_ev ?_)
    by_cases pi : p = INF
    ·exact Ev.ift (by rw [pi]) (J4 true ⟨fun _ => .inl pi, fun _ => rfl⟩)
    ·refine Ev.iff (by omega) (Ev.b _ sinf19_ev (J4 _ ?_))
     rw [beq_iff_eq]
     constructor
     ·intro x; exact .inr (by omega)
     ·rintro (x | x)
      ·exact absurd x pi
      ·rw [x]
   ·rw [if_neg c7]
    refine Ev.iff c7 ?_
    by_cases c8 : op = 8
    ·rw [if_pos c8]
     exact Ev.ift c8 (Ev.b _ (quo_ev u hs ht (tn c8) gp gq gr) (Ev.now _))
    ·rw [if_neg c8]
     refine Ev.iff c8 ?_
     by_cases c17 : op = 17
     ·exact Ev.ift c17 (J5 _ (by rw [beq_iff_eq]; exact ⟨fun x => .inl x, fun _ => c17⟩))
     ·refine Ev.iff c17 (J5 _ ?_)
      rw [beq_iff_eq]
      constructor
      ·intro x; exact .inr x
      ·rintro (x | x)
       ·exact absurd x c17
       ·exact x
 refine Ev.next ?_
 simp only [slip_Do.j2]
 by_cases c5 : op = 5
 ·exact Ev.ift c5 (J3 _ (by rw [beq_iff_eq]; exact ⟨fun x => .inl x, fun _ => c5⟩))
 ·refine Ev.iff c5 (J3 _ ?_)
  rw [beq_iff_eq]
  constructor
  ·intro x; exact .inr x
  ·rintro (x | x)
   ·exact absurd x c5
   ·exact x
theorem sDo_ev (op : Int) {e1 : Bool} {a1 b1 : Int} {s : Sp} {e2 : Bool} {a2 b2 : Int} {t : Sp} {e3 : Bool} {a3 b3 : Int} {u : Sp} (h1 : Is e1 a1 b1 s) (h2 : Is e2 a2 b2 t) (h3 : Is e3 a3 b3 u) (ea eb : Nat) (ua : U ea) (ub : U eb) :
  Ev (fun k => slip_Do.f k op e1 a1 b1 e2 a2 b2 e3 a3 b3 (ea : Int) (eb : Int)) ((doS op s t u (gd ea) (gd eb) : Nat) : Int) := by
 have gp := gd_G ua
 have gq := gd_G ub
 have ws := h1.wf
 have wt := h2.wf
 have wu := h3.wf
 unfold slip_Do.f
 refine Ev.b _ (Join1_ev h1) (Ev.b _ (Join1_ev h2) (Ev.b _ (Join1_ev h3) (Ev.b _ (gd_ev ea ua) (Ev.b _ (gd_ev eb ub) ?_))))
 have J0 : ∀ X : Bool, (X = true ↔ s = none ∨ u = none ∨ (5 ≤ op ∧ op ≤ 16 ∧ t = none)) → Ev (fun k => slip_Do.j0 k op X (enc s).1 (enc s).2.1 (enc s).2.2 (enc t).1 (enc t).2.1 (enc t).2.2 (enc u).1 (enc u).2.1 (enc u).2.2 ((gd ea : Nat) : Int) ((gd eb : Nat) : Int)) ((doS op s t u (gd ea) (gd eb) : Nat) : Int) := by
  intro X hX
  refine Ev.next ?_
  simp only [slip_Do.j0]
  unfold doS
  by_cases c : s = none ∨ u = none ∨ (5 ≤ op ∧ op ≤ 16 ∧ t = none)
  ·rw [if_pos c]
   exact Ev.ift (hX.2 c) (Ev.now _)
  ·rw [if_neg c]
   have tn : op = 8 → t ≠ none := fun x y => c (.inr (.inr ⟨by omega, by omega, y⟩))
   have mG := most_G wu
   have rG := rnu_G mG.fl.u
   refine Ev.iff (fun x => c (hX.1 x)) ?_
   refine Ev.b _ (sMost_ev (Is.enc wu)) (Ev.b _ (rnu_ev _ mG.fl.u) (Ev.b _ (fad_ev op (enc u) _ _ ws wt) ?_))
   have J1 : ∀ Y : Bool, (Y = true ↔ fad op s t = true ∧ rnu (mostS u) = 0) → Ev (fun k => slip_Do.j1 k op ((rnu (mostS u) : Nat) : Int) Y (enc s).1 (enc s).2.1 (enc s).2.2 (enc t).1 (enc t).2.1 (enc t).2.2 (enc u).1 (enc u).2.1 (enc u).2.2 ((gd ea : Nat) : Int) ((gd eb : Nat) : Int)) ((doR op s t (gd ea) (gd eb) (rOf op s t u) : Nat) : Int) := by
    intro Y hY
    refine Ev.next ?_
    simp only [slip_Do.j1]
    unfold rOf
    by_cases y : fad op s t = true ∧ rnu (mostS u) = 0
    ·rw [if_pos y]
     exact Ev.ift (hY.2 y) (doR_ev op (enc u) ws wt tn gp gq G1)
    ·rw [if_neg y]
     exact Ev.iff (fun x => y (hY.1 x)) (doR_ev op (enc u) ws wt tn gp gq rG)
   by_cases f : fad op s t = true
   ·refine Ev.ift f (J1 _ ?_)
    rw [beq_iff_eq]
    constructor
    ·intro x; exact ⟨f, by omega⟩
    ·intro x; rw [x.2]; rfl
   ·refine Ev.iff f (J1 false ?_)
    constructor
    ·intro x; cases x
    ·intro x; exact absurd x.1 f
 cases s with
 | none => exact Ev.ift e_none (J0 true ⟨fun _ => .inl rfl, fun _ => rfl⟩)
 | some p =>
  refine Ev.iff (e_some p) ?_
  cases u with
  | none => exact Ev.ift e_none (J0 true ⟨fun _ => .inr (.inl rfl), fun _ => rfl⟩)
  | some w =>
   refine Ev.iff (e_some w) ?_
   by_cases l1 : 5 ≤ op
   ·refine Ev.ift l1 ?_
    by_cases l2 : op ≤ 16
    ·refine Ev.ift l2 (J0 _ ?_)
     cases t with
     | none => exact ⟨fun _ => .inr (.inr ⟨l1, l2, rfl⟩), fun _ => rfl⟩
     | some q =>
      constructor
      ·intro x; exact absurd x (e_some q)
      ·rintro (x | x | x)
       ·cases x
       ·cases x
       ·cases x.2.2
    ·refine Ev.iff l2 (J0 false ?_)
     constructor
     ·intro x; cases x
     ·rintro (x | x | x)
      ·cases x
      ·cases x
      ·exact absurd x.2.1 l2
   ·refine Ev.iff l1 (J0 false ?_)
    constructor
    ·intro x; cases x
    ·rintro (x | x | x)
     ·cases x
     ·cases x
     ·exact absurd x.1 l1
theorem d1 : doS 5 (some (0, 4607182418800017408)) (some (0, 4607182418800017408)) (some (0, 4611686018427387904)) (gd 0) (gd 0) = 4372995238176751616 := by decide +kernel
theorem d2 : doS 8 (some (4607182418800017408, 4607182418800017408)) (some (0, 4611686018427387904)) (some (NINF, INF)) (gd 0) (gd 0) = INF := by decide +kernel
theorem d3 : rnu 4607182418800017408 = 4368491638549381120 := by decide +kernel
theorem d4 : rnu 0 = 0 := by decide +kernel
theorem d5 : jn 0 [4607182418800017408, 4611686018427387904, 0] = 4611686018427387904 := by decide +kernel
theorem d6 : wds 4607182418800017408 4611686018427387904 [4616189618054758400] = 4616189618054758400 := by decide +kernel
theorem d7 : wds 4611686018427387904 4607182418800017408 [] = 4611686018427387904 := by decide +kernel
theorem d8 : gd 13830554455654793216 = INF := by decide +kernel
theorem d9 : gd 9223372036854775808 = 0 := by decide +kernel
theorem works19_ev : Ev (fun k => flyballlaw19_works.f k) true := by
 have W01 := wf_of (by decide) (by decide) n01
 have W02 := wf_of (by decide) (by decide) n02
 have W11 := wf_of (by decide) (by decide) n11
 have Wall := wf_of (by decide) (by decide) nall
 have D1 := sDo_ev 5 (Is.enc W01) (Is.enc W01) (Is.enc W02) 0 0 (by decide) (by decide)
 have D2 := sDo_ev 8 (Is.enc W11) (Is.enc W02) (Is.enc Wall) 0 0 (by decide) (by decide)
 have D3 := rnu_ev 4607182418800017408 (by decide)
 have D4 := rnu_ev 0 (by decide)
 have D5 := jn_ev [4607182418800017408, 4611686018427387904, 0] (by decide) (by decide)
 have D5' := jn_ev [] (by decide) (by intro x hx; cases hx)
 have D6 := sWds_ev 4607182418800017408 4611686018427387904 (by decide) (by decide) [4616189618054758400] (by decide) (by decide)
 have D7 := sWds_ev 4611686018427387904 4607182418800017408 (by decide) (by decide) [] (by decide) (by intro x hx; cases hx)
 have D8 := gd_ev 13830554455654793216 (by decide)
 have D9 := gd_ev 9223372036854775808 (by decide)
 rw [d1] at D1
 rw [d2] at D2
 rw [d3] at D3
 rw [d4] at D4
 rw [d5] at D5
 rw [d6] at D6
 rw [d7] at D7
 rw [d8] at D8
 rw [d9] at D9
 unfold flyballlaw19_works.f
 refine Ev.b _ (mk_ev 0 _ _ (by decide) (by decide) n01) (Ev.b _ (mk_ev 0 _ _ (by decide) (by decide) n02) ?_)
 refine Ev.b _ D3 (Ev.ift rfl ?_)
 refine Ev.b _ D1 (Ev.ift rfl ?_)
 refine Ev.b _ (pt_ev _ _ (by decide) n11) ?_
 refine Ev.b (enc (some (NINF, INF))) (by have := sAll_ev; rw [nall] at this; exact this) ?_
 refine Ev.b _ D2 (Ev.b _ (Inf_ev false) (Ev.ift rfl ?_))
 refine Ev.b _ D4 (Ev.ift rfl ?_)
 refine Ev.b _ D5 (Ev.ift rfl ?_)
 refine Ev.b _ D5' (Ev.ift rfl ?_)
 refine Ev.b _ D6 (Ev.ift rfl ?_)
 refine Ev.b _ D7 (Ev.ift rfl ?_)
 refine Ev.b _ D8 (Ev.b _ (Inf_ev false) (Ev.ift rfl ?_))
 exact Ev.b _ D9 (Ev.now _)
end Go.Proofs.Ytmadjhmecfbcmaa.M
end
section
namespace Go.Proofs.Ytmadjhmecfbcmaa.M
open Go.RowKit Go.Proofs.YtmadjhmecfbcmaaW.PrintWords Go.Proofs.YtmadjhmecfbcmaaW.PrintLast Go.Proofs.YtmadjhmecfbcmaaW.PrintMore Go.Proofs.Ytmadjhmecfbcmaa.F
structure In (p : Nat × Nat) (f : Nat) : Prop where
 fl : Fl f
 a1 : -9218868437227405312 < ord f
 a2 : ord f < 9218868437227405312
 l : ord p.1 ≤ ord f
 r : ord f ≤ ord p.2
theorem has_in {p : Nat × Nat} (hp : W2 p) {f : Nat} (hf : U f) : hasS (some p) f = true ↔ In p f := by
 have lf := cls_le f
 unfold hasS
 dsimp only
 rw [Bool.and_eq_true, Bool.and_eq_true, decide_eq_true_iff]
 constructor
 ·rintro ⟨c, h1, h2⟩
  obtain ⟨_, n, o1⟩ := le_nan h1
  have F : Fl f := ⟨hf, n⟩
  obtain ⟨b1, b2⟩ := (fin_iff F).1 (by omega)
  exact ⟨F, b1, b2, o1, (le_nan h2).2.2⟩
 ·rintro ⟨F, b1, b2, l, r⟩
  have := (fin_iff F).2 ⟨b1, b2⟩
  exact ⟨by omega, (le_iff hp.n1 F.n).2 l, (le_iff F.n hp.n2).2 r⟩
end Go.Proofs.Ytmadjhmecfbcmaa.M
end
section
namespace Go.Proofs.Ytmadjhmecfbcmaa.M
open Go.RowKit Go.Proofs.YtmadjhmecfbcmaaW.PrintWords Go.Proofs.YtmadjhmecfbcmaaW.PrintLast Go.Proofs.YtmadjhmecfbcmaaW.PrintMore Go.Proofs.Ytmadjhmecfbcmaa.F
theorem away {t : Sp} (h : WF t) (tn : t ≠ none) (n0 : ¬ hasS t 0 = true) : ∃ n, absS t = some n ∧ W2 n ∧ 0 < ord n.1 := by
 cases t with
 | none => exact absurd rfl tn
 | some y =>
  have hy := W2.of h
  obtain ⟨n, e, w, p, a1, a2, a3⟩ := abs_ok hy
  refine ⟨n, e, w, ?_⟩
  have o := hy.o
  have c : ¬ (ord y.1 ≤ 0 ∧ 0 ≤ ord y.2) := by
   rintro ⟨x1, x2⟩
   apply n0
   rw [has_in hy (by decide)]
   exact ⟨Fl0, by rw [ord0]; decide, by rw [ord0]; decide, by rw [ord0]; exact x1, by rw [ord0]; exact x2⟩
  omega
theorem zero_mono {t t' : Sp} (h : WF t) (h' : WF t') (u : sub t t') (z : hasS t 0 = true) : hasS t' 0 = true := by
 cases t with
 | none => cases z
 | some p => cases t' with
  | none => exact u.elim
  | some q =>
   have a := (has_in (W2.of h) (by decide)).1 z
   have l := a.l
   have r := a.r
   obtain ⟨u1, u2⟩ := u
   exact (has_in (W2.of h') (by decide)).2 ⟨a.fl, a.a1, a.a2, by omega, by omega⟩
theorem dlow {n q : Nat} (fn : Fl n) (ln : ord n < 9218868437227405312) (pn : 0 < ord n) (gq : G q) : Fl (sAdd n (ng q) 2).1 ∧ (ord q = 9218868437227405312 → ord (sAdd n (ng q) 2).1 = -9218868437227405312) ∧
  (ord q < 9218868437227405312 → ord (sAdd n (ng q) 2).1 = rq (2 * (sv n - sv q)) 1 2) ∧ ord (sAdd n (ng q) 2).1 < 9218868437227405312 := by
 have o := gq.fl.ng_ord
 have p := gq.p
 have b := gq.fl.bd
 obtain ⟨f, l, i, r⟩ := add_lo fn gq.fl.ng ln (by omega)
 have s := ng_sv q gq.fl.u gq.fl.n
 rw [s, ← Int.sub_eq_add_neg] at r
 exact ⟨f, fun h => i (.inr (by omega)), fun h => r (by omega) (by omega), l⟩
theorem quo_mono {s s' t t' : Sp} {p p' q q' r r' : Nat} (hs : WF s) (hs' : WF s') (ht : WF t) (ht' : WF t') (tn : t ≠ none) (us : sub s s') (ut : sub t t') (gp : G p) (gp' : G p') (gq : G q) (gq' : G q') (gr : G r) (gr' : G r')
  (hp : ord p ≤ ord p') (hq : ord q ≤ ord q') (hr : ord r ≤ ord r') : ord (quo s t p q r) ≤ ord (quo s' t' p' q' r') := by
 have top : ∀ x, G x → ord x ≤ ord INF := fun x g => by rw [oINF]; exact g.fl.bd.2
 have gQ : ∀ (s t : Sp) (p q r : Nat), G p → G q → G r → G (quo s t p q r) := by
  intro s t p q r gp gq gr
  unfold quo
  split
  ·exact GINF
  ·split
   ·exact GINF
   ·split
    ·exact ad_G (dv_G _ _) gr
    ·exact GINF
 have g := gQ s t p q r gp gq gr
 have tn' : t' ≠ none := by
  intro x
  cases t with
  | none => exact tn rfl
  | some y => rw [x] at ut; exact ut.elim
 unfold quo at g ⊢
 by_cases z' : hasS t' 0 = true
 ·rw [if_pos z']; exact top _ g
 ·rw [if_neg z']
  have z : ¬ hasS t 0 = true := fun x => z' (zero_mono ht ht' ut x)
  rw [if_neg z] at g ⊢
  obtain ⟨n, en, wn, pn⟩ := away ht tn z
  obtain ⟨n', en', wn', pn'⟩ := away ht' tn' z'
  have ab := abs_sub ht ht' ut
  rw [en, en'] at ab
  obtain ⟨ab1, ab2⟩ := ab
  rw [en] at g ⊢
  rw [en']
  dsimp only at g ⊢
  obtain ⟨f1, i1, r1, l1⟩ := dlow wn.f1 wn.l pn gq
  obtain ⟨f2, i2, r2, l2⟩ := dlow wn'.f1 wn'.l pn' gq'
  have bq := gq.fl.bd
  have bq' := gq'.fl.bd
  have m1 := sv_mono ab1
  have m2 := sv_mono hq
  have mm := rq_mono 1 2 (show 2 * (sv n'.1 - sv q') ≤ 2 * (sv n.1 - sv q) by omega)
  have lt1 := less_m Fl0 f1
  have lt2 := less_m Fl0 f2
  rw [ord0] at lt1 lt2
  have bd1 := f1.bd
  have dle : ord (sAdd n'.1 (ng q') 2).1 ≤ ord (sAdd n.1 (ng q) 2).1 := by omega
  generalize (sAdd n.1 (ng q) 2).1 = d at *
  generalize (sAdd n'.1 (ng q') 2).1 = d' at *
  by_cases c' : 0 < ord d'
  ·rw [lt2, decide_eq_true c', if_pos rfl, lt1, decide_eq_true (show 0 < ord d by omega), if_pos rfl]
   have gm := most_G hs
   have gm' := most_G hs'
   have k1 := dv_mono gm gm' wn.f1 wn'.f1 pn' (most_mono hs hs' us) ab1
   have k2 := mu_mono (dv_G _ _) gq (dv_G _ _) gq' k1 hq
   have k3 := ad_mono (mu_G (dv_G _ _) gq) gp (mu_G (dv_G _ _) gq') gp' k2 hp
   have k4 := dv_mono (ad_G (mu_G (dv_G _ _) gq) gp) (ad_G (mu_G (dv_G _ _) gq') gp') f1 f2 c' k3 dle
   exact ad_mono (dv_G _ _) gr (dv_G _ _) gr' k4 hr
  ·rw [lt2, decide_eq_false c', if_neg (show ¬ false = true by decide)]
   exact top _ g
theorem rOf_mono (op : Int) {s s' t t' u u' : Sp} (hs : WF s) (hs' : WF s') (ht : WF t) (ht' : WF t') (hu : WF u) (hu' : WF u') (us : sub s s') (ut : sub t t') (uu : sub u u') : ord (rOf op s t u) ≤ ord (rOf op s' t' u') := by
 have R := rnu_mono (most_G hu) (most_G hu') (most_mono hu hu' uu)
 have g := rnu_G (most_G hu).fl.u
 have g' := rnu_G (most_G hu').fl.u
 have z := G_zero g
 have z' := G_zero g'
 have p := g.p
 have p' := g'.p
 have ms := most_mono hs hs' us
 have mt := most_mono ht ht' ut
 have q1 := G_zero (most_G hs)
 have q2 := G_zero (most_G hs')
 have q3 := G_zero (most_G ht)
 have q4 := G_zero (most_G ht')
 have o1 := (most_G hs).p
 have o3 := (most_G ht).p
 have fm : fad op s t = true → fad op s' t' = true := by
  unfold fad
  split
  ·intro h
   split at h
   ·cases h
   ·rw [decide_eq_true_iff] at h
    have : mostS s' ≠ 0 := by omega
    rw [if_neg this, decide_eq_true_iff]; omega
  ·split
   ·rw [decide_eq_true_iff, decide_eq_true_iff]; omega
   ·exact id
 unfold rOf
 generalize rnu (mostS u) = x at *
 generalize rnu (mostS u') = x' at *
 by_cases c : fad op s t = true ∧ x = 0
 ·rw [if_pos c, ord1]
  split
  ·rw [ord1]; omega
  ·rename_i n
   have : x' ≠ 0 := fun y => n ⟨fm c.1, y⟩
   omega
 ·rw [if_neg c]
  split
  ·rename_i n
   rw [ord1]
   omega
  ·exact R
theorem doS_mono (op : Int) {s s' t t' u u' : Sp} {p p' q q' : Nat} (hs : WF s) (hs' : WF s') (ht : WF t) (ht' : WF t') (hu : WF u) (hu' : WF u') (us : sub s s') (ut : sub t t') (uu : sub u u') (sn : s ≠ none) (tn : t ≠ none) (un : u ≠ none)
  (gp : G p) (gp' : G p') (gq : G q) (gq' : G q') (hp : ord p ≤ ord p') (hq : ord q ≤ ord q') : G (doS op s t u p q) ∧ G (doS op s' t' u' p' q') ∧ ord (doS op s t u p q) ≤ ord (doS op s' t' u' p' q') := by
 have nn : ∀ {a b : Sp}, sub a b → a ≠ none → b ≠ none := by
  intro a b h k x
  cases a with
  | none => exact k rfl
  | some y => rw [x] at h; exact h.elim
 have sn' := nn us sn
 have tn' := nn ut tn
 have un' := nn uu un
 have r := rOf_mono op hs hs' ht ht' hu hu' us ut uu
 have gr := rOf_G op (s := s) (t := t) hu
 have gr' := rOf_G op (s := s') (t := t') hu'
 have top : ∀ x, G x → ord x ≤ ord INF := fun x g => by rw [oINF]; exact g.fl.bd.2
 unfold doS
 rw [if_neg (by rintro (x | x | x); exact sn x; exact un x; exact tn x.2.2), if_neg (by rintro (x | x | x); exact sn' x; exact un' x; exact tn' x.2.2)]
 generalize rOf op s t u = r1 at *
 generalize rOf op s' t' u' = r2 at *
 unfold doR
 by_cases c5 : op = 5 ∨ op = 6
 ·rw [if_pos c5, if_pos c5]
  exact ⟨ad_G (ad_G gp gq) gr, ad_G (ad_G gp' gq') gr', ad_mono (ad_G gp gq) gr (ad_G gp' gq') gr' (ad_mono gp gq gp' gq' hp hq) r⟩
 ·rw [if_neg c5, if_neg c5]
  by_cases c7 : op = 7
  ·rw [if_pos c7, if_pos c7]
   have ms := most_G hs
   have mt := most_G ht
   have ms' := most_G hs'
   have mt' := most_G ht'
   have A : G (ad (ad (ad (mu (mostS s) q) (mu (mostS t) p)) (mu p q)) r1) := ad_G (ad_G (ad_G (mu_G ms gq) (mu_G mt gp)) (mu_G gp gq)) gr
   have A' : G (ad (ad (ad (mu (mostS s') q') (mu (mostS t') p')) (mu p' q')) r2) := ad_G (ad_G (ad_G (mu_G ms' gq') (mu_G mt' gp')) (mu_G gp' gq')) gr'
   have i1 := G_inf gp
   have i2 := G_inf gq
   have i3 := G_inf gp'
   have i4 := G_inf gq'
   have b3 := gp'.fl.bd
   have b4 := gq'.fl.bd
   by_cases c : p' = INF ∨ q' = INF
   ·rw [if_pos c]
    refine ⟨?_, GINF, ?_⟩
    ·split
     ·exact GINF
     ·exact A
    ·split
     ·exact Int.le_refl _
     ·exact top _ A
   ·have c2 : ¬ (p = INF ∨ q = INF) := by omega
    rw [if_neg c, if_neg c2]
    refine ⟨A, A', ?_⟩
    have k1 := mu_mono ms gq ms' gq' (most_mono hs hs' us) hq
    have k2 := mu_mono mt gp mt' gp' (most_mono ht ht' ut) hp
    have k3 := ad_mono (mu_G ms gq) (mu_G mt gp) (mu_G ms' gq') (mu_G mt' gp') k1 k2
    have k4 := mu_mono gp gq gp' gq' hp hq
    have k5 := ad_mono (ad_G (mu_G ms gq) (mu_G mt gp)) (mu_G gp gq) (ad_G (mu_G ms' gq') (mu_G mt' gp')) (mu_G gp' gq') k3 k4
    exact ad_mono (ad_G (ad_G (mu_G ms gq) (mu_G mt gp)) (mu_G gp gq)) gr (ad_G (ad_G (mu_G ms' gq') (mu_G mt' gp')) (mu_G gp' gq')) gr' k5 r
  ·rw [if_neg c7, if_neg c7]
   by_cases c8 : op = 8
   ·rw [if_pos c8, if_pos c8]
    have gQ : ∀ (s t : Sp) (p q r : Nat), G p → G q → G r → G (quo s t p q r) := by
     intro s t p q r gp gq gr
     unfold quo
     split
     ·exact GINF
     ·split
      ·exact GINF
      ·split
       ·exact ad_G (dv_G _ _) gr
       ·exact GINF
    exact ⟨gQ _ _ _ _ _ gp gq gr, gQ _ _ _ _ _ gp' gq' gr', quo_mono hs hs' ht ht' tn us ut gp gp' gq gq' gr gr' hp hq r⟩
   ·rw [if_neg c8, if_neg c8]
    by_cases c17 : op = 17 ∨ op = 21
    ·rw [if_pos c17, if_pos c17]; exact ⟨gp, gp', hp⟩
    ·rw [if_neg c17, if_neg c17]
     split
     ·exact ⟨G0, G0, Int.le_refl _⟩
     ·exact ⟨GINF, GINF, Int.le_refl _⟩
theorem jn2 {a b : Nat} (ha : U a) (hb : U b) : ∃ x, jn 0 [a, b] = x ∧ U x ∧ G (gd x) ∧ ord (gd a) ≤ ord (gd x) := by
 have ga := gd_G ha
 have gb := gd_G hb
 have G2 : G (jn 0 [a, b]) := hr_G (hr_G G0 ga) gb
 have e : jn 0 [a, b] = hr (hr 0 (gd a)) (gd b) := rfl
 have s1 := hr_spec 0 (gd a)
 have s2 := hr_spec (hr 0 (gd a)) (gd b)
 refine ⟨_, rfl, G2.fl.u, gd_G G2.fl.u, ?_⟩
 rw [gd_id G2, e]
 omega
theorem SlipRises (op : Int) (e1 : Bool) (a1 b1 : Int) (e2 : Bool) (a2 b2 : Int) (e3 : Bool) (a3 b3 : Int) (e4 : Bool) (a4 b4 : Int) (a5 a6 a7 : Int)
  (_h0 : (Lit.int .u8 op).wf = true) (h1 : (Lit.int .u64 a1).wf = true) (k1 : (Lit.int .u64 b1).wf = true) (h2 : (Lit.int .u64 a2).wf = true) (k2 : (Lit.int .u64 b2).wf = true) (h3 : (Lit.int .u64 a3).wf = true) (k3 : (Lit.int .u64 b3).wf = true) (h4 : (Lit.int .u64 a4).wf = true) (k4 : (Lit.int .u64 b4).wf = true)
  (h5 : (Lit.int .u64 a5).wf = true) (h6 : (Lit.int .u64 a6).wf = true) (h7 : (Lit.int .u64 a7).wf = true) :
  ∃ k, flyballlaw19_SlipRises.f k op e1 a1 b1 e2 a2 b2 e3 a3 b3 e4 a4 b4 a5 a6 a7 = some true := by
 obtain ⟨s, hs⟩ := Is.lit (e := e1) h1 k1
 obtain ⟨t, ht⟩ := Is.lit (e := e2) h2 k2
 obtain ⟨u, hu⟩ := Is.lit (e := e3) h3 k3
 obtain ⟨c, hc⟩ := Is.lit (e := e4) h4 k4
 obtain ⟨ea, rfl, ua⟩ := wf_u64 h5
 obtain ⟨eb, rfl, ub⟩ := wf_u64 h6
 obtain ⟨mo, rfl, um⟩ := wf_u64 h7
 have ws := hs.wf
 have wt := ht.wf
 have wu := hu.wf
 have wc := hc.wf
 refine Ev.ex (r := true) ?_
 unfold flyballlaw19_SlipRises.f
 refine Ev.b _ works19_ev (Ev.ift rfl ?_)
 refine Ev.b _ (Join1_ev hs) (Ev.b _ (Join1_ev ht) (Ev.b _ (Join1_ev hu) ?_))
 have J0 : ∀ X : Bool, (X = false → s ≠ none ∧ t ≠ none ∧ u ≠ none) → Ev (fun k => flyballlaw19_SlipRises.j0 k op (ea : Int) (eb : Int) (mo : Int) true X e1 a1 b1 e2 a2 b2 e3 a3 b3 e4 a4 b4) true := by
  intro X hX
  refine Ev.next ?_
  simp only [flyballlaw19_SlipRises.j0]
  cases X
  ·obtain ⟨sn, tn, un⟩ := hX rfl
   refine Ev.iff (by decide) ?_
   have w1 := join_WF ws wc
   have w2 := join_WF wt wc
   have w3 := join_WF wu wc
   obtain ⟨x, ex, ux, gx, ox⟩ := jn2 ua um
   obtain ⟨y, ey, uy, gy, oy⟩ := jn2 ub um
   have J1 := jn_ev [ea, mo] (by simp) (by intro z hz; simp at hz; rcases hz with rfl | rfl; exact ua; exact um)
   have J2 := jn_ev [eb, mo] (by simp) (by intro z hz; simp at hz; rcases hz with rfl | rfl; exact ub; exact um)
   rw [ex] at J1
   rw [ey] at J2
   refine Ev.b _ (sDo_ev op hs ht hu ea eb ua ub) (Ev.b _ (Join2_ev hs hc) (Ev.b _ (Join2_ev ht hc) (Ev.b _ (Join2_ev hu hc) (Ev.b _ J1 (Ev.b _ J2 ?_)))))
   refine Ev.b _ (sDo_ev op (Is.enc w1) (Is.enc w2) (Is.enc w3) x y ux uy) (Ev.ift trivial ?_)
   obtain ⟨g1, g2, o⟩ := doS_mono op ws w1 wt w2 wu w3 (sub_l s c) (sub_l t c) (sub_l u c) sn tn un (gd_G ua) gx (gd_G ub) gy ox oy
   refine Ev.b _ (Less_ev _ _ g2.fl.u g1.fl.u) ?_
   rw [less_m g2.fl g1.fl, decide_eq_false (by omega)]
   exact Ev.now _
  ·exact Ev.ift rfl (Ev.now _)
 cases s with
 | none => exact Ev.ift e_none (J0 true (fun x => by cases x))
 | some p =>
  refine Ev.iff (e_some p) ?_
  cases t with
  | none => exact Ev.ift e_none (J0 true (fun x => by cases x))
  | some q =>
   refine Ev.iff (e_some q) ?_
   cases u with
   | none => exact J0 true (fun x => by cases x)
   | some r => exact J0 false (fun _ => ⟨fun x => (by cases x), fun x => (by cases x), fun x => (by cases x)⟩)
end Go.Proofs.Ytmadjhmecfbcmaa.M
end
