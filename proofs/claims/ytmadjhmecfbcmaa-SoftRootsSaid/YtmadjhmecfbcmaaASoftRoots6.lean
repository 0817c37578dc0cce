/- The walk of the law SoftRoots and what it computes, part 6 of 6: no conditions. -/
import Derived.Test.YtmadjhmecfbcmaaASoftRoots5
set_option linter.unusedVariables false
set_option linter.unusedSimpArgs false
section
namespace Go.Proofs.Ytmadjhmecfbcmaa.M
open Go.RowKit Go.Proofs.YtmadjhmecfbcmaaW.PrintWords Go.Proofs.YtmadjhmecfbcmaaW.PrintLast Go.Proofs.YtmadjhmecfbcmaaW.PrintMore Go.Proofs.Ytmadjhmecfbcmaa.F
def isqA (a : Nat) : Nat → Nat → Nat
  | 0, r => r
  | j + 1, r => if (r + 2 ^ j) * (r + 2 ^ j) ≤ a then isqA a j (r + 2 ^ j) else isqA a j r
def isq (a : Nat) : Nat := isqA a 64 0
theorem isqA_spec (a : Nat) : ∀ (j r : Nat), r * r ≤ a → a < (r + 2 ^ j) * (r + 2 ^ j) → isqA a j r * isqA a j r ≤ a ∧ a < (isqA a j r + 1) * (isqA a j r + 1) ∧ r ≤ isqA a j r ∧ isqA a j r < r + 2 ^ j
  | 0, r, h1, h2 => by unfold isqA; rw [Nat.pow_zero] at h2 ⊢; exact ⟨h1, h2, Nat.le_refl _, by omega⟩
  | j + 1, r, h1, h2 => by
    unfold isqA
    have e : 2 ^ (j + 1) = 2 ^ j + 2 ^ j := by rw [Nat.pow_succ]; omega
    have p := two_pos j
    split
    · rename_i c
      have := isqA_spec a j (r + 2 ^ j) c (by rw [Nat.add_assoc, ← e]; exact h2)
      omega
    · rename_i c
      have := isqA_spec a j r h1 (by omega)
      omega
theorem isq_spec (a : Nat) (h : a < 340282366920938463463374607431768211456) : isq a * isq a ≤ a ∧ a < (isq a + 1) * (isq a + 1) ∧ isq a < 18446744073709551616 := by
  have := isqA_spec a 64 0 (by omega) (by simp; omega)
  unfold isq
  refine ⟨this.1, this.2.1, ?_⟩
  have h2 := this.2.2.2
  rw [Nat.zero_add] at h2; exact h2
theorem Cmp_tw (p q : Nat) : wide_U128_Cmp.f (tw p).1 (tw p).2 (tw q).1 (tw q).2 = some (if p < q then -1 else if q < p then 1 else 0) := by
  unfold wide_U128_Cmp.f tw
  dsimp only
  congr 1
  (repeat' split) <;> omega
theorem Sqrt_l (a : Nat) (ha : a < 340282366920938463463374607431768211456) : ∀ (j r : Nat), r % 2 ^ j = 0 → r + 2 ^ j ≤ 18446744073709551616 → r * r ≤ a →
    Ev (fun k => wide_U128_Sqrt.l0 k (r : Int) ((2 ^ j / 2 : Nat) : Int) (tw a).1 (tw a).2) ((isqA a j r : Int), (tw (a - isqA a j r * isqA a j r)).1, (tw (a - isqA a j r * isqA a j r)).2)
  | 0, r, _, h2, h3 => by
    refine Ev.next ?_
    simp only [wide_U128_Sqrt.l0]
    have S := U128_Sub a (r * r) ha h3
    unfold isqA
    have hr : r < 18446744073709551616 := by rw [Nat.pow_zero] at h2; omega
    have e0 : ((2 ^ 0 / 2 : Nat) : Int) = 0 := rfl
    rw [e0]
    refine Ev.congr (fun k => by rw [if_neg (Int.lt_irrefl 0)]) (Ev.b _ (Ev.const (wMul_ok r r hr hr)) ?_)
    dsimp only
    refine Ev.b _ (Ev.const S) (Ev.all fun k => ?_)
    rfl
  | j + 1, r, h1, h2, h3 => by
    have e : 2 ^ (j + 1) / 2 = 2 ^ j := by rw [Nat.pow_succ]; omega
    have e2 : 2 ^ (j + 1) = 2 ^ j + 2 ^ j := by rw [Nat.pow_succ]; omega
    have p := two_pos j
    have h4 : r % 2 ^ j = 0 := by
      have : r % 2 ^ (j + 1) % 2 ^ j = r % 2 ^ j := Nat.mod_mod_of_dvd _ (by rw [Nat.pow_succ]; exact Nat.dvd_mul_right _ _)
      rw [← this, h1]; simp
    have ho : bits .or .u64 (r : Int) ((2 ^ j : Nat) : Int) = ((r + 2 ^ j : Nat) : Int) := or_join r (2 ^ j) (j + 1) (by omega) (by omega) h1 (by omega)
    have eh : ((2 ^ j : Nat) : Int) / 2 = ((2 ^ j / 2 : Nat) : Int) := by omega
    refine Ev.next ?_
    simp only [wide_U128_Sqrt.l0]
    rw [e, ho, eh]
    refine Ev.congr (fun k => by rw [if_pos (by omega)]) (Ev.b _ (Ev.const (wMul_ok (r + 2 ^ j) (r + 2 ^ j) (by omega) (by omega))) ?_)
    dsimp only
    refine Ev.b _ (Ev.const (Cmp_tw _ _)) ?_
    unfold isqA
    by_cases c : (r + 2 ^ j) * (r + 2 ^ j) ≤ a
    · rw [if_pos c]
      have := Sqrt_l a ha j (r + 2 ^ j) (by rw [Nat.add_mod_right, h4]) (by omega) c
      exact Ev.congr (fun k => by rw [if_pos (by (repeat' split) <;> omega)]) this
    · rw [if_neg c]
      have := Sqrt_l a ha j r h4 (by omega) h3
      exact Ev.congr (fun k => by rw [if_neg (by (repeat' split) <;> omega)]) this
theorem U128_Sqrt (a : Nat) (ha : a < 340282366920938463463374607431768211456) :
    Ev (fun k => wide_U128_Sqrt.f k (tw a).1 (tw a).2) ((isq a : Int), (tw (a - isq a * isq a)).1, (tw (a - isq a * isq a)).2) := by
  have := Sqrt_l a ha 64 0 (by decide) (by decide) (by omega)
  exact this
def rk (a : Nat) : Nat := if (spe a - (126 - (bl (spm a) : Int))) % 2 = 0 then 126 - bl (spm a) else 127 - bl (spm a)
def rM (a : Nat) : Nat := spm a * 2 ^ rk a
def rE (a : Nat) : Int := (spe a - rk a) / 2
def sSqrt (a mode : Nat) : Nat × Nat :=
  if cls a = 4 then (QN, 0)
  else if cls a = 0 then (a, 0)
  else if sgn a = true then (QN, 16)
  else if cls a = 3 then (a, 0)
  else RND false (FX (isq (rM a)) 1 (rE a)) (FS (isq (rM a)) 1 (rE a) (decide (rM a - isq (rM a) * isq (rM a) ≠ 0))) mode
theorem root_bd (a : Nat) (h : cls a ≤ 2) (h0 : cls a ≠ 0) : 1 ≤ bl (spm a) ∧ bl (spm a) ≤ 53 ∧ rk a ≤ 126 ∧ 73 ≤ rk a ∧ rM a < 170141183460469231731687303715884105728 ∧ 42535295865117307932921825928971026432 ≤ rM a ∧ (spe a - rk a) % 2 = 0 ∧ spm a ≠ 0 := by
  have z : spm a ≠ 0 := fun h2 => h0 ((spm_zero a h).1 h2)
  have hb := bl_bd (spm a) z
  have hb2 : bl (spm a) ≤ 53 := bl_le (n := 53) (spm_lt a)
  have hk : rk a = 126 - bl (spm a) ∨ rk a = 127 - bl (spm a) := by unfold rk; split; exact .inl rfl; exact .inr rfl
  have hpar : (spe a - rk a) % 2 = 0 := by unfold rk; split <;> omega
  refine ⟨hb.1, hb2, by omega, by omega, ?_, ?_, hpar, z⟩
  · have h1 : spm a * 2 ^ rk a < 2 ^ bl (spm a) * 2 ^ rk a := Nat.mul_lt_mul_of_pos_right hb.2.2 (two_pos _)
    rw [← Nat.pow_add] at h1
    have h2 : 2 ^ (bl (spm a) + rk a) ≤ 2 ^ 127 := pow_le (by omega)
    exact Nat.lt_of_lt_of_le h1 h2
  · have h1 : 2 ^ (bl (spm a) - 1) * 2 ^ rk a ≤ spm a * 2 ^ rk a := Nat.mul_le_mul_right _ hb.2.1
    rw [← Nat.pow_add] at h1
    have h2 : 2 ^ 125 ≤ 2 ^ (bl (spm a) - 1 + rk a) := pow_le (by omega)
    exact Nat.le_trans h2 h1
theorem rt1 {r M : Nat} (h1 : M < (r + 1) * (r + 1)) (h2 : 42535295865117307932921825928971026432 ≤ M) : 9007199254740992 ≤ r := by
  by_cases c : 9007199254740992 ≤ r
  · exact c
  · have : (r + 1) * (r + 1) ≤ 9007199254740992 * 9007199254740992 := Nat.mul_le_mul (by omega) (by omega)
    omega
theorem Sqrt_ev (a mode : Nat) (ha : U a) : Ev (fun k => soft_Sqrt.f k (a : Int) (mode : Int)) (pr (sSqrt a mode)) := by
  unfold soft_Sqrt.f
  refine Ev.b _ (of_ev a ha) ?_
  dsimp only
  have a0e : ((cls a : Int) == 0) = decide (cls a = 0) := eq_nat _ 0
  rw [a0e]
  by_cases c4 : cls a = 4
  · have hS : sSqrt a mode = (QN, 0) := by unfold sSqrt; rw [if_pos c4]
    rw [hS]
    exact Ev.congr (fun k => by rw [if_pos (by omega)]) (Ev.b (f := fun _ x => some (x, (0 : Int))) _ (Ev.const Quiet_ok) (Ev.now _))
  have J : Ev (fun k => soft_Sqrt.j0 k (a : Int) (mode : Int) (decide (cls a = 0 ∨ cls a = 3 ∧ sgn a = false)) (a : Int) (cls a : Int) (sgn a) (spm a : Int) (spe a)) (pr (sSqrt a mode)) := by
    refine Ev.next ?_
    simp only [soft_Sqrt.j0]
    by_cases c : cls a = 0 ∨ cls a = 3 ∧ sgn a = false
    · have hS : sSqrt a mode = (a, 0) := by
        unfold sSqrt; rw [if_neg c4]
        rcases c with c | ⟨c, d⟩
        · rw [if_pos c]
        · rw [if_neg (by omega), if_neg (by rw [d]; simp), if_pos c]
      rw [hS, decide_eq_true c]
      exact Ev.all fun k => by rw [if_pos rfl]; rfl
    rw [decide_eq_false c]
    have n0 : ¬ cls a = 0 := fun h => c (.inl h)
    by_cases cs : sgn a = true
    · have hS : sSqrt a mode = (QN, 16) := by unfold sSqrt; rw [if_neg c4, if_neg n0, if_pos cs]
      rw [hS]
      exact Ev.congr (fun k => by rw [if_neg (by simp), if_pos cs]) (Ev.b (f := fun _ x => some (x.1, x.2)) _ (Ev.const invalid_ok) (Ev.now _))
    have n3 : ¬ cls a = 3 := fun h => c (.inr ⟨h, by cases h2 : sgn a; rfl; exact absurd h2 cs⟩)
    have ka : cls a ≤ 2 := by have := cls_le a; omega
    obtain ⟨b1, b2, b3, b4, b5, b6, b7, b8⟩ := root_bd a ka n0
    have ea := spe_bd a
    have hS : RND false (FX (isq (rM a)) 1 (rE a)) (FS (isq (rM a)) 1 (rE a) (decide (rM a - isq (rM a) * isq (rM a) ≠ 0))) mode = sSqrt a mode := by
      unfold sSqrt; rw [if_neg c4, if_neg n0, if_neg cs, if_neg n3]
    have L : wide_U128_Len.f 0 (spm a : Int) = some (bl (spm a) : Int) := by
      have := Len_tw (spm a) (by have := spm_lt a; omega)
      rw [tw_word (by have := spm_lt a; omega)] at this; exact this
    have Sh : Ev (fun k => wide_U128_Shl.f k 0 (spm a : Int) (rk a : Int)) (tw (rM a)) := by
      have := Shl_tw (spm a) (rk a) (by have := spm_lt a; omega) (by omega)
      rw [tw_word (by have := spm_lt a; omega), Nat.mod_eq_of_lt (by show rM a < _; omega)] at this; exact this
    have Sq := U128_Sqrt (rM a) (by omega)
    have sp := isq_spec (rM a) (by omega)
    have hr := rt1 sp.2.1 b6
    have R := Round_ev false (isq (rM a)) (rE a) (decide (rM a - isq (rM a) * isq (rM a) ≠ 0)) mode (by omega)
    have hbl54 : 53 < bl (isq (rM a)) := by
      by_cases c9 : bl (isq (rM a)) ≤ 53
      · have := bl_small c9; omega
      · omega
    have hrE : -700 ≤ rE a ∧ rE a ≤ 700 := by unfold rE; omega
    rw [if_neg (by omega), cl_id (by omega) (by omega), decide_eq_true hbl54, Bool.and_true, hS, tw_word sp.2.2] at R
    have hz : (!((tw (rM a - isq (rM a) * isq (rM a))).1 == 0) || (!((tw (rM a - isq (rM a) * isq (rM a))).2 == 0))) = decide (rM a - isq (rM a) * isq (rM a) ≠ 0) := by
      have := tw_eq_zero (rM a - isq (rM a) * isq (rM a)) (by omega)
      rw [← Bool.not_and, this, Bool.eq_iff_iff]; simp
    have w1 : wrap64 (126 - (bl (spm a) : Int)) = 126 - (bl (spm a) : Int) := w64 (by omega) (by omega)
    have w2 : wrap64 (spe a - (126 - (bl (spm a) : Int))) = spe a - (126 - (bl (spm a) : Int)) := w64 (by omega) (by omega)
    have w3 : wrap64 (126 - (bl (spm a) : Int) + 1) = 127 - (bl (spm a) : Int) := by rw [w64 (by omega) (by omega)]; omega
    have w4 : wrap64 (spe a - (127 - (bl (spm a) : Int))) = spe a - (127 - (bl (spm a) : Int)) := w64 (by omega) (by omega)
    refine Ev.congr (fun k => by rw [if_neg (by simp), if_neg cs]) (Ev.b _ (Ev.const L) ?_)
    rw [w1, w2, w3, w4]
    by_cases hp : (spe a - (126 - (bl (spm a) : Int))) % 2 = 0
    · have hk : (126 - (bl (spm a) : Int)) = (rk a : Int) := by unfold rk; rw [if_pos hp]; omega
      have ht : Int.tmod (spe a - (126 - (bl (spm a) : Int))) 2 = 0 := by
        rw [hk]; exact Int.tmod_eq_zero_of_dvd (Int.dvd_of_emod_eq_zero b7)
      have hd : wrap64 (Int.tdiv (spe a - (126 - (bl (spm a) : Int))) 2) = rE a := by
        rw [hk, Int.tdiv_eq_ediv_of_dvd (Int.dvd_of_emod_eq_zero b7)]; exact w64 (by unfold rE at hrE; omega) (by unfold rE at hrE; omega)
      rw [hd]
      refine Ev.congr (fun k => by rw [if_pos ht, hk]) (Ev.b _ Sh (Ev.b _ Sq ?_))
      dsimp only
      rw [hz]
      exact Ev.b (f := fun _ x => some (x.1, x.2)) _ R (Ev.now _)
    · have hk : (127 - (bl (spm a) : Int)) = (rk a : Int) := by unfold rk; rw [if_neg hp]; omega
      have ht : ¬ Int.tmod (spe a - (126 - (bl (spm a) : Int))) 2 = 0 := by
        intro h; exact hp (Int.emod_eq_zero_of_dvd (Int.dvd_of_tmod_eq_zero h))
      have hd : wrap64 (Int.tdiv (spe a - (127 - (bl (spm a) : Int))) 2) = rE a := by
        rw [hk, Int.tdiv_eq_ediv_of_dvd (Int.dvd_of_emod_eq_zero b7)]; exact w64 (by unfold rE at hrE; omega) (by unfold rE at hrE; omega)
      rw [hd]
      refine Ev.congr (fun k => by rw [if_neg ht, hk]) (Ev.b _ Sh (Ev.b _ Sq ?_))
      dsimp only
      rw [hz]
      exact Ev.b (f := fun _ x => some (x.1, x.2)) _ R (Ev.now _)
  by_cases n0 : cls a = 0
  · rw [decide_eq_true (.inl n0)] at J
    rw [decide_eq_true n0]
    exact Ev.congr (fun k => by rw [if_neg (by omega), if_pos (by omega)]) J
  · by_cases n3 : cls a = 3
    · have : decide (cls a = 0 ∨ cls a = 3 ∧ sgn a = false) = (!sgn a) := by
        cases h : sgn a
        · rw [decide_eq_true (.inr ⟨n3, rfl⟩)]; rfl
        · rw [decide_eq_false (by simp [n0])]; rfl
      rw [this] at J
      exact Ev.congr (fun k => by rw [if_neg (by omega), if_neg (by omega), if_pos (by omega)]) J
    · rw [decide_eq_false (by simp [n0, n3])] at J
      exact Ev.congr (fun k => by rw [if_neg (by omega), if_neg (by omega), if_neg (by omega)]) J
def sSum (mode : Nat) : Nat → List Nat → Nat
  | s, [] => s
  | s, f :: l => sSum mode (sAdd s f mode).1 l
theorem RND_U (neg : Bool) (X : Nat) (s : Bool) (mode : Nat) : U (RND neg X s mode).1 := by
  unfold U
  by_cases h : 9218868437227405312 ≤ kk X s (dir neg mode)
  · rw [RND_over h]; unfold sg; dsimp only; (repeat' split) <;> omega
  · rw [RND_in h]; unfold sg; dsimp only; split <;> omega
theorem sg_U (b : Bool) : U (sg b) := by unfold U sg; split <;> omega
theorem sAdd_U (a b mode : Nat) (ha : U a) (hb : U b) : U (sAdd a b mode).1 := by
  unfold sAdd
  (repeat' split) <;> first | assumption | exact RND_U _ _ _ _ | exact sg_U _ | (show QN < _; decide)
theorem Sum_ev (mode : Nat) (l : List Nat) (hl : l.length < 1000000) (hU : ∀ x ∈ l, U x) : ∀ (d i s : Nat), l.length - i = d → i ≤ l.length → U s →
    Ev (fun k => soft_Sum.l0 k (mode : Int) (s : Int) (l.map Nat.cast) (l.length : Int) (i : Int)) (sSum mode s (l.drop i) : Int)
  | 0, i, s, hd, hi, hs => by
    refine Ev.next ?_
    simp only [soft_Sum.l0]
    rw [List.drop_eq_nil_of_le (by omega)]
    exact Ev.all fun k => by rw [if_neg (by omega)]; rfl
  | d + 1, i, s, hd, hi, hs => by
    have hlt : i < l.length := by omega
    have hg : rd (l.map Nat.cast) (i : Int) = ((l[i] : Nat) : Int) := by
      unfold rd; rw [Int.toNat_natCast, List.getD_eq_getElem?_getD, List.getElem?_map, List.getElem?_eq_getElem hlt]; rfl
    have w1 : wrap64 ((i : Int) + 1) = ((i + 1 : Nat) : Int) := by rw [w64 (by omega) (by omega)]; omega
    have hUi := hU l[i] (List.getElem_mem hlt)
    refine Ev.next ?_
    simp only [soft_Sum.l0]
    rw [List.drop_eq_getElem_cons hlt, hg, w1, List.length_map]
    unfold sSum
    refine Ev.congr (fun k => by rw [if_pos (by omega), if_pos (by omega), if_pos (by omega)]) (Ev.b _ (Add_ev s l[i] mode hs hUi) ?_)
    exact Sum_ev mode l hl hU d (i + 1) _ (by omega) (by omega) (sAdd_U _ _ _ hs hUi)
theorem softSum_ev (mode : Nat) (l : List Nat) (hl : l.length < 1000000) (hU : ∀ x ∈ l, U x) : Ev (fun k => soft_Sum.f k (mode : Int) (l.map Nat.cast)) (sSum mode 0 l : Int) := by
  have := Sum_ev mode l hl hU l.length 0 0 (by omega) (by omega) (show (0 : Nat) < 18446744073709551616 by decide)
  unfold soft_Sum.f
  rw [List.length_map]; exact this
end Go.Proofs.Ytmadjhmecfbcmaa.M
end
section
namespace Go.Proofs.Ytmadjhmecfbcmaa.M
open Go.RowKit Go.Proofs.YtmadjhmecfbcmaaW.PrintWords Go.Proofs.YtmadjhmecfbcmaaW.PrintLast Go.Proofs.YtmadjhmecfbcmaaW.PrintMore Go.Proofs.Ytmadjhmecfbcmaa.F
def bn (b : Bool) : Nat := if b then 1 else 0
theorem bn_le (b : Bool) : bn b ≤ 1 := by cases b <;> decide
def bv : List Bool → Nat
  | [] => 0
  | b :: l => bn b + 2 * bv l
theorem bv_append (a b : List Bool) : bv (a ++ b) = bv a + 2 ^ a.length * bv b := by
  induction a with
  | nil => simp [bv]
  | cons x a ih => rw [List.cons_append, bv, bv, ih, List.length_cons, Nat.pow_succ]; grind
theorem bv_lt (a : List Bool) : bv a < 2 ^ a.length := by
  induction a with
  | nil => simp [bv]
  | cons x a ih => rw [bv, List.length_cons, Nat.pow_succ]; have := bn_le x; omega
theorem bv_snoc (a : List Bool) (b : Bool) : bv (a ++ [b]) = bv a + 2 ^ a.length * bn b := by rw [bv_append]; simp [bv]
theorem bv_falses (n : Nat) : bv (List.replicate n false) = 0 := by
  induction n with
  | zero => rfl
  | succ n ih => rw [List.replicate_succ, bv, ih]; rfl
theorem bv_shl (a : List Bool) (n : Nat) : bv (List.replicate n false ++ a) = bv a * 2 ^ n := by rw [bv_append, bv_falses, List.length_replicate]; grind
theorem bv_take_drop (a : List Bool) (i : Nat) (h : i ≤ a.length) : bv a = bv (a.take i) + 2 ^ i * bv (a.drop i) := by
  conv => lhs; rw [← List.take_append_drop i a, bv_append, List.length_take, Nat.min_eq_left h]
theorem bv_div (a : List Bool) (i : Nat) : bv a / 2 ^ i = bv (a.drop i) := by
  by_cases h : i ≤ a.length
  · have h1 := bv_take_drop a i h
    have h2 := bv_lt (a.take i)
    rw [List.length_take, Nat.min_eq_left h] at h2
    rw [h1, Nat.add_mul_div_left _ _ (two_pos i), Nat.div_eq_of_lt h2, Nat.zero_add]
  · rw [List.drop_eq_nil_of_le (by omega), Nat.div_eq_of_lt]
    · rfl
    · have := bv_lt a
      have : 2 ^ a.length ≤ 2 ^ i := pow_le (by omega)
      omega
theorem bv_bit (a : List Bool) (i : Nat) : bn (a.getD i false) = bv a / 2 ^ i % 2 := by
  rw [bv_div]
  by_cases h : i < a.length
  · rw [List.drop_eq_getElem_cons h, bv, List.getD_eq_getElem?_getD, List.getElem?_eq_getElem h]
    have := bn_le a[i]; simp; omega
  · rw [List.drop_eq_nil_of_le (by omega), List.getD_eq_getElem?_getD, List.getElem?_eq_none (by omega)]; rfl
theorem bv_step (a : List Bool) (i : Nat) : bv a / 2 ^ i = bn (a.getD i false) + 2 * (bv a / 2 ^ (i + 1)) := by
  rw [bv_bit, Nat.pow_succ, ← Nat.div_div_eq_div_mul]; omega
theorem bv_mod_step (a : List Bool) (i : Nat) : bv a % 2 ^ (i + 1) = bv a % 2 ^ i + 2 ^ i * bn (a.getD i false) := by
  rw [bv_bit, Nat.pow_succ, Nat.mod_mul]
theorem bv_mod_all (a : List Bool) (i : Nat) (h : a.length ≤ i) : bv a % 2 ^ i = bv a := by
  apply Nat.mod_eq_of_lt
  have := bv_lt a
  have : 2 ^ a.length ≤ 2 ^ i := pow_le h
  omega
theorem bv_div_all (a : List Bool) (i : Nat) (h : a.length ≤ i) : bv a / 2 ^ i = 0 := by rw [bv_div, List.drop_eq_nil_of_le h]; rfl
theorem bit_ok (l : List Bool) (i : Nat) : flyballref01_bit.f l (i : Int) = some (l.getD i false) := by
  unfold flyballref01_bit.f rdOf
  by_cases h : i < l.length
  · rw [if_pos (by omega), if_pos (by omega), if_pos (by omega), Int.toNat_natCast]
  · rw [if_pos (by omega), if_neg (by omega), List.getD_eq_getElem?_getD, List.getElem?_eq_none (by omega)]; rfl
theorem inc64 (i : Nat) (h : i < 1000000000) : wrap64 ((i : Int) + 1) = ((i + 1 : Nat) : Int) := by rw [w64 (by omega) (by omega)]; omega
theorem Shl_l (a : List Bool) (n : Nat) (hn : n < 1000000) (ha : a.length < 1000000) : ∀ (d i : Nat), n - i = d → i ≤ n →
    Ev (fun k => flyballref01_Shl.l0 k a (n : Int) (List.replicate i false) (i : Int)) (List.replicate n false ++ a)
  | 0, i, hd, hi => by
    refine Ev.next ?_
    simp only [flyballref01_Shl.l0]
    rw [show i = n by omega, List.length_replicate]
    exact Ev.all fun k => by rw [if_neg (by omega), if_pos (by omega)]
  | d + 1, i, hd, hi => by
    refine Ev.next ?_
    simp only [flyballref01_Shl.l0]
    rw [inc64 i (by omega), List.length_replicate]
    have := Shl_l a n hn ha d (i + 1) (by omega) (by omega)
    rw [List.replicate_succ'] at this
    exact Ev.congr (fun k => by rw [if_pos (by omega), if_pos (by omega)]) this
theorem rShl_ev (a : List Bool) (n : Nat) (hn : n < 1000000) (ha : a.length < 1000000) : Ev (fun k => flyballref01_Shl.f k a (n : Int)) (List.replicate n false ++ a) :=
  Shl_l a n hn ha n 0 (by omega) (by omega)
theorem Len_l (a : List Bool) (ha : a.length < 1000000) : ∀ (n : Nat), n ≤ a.length → bv (a.drop n) = 0 → Ev (fun k => flyballref01_Len.l0 k a (n : Int)) (bl (bv a) : Int)
  | 0, _, h => by
    refine Ev.next ?_
    simp only [flyballref01_Len.l0]
    rw [List.drop_zero] at h
    rw [h]
    exact Ev.all fun k => by rw [if_neg (by omega)]; rfl
  | n + 1, hn, h => by
    have w1 : wrap64 (((n + 1 : Nat) : Int) - 1) = (n : Int) := by rw [w64 (by omega) (by omega)]; omega
    refine Ev.next ?_
    simp only [flyballref01_Len.l0]
    rw [w1]
    have hr : rdOf false a (n : Int) = a.getD n false := by unfold rdOf; rw [Int.toNat_natCast]
    rw [hr]
    have hs := bv_step a n
    rw [bv_div, bv_div, h] at hs
    cases c : a.getD n false
    · rw [c] at hs
      have := Len_l a ha n (by omega) (by rw [hs]; rfl)
      exact Ev.congr (fun k => by rw [if_pos (by omega), if_pos (by omega), if_pos (by omega), if_neg (by simp)]) this
    · rw [c] at hs
      have hb : bl (bv a) = n + 1 := by
        have h1 : bv a / 2 ^ n = 1 := by rw [bv_div, hs]; rfl
        have h2 : bv a / 2 ^ (n + 1) = 0 := by rw [bv_div, h]
        have h3 : bv a < 2 ^ (n + 1) := (Nat.div_eq_zero_iff_lt (two_pos _)).1 h2
        have h4 : 2 ^ n ≤ bv a := by
          by_cases c2 : 2 ^ n ≤ bv a
          · exact c2
          · rw [Nat.div_eq_of_lt (by omega)] at h1; omega
        have h0 : bv a ≠ 0 := by have := two_pos n; omega
        unfold bl; rw [if_neg h0]
        have g1 : n ≤ (bv a).log2 := (Nat.le_log2 h0).2 h4
        have g2 : (bv a).log2 < n + 1 := (Nat.log2_lt h0).2 h3
        omega
      rw [hb]
      exact Ev.all fun k => by rw [if_pos (by omega), if_pos (by omega), if_pos (by omega), if_pos rfl]
theorem rLen_ev (a : List Bool) (ha : a.length < 1000000) : Ev (fun k => flyballref01_Len.f k a) (bl (bv a) : Int) := by
  have := Len_l a ha a.length (Nat.le_refl _) (by rw [List.drop_length]; rfl)
  exact this
theorem bl_len (a : List Bool) : bl (bv a) ≤ a.length := bl_le (bv_lt a)
theorem bv_take_bl (a : List Bool) : bv (a.take (bl (bv a))) = bv a := by
  have h1 := bv_take_drop a _ (bl_len a)
  have h2 : bv a / 2 ^ bl (bv a) = 0 := by rw [Nat.div_eq_of_lt]; exact bl_small (Nat.le_refl _)
  rw [bv_div] at h2
  rw [h2] at h1; omega
theorem Cmp_l (a b : List Bool) : ∀ (n : Nat), n < 1000000 → bv a / 2 ^ n = bv b / 2 ^ n → Ev (fun k => flyballref01_Cmp.l0 k a b ((n : Int) - 1)) (if bv a < bv b then -1 else if bv b < bv a then 1 else 0)
  | 0, _, h => by
    refine Ev.next ?_
    simp only [flyballref01_Cmp.l0]
    rw [Nat.pow_zero, Nat.div_one, Nat.div_one] at h
    rw [if_neg (by omega), if_neg (by omega)]
    exact Ev.all fun k => by rw [if_neg (by omega)]
  | n + 1, hn, h => by
    have w1 : wrap64 ((n : Int) - 1) = (n : Int) - 1 := w64 (by omega) (by omega)
    refine Ev.next ?_
    simp only [flyballref01_Cmp.l0]
    rw [show (((n + 1 : Nat) : Int) - 1) = (n : Int) by omega, w1]
    have ha := bv_step a n
    have hb := bv_step b n
    rw [h] at ha
    refine Ev.congr (fun k => by rw [if_pos (by omega)]) (Ev.b _ (Ev.const (bit_ok a n)) (Ev.b _ (Ev.const (bit_ok b n)) ?_))
    have key : ∀ x y : Nat, x / 2 ^ n < y / 2 ^ n → x < y := fun x y hxy => by
      by_cases c : x < y
      · exact c
      · have : y / 2 ^ n ≤ x / 2 ^ n := Nat.div_le_div_right (by omega)
        omega
    cases c1 : a.getD n false <;> cases c2 : b.getD n false <;> rw [c1] at ha <;> rw [c2] at hb
    · exact Ev.congr (fun k => by rw [if_neg (by simp)]) (Cmp_l a b n (by omega) (by rw [ha, hb]))
    · have hlt := key (bv a) (bv b) (by rw [ha, hb]; simp [bn])
      have hv : (if bv a < bv b then (-1 : Int) else if bv b < bv a then 1 else 0) = -1 := by rw [if_pos hlt]
      rw [hv]
      exact Ev.all fun k => by rw [if_pos (by simp), if_neg (by simp)]
    · have hlt := key (bv b) (bv a) (by rw [ha, hb]; simp [bn])
      have hv : (if bv a < bv b then (-1 : Int) else if bv b < bv a then 1 else 0) = 1 := by rw [if_neg (by omega), if_pos hlt]
      rw [hv]
      exact Ev.all fun k => by rw [if_pos (by simp), if_pos rfl]
    · exact Ev.congr (fun k => by rw [if_neg (by simp)]) (Cmp_l a b n (by omega) (by rw [ha, hb]))
theorem rCmp_ev (a b : List Bool) (ha : a.length < 1000000) (hb : b.length < 1000000) : Ev (fun k => flyballref01_Cmp.f k a b) (if bv a < bv b then -1 else if bv b < bv a then 1 else 0) := by
  unfold flyballref01_Cmp.f
  rw [mx_eq, show max (a.length : Int) (b.length : Int) = ((max a.length b.length : Nat) : Int) by omega, w64 (by omega) (by omega)]
  exact Cmp_l a b (max a.length b.length) (by omega) (by rw [bv_div_all _ _ (by omega), bv_div_all _ _ (by omega)])
theorem Add_l (a b : List Bool) (ha : a.length < 1000000) (hb : b.length < 1000000) : ∀ (d i : Nat) (out : List Bool) (c : Bool), max a.length b.length + 1 - i = d → i ≤ max a.length b.length + 1 → (i = max a.length b.length + 1 → c = false) → out.length = i →
    bv out + 2 ^ i * (bn c + bv a / 2 ^ i + bv b / 2 ^ i) = bv a + bv b →
    ∃ r, Ev (fun k => flyballref01_Add.l0 k a b out c (i : Int)) r ∧ bv r = bv a + bv b ∧ r.length ≤ max a.length b.length + 1 := by
  intro d
  induction d with
  | zero =>
    intro i out c hd hi hc ho hv
    have hc' := hc (by omega)
    subst hc'
    rw [bv_div_all a i (by omega), bv_div_all b i (by omega)] at hv
    refine ⟨out, ?_, by simpa [bn] using hv, by omega⟩
    refine Ev.next (Ev.congr (fun k => ?_) (Ev.later (g := fun k => flyballref01_Add.j1 k a b out false (i : Int) false) 1 fun k => by simp only [flyballref01_Add.j1]; rw [if_neg (by simp)]))
    simp only [flyballref01_Add.l0]
    rw [if_neg (by omega), if_neg (by omega)]
  | succ d ih =>
    intro i out c hd hi hc ho hv
    by_cases stop : ¬ i < a.length ∧ ¬ i < b.length ∧ c = false
    · obtain ⟨s1, s2, rfl⟩ := stop
      rw [bv_div_all a i (by omega), bv_div_all b i (by omega)] at hv
      refine ⟨out, ?_, by simpa [bn] using hv, by omega⟩
      refine Ev.next (Ev.congr (fun k => ?_) (Ev.later (g := fun k => flyballref01_Add.j1 k a b out false (i : Int) false) 1 fun k => by simp only [flyballref01_Add.j1]; rw [if_neg (by simp)]))
      simp only [flyballref01_Add.l0]
      rw [if_neg (by omega), if_neg (by omega)]
    · have e1 := bv_step a i
      have e2 := bv_step b i
      generalize hx : a.getD i false = x at e1
      generalize hy : b.getD i false = y at e2
      have round : ∀ c2 : Bool, bn x + bn y + bn c = bn ((x != y) != c) + 2 * bn c2 → (i + 1 = max a.length b.length + 1 → c2 = false) →
          ∃ r, Ev (fun k => flyballref01_Add.l0 k a b (out ++ [(x != y) != c]) c2 ((i + 1 : Nat) : Int)) r ∧ bv r = bv a + bv b ∧ r.length ≤ max a.length b.length + 1 := by
        intro c2 h2 h3
        apply ih (i + 1) _ c2 (by omega) (by omega) h3 (by simp [ho])
        rw [bv_snoc, ho, ← hv, e1, e2, Nat.pow_succ]
        generalize bv a / (2 ^ i * 2) = A
        generalize bv b / (2 ^ i * 2) = B
        have : bn c + (bn x + 2 * A) + (bn y + 2 * B) = bn ((x != y) != c) + 2 * (bn c2 + A + B) := by omega
        rw [this]; grind
      have last : ∀ c2 : Bool, bn x + bn y + bn c = bn ((x != y) != c) + 2 * bn c2 → (i + 1 = max a.length b.length + 1 → c2 = false) := by
        intro c2 h2 h3
        have x0 : x = false := by rw [← hx, List.getD_eq_getElem?_getD, List.getElem?_eq_none (by omega)]; rfl
        have y0 : y = false := by rw [← hy, List.getD_eq_getElem?_getD, List.getElem?_eq_none (by omega)]; rfl
        subst x0; subst y0
        cases c <;> cases c2 <;> simp [bn] at h2 ⊢
      have J1 : ∀ c2 : Bool, c2 = (if x = true then (if y = true then true else c) else (if y = true then c else false)) →
          ∃ r, Ev (fun k => flyballref01_Add.j1 k a b out c (i : Int) true) r ∧ bv r = bv a + bv b ∧ r.length ≤ max a.length b.length + 1 := by
        intro c2 h2
        have h3 : bn x + bn y + bn c = bn ((x != y) != c) + 2 * bn c2 := by subst h2; cases x <;> cases y <;> cases c <;> rfl
        obtain ⟨r, hr, h4⟩ := round c2 h3 (last c2 h3)
        refine ⟨r, Ev.next ?_, h4⟩
        simp only [flyballref01_Add.j1]
        refine Ev.congr (fun k => by rw [if_pos trivial]) (Ev.b _ (Ev.const (bit_ok a i)) (Ev.b _ (Ev.const (bit_ok b i)) ?_))
        rw [hx, hy, inc64 i (by omega)]
        subst h2
        cases x <;> cases y <;> cases c <;> exact Ev.congr (fun k => by rw [if_pos (by omega)]; rfl) hr
      obtain ⟨r, hr, h4⟩ := J1 _ rfl
      refine ⟨r, Ev.next ?_, h4⟩
      simp only [flyballref01_Add.l0]
      by_cases s1 : i < a.length
      · exact Ev.congr (fun k => by rw [if_pos (by omega)]) hr
      · by_cases s2 : i < b.length
        · exact Ev.congr (fun k => by rw [if_neg (by omega), if_pos (by omega)]) hr
        · have : c = true := by cases c; exact absurd ⟨s1, s2, rfl⟩ stop; rfl
          subst this
          exact Ev.congr (fun k => by rw [if_neg (by omega), if_neg (by omega)]) hr
theorem rAdd_ev (a b : List Bool) (ha : a.length < 1000000) (hb : b.length < 1000000) :
    ∃ r, Ev (fun k => flyballref01_Add.f k a b) r ∧ bv r = bv a + bv b ∧ r.length ≤ max a.length b.length + 1 :=
  Add_l a b ha hb (max a.length b.length + 1) 0 [] false (by omega) (by omega) (fun _ => rfl) rfl (by simp [bv, bn])
theorem Sub_l (a b : List Bool) (n : Nat) (hn : n < 1000000) : ∀ (d i : Nat) (out : List Bool) (c : Bool), n - i = d → i ≤ n → out.length = i →
    bv out + bv b % 2 ^ i = bv a % 2 ^ i + bn c * 2 ^ i →
    ∃ r c', Ev (fun k => flyballref01_Sub.l0 k a b (n : Int) out c (i : Int)) (r, c') ∧ bv r + bv b % 2 ^ n = bv a % 2 ^ n + bn c' * 2 ^ n ∧ r.length = n := by
  intro d
  induction d with
  | zero =>
    intro i out c hd hi ho hv
    obtain rfl : i = n := by omega
    refine ⟨out, c, ?_, hv, ho⟩
    refine Ev.next ?_
    simp only [flyballref01_Sub.l0]
    exact Ev.all fun k => by rw [if_neg (by omega)]
  | succ d ih =>
    intro i out c hd hi ho hv
    have e1 := bv_mod_step a i
    have e2 := bv_mod_step b i
    generalize hx : a.getD i false = x at e1
    generalize hy : b.getD i false = y at e2
    have round : ∀ c2 : Bool, bn ((x != y) != c) + bn y + bn c = bn x + 2 * bn c2 →
        ∃ r c', Ev (fun k => flyballref01_Sub.l0 k a b (n : Int) (out ++ [(x != y) != c]) c2 ((i + 1 : Nat) : Int)) (r, c') ∧ bv r + bv b % 2 ^ n = bv a % 2 ^ n + bn c' * 2 ^ n ∧ r.length = n := by
      intro c2 h2
      apply ih (i + 1) _ c2 (by omega) (by omega) (by simp [ho])
      rw [bv_snoc, ho, e1, e2, Nat.pow_succ]
      have h3 : 2 ^ i * (bn ((x != y) != c) + bn y + bn c) = 2 ^ i * (bn x + 2 * bn c2) := by rw [h2]
      rw [Nat.mul_add, Nat.mul_add, Nat.mul_add] at h3
      have h4 : bn c * 2 ^ i = 2 ^ i * bn c := Nat.mul_comm _ _
      have h5 : bn c2 * (2 ^ i * 2) = 2 ^ i * (2 * bn c2) := by grind
      omega
    obtain ⟨c2, hc2⟩ : ∃ c2 : Bool, c2 = (if x = true then (if y = true then c else false) else (if y = true then true else c)) := ⟨_, rfl⟩
    have h3 : bn ((x != y) != c) + bn y + bn c = bn x + 2 * bn c2 := by subst hc2; cases x <;> cases y <;> cases c <;> rfl
    obtain ⟨r, c', hr, h4⟩ := round c2 h3
    refine ⟨r, c', Ev.next ?_, h4⟩
    simp only [flyballref01_Sub.l0]
    refine Ev.congr (fun k => by rw [if_pos (by omega)]) (Ev.b _ (Ev.const (bit_ok a i)) (Ev.b _ (Ev.const (bit_ok b i)) ?_))
    rw [hx, hy, inc64 i (by omega)]
    subst hc2
    cases x <;> cases y <;> cases c <;> exact Ev.congr (fun k => by rw [if_pos (by omega)]; rfl) hr
theorem rSub_ev (a b : List Bool) (n : Nat) (hn : n < 1000000) (ha : bv a < 2 ^ n) (hb : bv b ≤ bv a) :
    ∃ r c, Ev (fun k => flyballref01_Sub.f k a b (n : Int)) (r, c) ∧ bv r = bv a - bv b ∧ r.length = n := by
  obtain ⟨r, c, h1, h2, h3⟩ := Sub_l a b n hn n 0 [] false (by omega) (by omega) rfl (by simp [bv, bn, Nat.mod_one])
  refine ⟨r, c, h1, ?_, h3⟩
  rw [Nat.mod_eq_of_lt ha, Nat.mod_eq_of_lt (by omega)] at h2
  have h4 := bv_lt r
  rw [h3] at h4
  cases c <;> simp [bn] at h2 <;> omega
theorem Mul_l (a b : List Bool) (ha : a.length < 100000) (hb : b.length < 100000) : ∀ (d i : Nat) (out : List Bool), b.length - i = d → i ≤ b.length → bv out = bv a * (bv b % 2 ^ i) → out.length ≤ a.length + 2 * i + 1 →
    ∃ r, Ev (fun k => flyballref01_Mul.l0 k a b out (i : Int)) r ∧ bv r = bv a * bv b ∧ r.length ≤ a.length + 2 * b.length + 1 := by
  intro d
  induction d with
  | zero =>
    intro i out hd hi hv hl
    refine ⟨out, Ev.next ?_, by rw [hv, bv_mod_all b i (by omega)], by omega⟩
    simp only [flyballref01_Mul.l0]
    exact Ev.all fun k => by rw [if_neg (by omega)]
  | succ d ih =>
    intro i out hd hi hv hl
    have e2 := bv_mod_step b i
    have hb0 : rdOf false b (i : Int) = b.getD i false := by unfold rdOf; rw [Int.toNat_natCast]
    cases hy : b.getD i false <;> rw [hy] at e2
    · obtain ⟨r, hr, h4⟩ := ih (i + 1) out (by omega) (by omega) (by rw [hv, e2]; simp [bn]) (by omega)
      refine ⟨r, Ev.next ?_, h4⟩
      simp only [flyballref01_Mul.l0]
      rw [hb0, hy, inc64 i (by omega)]
      exact Ev.congr (fun k => by rw [if_pos (by omega), if_pos (by omega), if_neg (by simp)]) hr
    · obtain ⟨s, hs, s1, s2⟩ := rAdd_ev out (List.replicate i false ++ a) (by omega) (by simp; omega)
      rw [bv_shl] at s1
      simp at s2
      obtain ⟨r, hr, h4⟩ := ih (i + 1) s (by omega) (by omega) (by rw [s1, hv, e2]; simp [bn, Nat.mul_add]) (by omega)
      refine ⟨r, Ev.next ?_, h4⟩
      simp only [flyballref01_Mul.l0]
      rw [hb0, hy, inc64 i (by omega)]
      exact Ev.congr (fun k => by rw [if_pos (by omega), if_pos (by omega), if_pos rfl]) (Ev.b _ (rShl_ev a i (by omega) (by omega)) (Ev.b _ hs hr))
theorem rMul_ev (a b : List Bool) (ha : a.length < 100000) (hb : b.length < 100000) :
    ∃ r, Ev (fun k => flyballref01_Mul.f k a b) r ∧ bv r = bv a * bv b ∧ r.length ≤ a.length + 2 * b.length + 1 :=
  Mul_l a b ha hb b.length 0 [] (by omega) (by omega) (by simp [bv, Nat.mod_one]) (by simp)
end Go.Proofs.Ytmadjhmecfbcmaa.M
end
section
namespace Go.Proofs.Ytmadjhmecfbcmaa.M
open Go.RowKit Go.Proofs.YtmadjhmecfbcmaaW.PrintWords Go.Proofs.YtmadjhmecfbcmaaW.PrintLast Go.Proofs.YtmadjhmecfbcmaaW.PrintMore Go.Proofs.Ytmadjhmecfbcmaa.F
theorem Of_l1 (m : Nat) (hm : m < 18446744073709551616) (res : List Bool) (hres : ∀ out : List Bool, bv out = m → out.length = 64 → out = res) : ∀ (d i : Nat) (out : List Bool), 64 - i = d → i ≤ 64 → out.length = i → bv out = m % 2 ^ i →
    Ev (fun k => flyballref01_Of.l1 k [(m : Int)] out 0 (i : Int)) res := by
  intro d
  induction d with
  | zero =>
    intro i out hd hi ho hv
    obtain rfl : i = 64 := by omega
    refine Ev.next ?_
    simp only [flyballref01_Of.l1]
    have := hres out (by rw [hv, Nat.mod_eq_of_lt]; exact hm) ho
    rw [this]
    refine Ev.congr (fun k => by rw [if_neg (by omega)]) (Ev.next ?_)
    simp only [flyballref01_Of.l0]
    exact Ev.all fun k => by rw [if_neg (by rw [w64 (by omega) (by omega)]; simp)]
  | succ d ih =>
    intro i out hd hi ho hv
    refine Ev.next ?_
    simp only [flyballref01_Of.l1]
    have hr : rd [(m : Int)] 0 = (m : Int) := rfl
    have hw : IntKind.u64.wrap (i : Int) = (i : Int) := wu64 (by omega) (by omega)
    have hq : m / 2 ^ i < 18446744073709551616 := Nat.lt_of_le_of_lt (Nat.div_le_self _ _) hm
    have hb : (bits .and .u64 (shr .u64 (m : Int) (i : Int)) 1 == 1) = (m / 2 ^ i % 2 == 1) := by
      rw [shr_nat _ _ (by omega), and_1 _ hq, Bool.eq_iff_iff, beq_iff_eq, beq_iff_eq]; omega
    have hbn : bn (m / 2 ^ i % 2 == 1) = m / 2 ^ i % 2 := by
      rcases Nat.mod_two_eq_zero_or_one (m / 2 ^ i) with h | h <;> rw [h] <;> rfl
    rw [hr, hw, hb, inc64 i (by omega)]
    have := ih (i + 1) (out ++ [m / 2 ^ i % 2 == 1]) (by omega) (by omega) (by simp [ho]) (by rw [bv_snoc, hv, ho, hbn, Nat.pow_succ, Nat.mod_mul])
    exact Ev.congr (fun k => by rw [if_pos (by omega), if_pos (by omega), if_pos (by simp), if_pos (by omega), if_pos (by omega)]) this
theorem bv_inj : ∀ (a b : List Bool), a.length = b.length → bv a = bv b → a = b
  | [], [], _, _ => rfl
  | x :: a, y :: b, h1, h2 => by
    rw [bv, bv] at h2
    have hx := bn_le x
    have hy := bn_le y
    have e1 : bn x = bn y := by omega
    have e2 : x = y := by cases x <;> cases y <;> simp [bn] at e1 <;> rfl
    rw [e2, bv_inj a b (by simpa using h1) (by omega)]
def tb (m : Nat) : Nat → List Bool
  | 0 => []
  | n + 1 => (m % 2 == 1) :: tb (m / 2) n
theorem tb_len (n : Nat) : ∀ m, (tb m n).length = n := by
  induction n with
  | zero => intro m; rfl
  | succ n ih => intro m; rw [tb, List.length_cons, ih]
theorem tb_bv (n : Nat) : ∀ m, m < 2 ^ n → bv (tb m n) = m := by
  induction n with
  | zero => intro m h; rw [Nat.pow_zero] at h; simp [tb, bv]; omega
  | succ n ih =>
    intro m h
    rw [Nat.pow_succ] at h
    rw [tb, bv, ih (m / 2) (by omega)]
    have hbn : bn (m % 2 == 1) = m % 2 := by
      rcases Nat.mod_two_eq_zero_or_one m with h | h <;> rw [h] <;> rfl
    rw [hbn]; omega
theorem rOf_ev (m : Nat) (hm : m < 18446744073709551616) : Ev (fun k => flyballref01_Of.f k [(m : Int)]) (tb m 64) := by
  refine Ev.next ?_
  simp only [flyballref01_Of.f, flyballref01_Of.l0]
  have := Of_l1 m hm (tb m 64) (fun out h1 h2 => bv_inj _ _ (by rw [h2, tb_len]) (by rw [h1, tb_bv 64 m hm])) 64 0 [] (by omega) (by omega) rfl (by simp [bv, Nat.mod_one])
  exact Ev.congr (fun k => by rw [if_pos (by simp)]; rfl) this
theorem rbits_ev (m : Nat) (hm : m < 18446744073709551616) : ∃ r, Ev (fun k => flyballref06_bits.f k (m : Int)) r ∧ bv r = m ∧ r.length = bl m := by
  have h1 := tb_bv 64 m hm
  have h2 := tb_len 64 m
  have h3 := bl_len (tb m 64)
  refine ⟨(tb m 64).take (bl m), ?_, ?_, ?_⟩
  · unfold flyballref06_bits.f
    refine Ev.b _ (rOf_ev m hm) (Ev.b _ (rLen_ev (tb m 64) (by omega)) (Ev.const ?_))
    rw [h1] at h3 ⊢
    rw [if_pos (by omega), if_pos (by omega), Int.toNat_natCast]
  · have := bv_take_bl (tb m 64)
    rw [h1] at this; exact this
  · rw [List.length_take, h2]; rw [h1, h2] at h3; omega
theorem Of_ok (neg : Bool) (k : Nat) (hk : k ≤ 9218868437227405312) (kk0 : Int) (hkk : kk0 = if neg then -(k : Int) else k) : Ev (fun n => flyballref04_Of.f n kk0 neg) ((sg neg + k : Nat) : Int) := by
  have hm := ref_Make_ok neg (k / 4503599627370496) (k % 4503599627370496) (by omega) (by omega)
  have he : mk neg (k / 4503599627370496) (k % 4503599627370496) = sg neg + k := by unfold mk; omega
  rw [he] at hm
  have J : Ev (fun n => flyballref04_Of.j0 n kk0 neg) ((sg neg + k : Nat) : Int) := by
    refine Ev.next ?_
    simp only [flyballref04_Of.j0]
    cases neg
    · have hk2 : kk0 = (k : Int) := by rw [hkk]; rfl
      rw [hk2]
      have e1 : wrap64 (Int.tdiv (k : Int) 4503599627370496) = ((k / 4503599627370496 : Nat) : Int) := by
        rw [Int.tdiv_eq_ediv_of_nonneg (by omega), w64 (by omega) (by omega)]; omega
      have e2 : IntKind.u64.wrap (Int.tmod (k : Int) 4503599627370496) = ((k % 4503599627370496 : Nat) : Int) := by
        rw [Int.tmod_eq_emod_of_nonneg (by omega), wu64 (by omega) (by omega)]; omega
      rw [e1, e2]
      exact Ev.congr (fun n => by rw [if_neg (by simp)]) (Ev.b (f := fun _ b => some b) _ (Ev.const hm) (Ev.now _))
    · have hk2 : kk0 = -(k : Int) := by rw [hkk]; rfl
      rw [hk2]
      have e0 : wrap64 (-(-(k : Int))) = (k : Int) := by rw [w64 (by omega) (by omega)]; omega
      have e1 : wrap64 (Int.tdiv (k : Int) 4503599627370496) = ((k / 4503599627370496 : Nat) : Int) := by
        rw [Int.tdiv_eq_ediv_of_nonneg (by omega), w64 (by omega) (by omega)]; omega
      have e2 : IntKind.u64.wrap (Int.tmod (k : Int) 4503599627370496) = ((k % 4503599627370496 : Nat) : Int) := by
        rw [Int.tmod_eq_emod_of_nonneg (by omega), wu64 (by omega) (by omega)]; omega
      rw [e0, e1, e2]
      exact Ev.congr (fun n => by rw [if_pos rfl]) (Ev.b (f := fun _ b => some b) _ (Ev.const hm) (Ev.now _))
  unfold flyballref04_Of.f
  by_cases c1 : kk0 < 0
  · have : neg = true := by cases neg; rw [hkk] at c1; simp at c1; omega; rfl
    subst this
    exact Ev.congr (fun n => by rw [if_pos c1]) J
  · by_cases c2 : kk0 = 0
    · exact Ev.congr (fun n => by rw [if_neg c1, if_pos c2]) J
    · have : neg = false := by cases neg; rfl; rw [hkk] at c1 c2; simp at c1 c2; omega
      subst this
      exact Ev.congr (fun n => by rw [if_neg c1, if_neg c2]) J
def cmpX (X : Nat) (s : Bool) (Y : Nat) : Int := if X < Y then -1 else if Y < X then 1 else if s then 1 else 0
theorem rcmp_ev (A B m : List Bool) (E e : Int) (rest : Bool) (hA : A.length < 10000) (hB : B.length < 10000) (hm : m.length < 1000) (hE : -10000 ≤ E ∧ E ≤ 10000) (he : -1075 ≤ e ∧ e ≤ 10000) (hB0 : 0 < bv B) :
    Ev (fun k => flyballref05_cmp.f k A B E rest m e) (cmpX (FX (bv A) (bv B) E) (FS (bv A) (bv B) E rest) (bv m * 2 ^ (e + 1075).toNat)) := by
  obtain ⟨low, hlow⟩ : ∃ l, min E e = l := ⟨_, rfl⟩
  have w1 : wrap64 (E - mn E e) = ((E - low).toNat : Int) := by rw [mn_eq, hlow, w64 (by omega) (by omega)]; omega
  have w2 : wrap64 (e - mn E e) = ((e - low).toNat : Int) := by rw [mn_eq, hlow, w64 (by omega) (by omega)]; omega
  have S1 := rShl_ev A (E - low).toNat (by omega) (by omega)
  obtain ⟨P, hP, P1, P2⟩ := rMul_ev m B (by omega) (by omega)
  have S2 := rShl_ev P (e - low).toNat (by omega) (by omega)
  have C := rCmp_ev (List.replicate (E - low).toNat false ++ A) (List.replicate (e - low).toNat false ++ P) (by simp; omega) (by simp; omega)
  rw [bv_shl, bv_shl, P1] at C
  unfold flyballref05_cmp.f
  rw [w1, w2]
  refine Ev.b _ S1 (Ev.b _ hP (Ev.b _ S2 (Ev.b _ C (Ev.const ?_))))
  obtain ⟨w, hw⟩ : ∃ w : Nat, (w : Int) = low + 1075 + (-(E + 1075)).toNat := ⟨(low + 1075 + (-(E + 1075)).toNat).toNat, by omega⟩
  have k1 : FN (bv A) E = bv A * 2 ^ (E - low).toNat * 2 ^ w := by
    unfold FN; rw [Nat.mul_assoc, ← Nat.pow_add]; congr 2; omega
  have k2 : bv m * 2 ^ (e + 1075).toNat * FD (bv B) E = bv m * bv B * 2 ^ (e - low).toNat * 2 ^ w := by
    unfold FD
    have : 2 ^ (e - low).toNat * 2 ^ w = 2 ^ (e + 1075).toNat * 2 ^ (-(E + 1075)).toNat := by rw [← Nat.pow_add, ← Nat.pow_add]; congr 1; omega
    rw [Nat.mul_assoc (bv m * bv B), this]; grind
  have pw := two_pos w
  have hD : 0 < FD (bv B) E := by unfold FD; exact Nat.mul_pos hB0 (two_pos _)
  have hmod := Nat.div_add_mod (FN (bv A) E) (FD (bv B) E)
  have hml := Nat.mod_lt (FN (bv A) E) hD
  unfold FX FS
  generalize bv A * 2 ^ (E - low).toNat = a at *
  generalize bv m * bv B * 2 ^ (e - low).toNat = b at *
  generalize bv m * 2 ^ (e + 1075).toNat = Y at *
  generalize FD (bv B) E = D at *
  rw [k1] at hmod hml ⊢
  have lt1 : a < b ↔ a * 2 ^ w / D < Y := by
    rw [Nat.div_lt_iff_lt_mul hD, k2]
    exact ⟨fun h => Nat.mul_lt_mul_of_pos_right h pw, fun h => Nat.lt_of_mul_lt_mul_right h⟩
  have lt2 : b < a ↔ Y < a * 2 ^ w / D ∨ Y = a * 2 ^ w / D ∧ a * 2 ^ w % D ≠ 0 := by
    have h1 : b < a ↔ Y * D < a * 2 ^ w := by
      rw [k2]; exact ⟨fun h => Nat.mul_lt_mul_of_pos_right h pw, fun h => Nat.lt_of_mul_lt_mul_right h⟩
    rw [h1]
    have h2 : ¬ a * 2 ^ w / D < Y ↔ Y * D ≤ a * 2 ^ w := by rw [Nat.div_lt_iff_lt_mul hD]; omega
    constructor
    · intro h
      by_cases c : Y < a * 2 ^ w / D
      · exact .inl c
      · right
        have h3 := h2.2 (by omega)
        have h4 : Y = a * 2 ^ w / D := by omega
        refine ⟨h4, fun h5 => ?_⟩
        rw [h5, ← h4, Nat.mul_comm D Y] at hmod; omega
    · rintro (h | ⟨h, h5⟩)
      · have h6 : D * (Y + 1) ≤ D * (a * 2 ^ w / D) := Nat.mul_le_mul_left _ h
        rw [Nat.mul_add, Nat.mul_one, Nat.mul_comm D Y] at h6; omega
      · rw [← h, Nat.mul_comm D Y] at hmod; omega
  unfold cmpX
  by_cases c1 : a < b
  · rw [if_pos c1, if_neg (by omega), if_pos (lt1.1 c1)]
  · rw [if_neg c1, if_neg (fun h => c1 (lt1.2 h))]
    by_cases c2 : b < a
    · rw [if_pos c2, if_neg (by omega)]
      rcases lt2.1 c2 with h | ⟨h, h5⟩
      · rw [if_pos h]
      · rw [if_neg (by omega), decide_eq_true h5, Bool.or_true, if_pos rfl]
    · have n2 : ¬ Y < a * 2 ^ w / D := fun h => c2 (lt2.2 (.inl h))
      have n3 : ¬ a * 2 ^ w % D ≠ 0 := fun h => c2 (lt2.2 (.inr ⟨by have := fun h => c1 (lt1.2 h); omega, h⟩))
      rw [if_neg c2, if_neg n2, if_pos rfl, decide_eq_false n3, Bool.or_false]
      cases rest
      · rw [if_neg (by simp), if_neg (by simp)]
      · rw [if_pos rfl, if_pos rfl]
theorem i64_and52 (a : Nat) (ha : a < 9223372036854775808) : bits .and .i64 (a : Int) 4503599627370495 = ((a % 4503599627370496 : Nat) : Int) := by
  have := bits_mask .i64 63 (by decide) (fun n h0 h1 => by rw [IntKind.wrap_i64]; omega) 52 (by decide) (a : Int) (by omega) (by omega)
  rw [show ((2 : Int) ^ 52 - 1) = 4503599627370495 from rfl, show ((2 : Int) ^ 52) = 4503599627370496 from rfl] at this
  rw [this]; omega
def tm (k : Nat) : Nat := if k / 4503599627370496 = 0 then k % 4503599627370496 else 4503599627370496 + k % 4503599627370496
def te (k : Nat) : Int := if k / 4503599627370496 = 0 then -1074 else ((k / 4503599627370496 : Nat) : Int) - 1075
theorem tm_lt (k : Nat) : tm k < 9007199254740992 := by unfold tm; split <;> omega
theorem te_bd (k : Nat) (h : k ≤ 9218868437227405312) : -1074 ≤ te k ∧ te k ≤ 972 := by unfold te; split <;> omega
theorem tm_magk (k : Nat) : tm k * 2 ^ (te k + 1075).toNat = 2 * magk k := by
  unfold tm te magk
  split
  · rw [show ((-1074 : Int) + 1075).toNat = 1 from rfl]; omega
  · rename_i h
    rw [show (((k / 4503599627370496 : Nat) : Int) - 1075 + 1075).toNat = (k / 4503599627370496 - 1) + 1 by omega, Nat.pow_succ]; grind
theorem rsplit_ev (k : Nat) (hk : k ≤ 9218868437227405312) : Ev (fun n => flyballref05_split.f n (k : Int)) (tb (tm k) 64, te k) := by
  have h1 : IntKind.u64.wrap (bits .and .i64 (k : Int) 4503599627370495) = ((k % 4503599627370496 : Nat) : Int) := by
    rw [i64_and52 k (by omega), wu64 (by omega) (by omega)]
  unfold flyballref05_split.f
  rw [h1]
  by_cases c : k / 4503599627370496 = 0
  · have e1 : tm k = k % 4503599627370496 := by unfold tm; rw [if_pos c]
    have e2 : te k = -1074 := by unfold te; rw [if_pos c]
    rw [e1, e2]
    exact Ev.congr (fun n => by rw [if_pos (by omega)]) (Ev.b (f := fun _ b => some (b, (-1074 : Int))) _ (rOf_ev (k % 4503599627370496) (by omega)) (Ev.now _))
  · have e1 : tm k = 4503599627370496 + k % 4503599627370496 := by unfold tm; rw [if_neg c]
    have e2 : te k = ((k / 4503599627370496 : Nat) : Int) - 1075 := by unfold te; rw [if_neg c]
    have e3 : IntKind.u64.wrap (((k % 4503599627370496 : Nat) : Int) + 4503599627370496) = ((4503599627370496 + k % 4503599627370496 : Nat) : Int) := by rw [wu64 (by omega) (by omega)]; omega
    have e4 : wrap64 ((k : Int) / 4503599627370496 - 1075) = ((k / 4503599627370496 : Nat) : Int) - 1075 := by rw [w64 (by omega) (by omega)]; omega
    rw [e1, e2, e3, e4]
    exact Ev.congr (fun n => by rw [if_neg (by omega)]) (Ev.b (f := fun _ b => some (b, ((k / 4503599627370496 : Nat) : Int) - 1075)) _ (rOf_ev (4503599627370496 + k % 4503599627370496) (by omega)) (Ev.now _))
theorem rcmp_key (A B : List Bool) (E : Int) (rest : Bool) (k : Nat) (hk : k ≤ 9218868437227405312) (hA : A.length < 10000) (hB : B.length < 10000) (hE : -10000 ≤ E ∧ E ≤ 10000) (hB0 : 0 < bv B) :
    Ev (fun n => flyballref05_cmp.f n A B E rest (tb (tm k) 64) (te k)) (cmpX (FX (bv A) (bv B) E) (FS (bv A) (bv B) E rest) (2 * magk k)) := by
  have h := te_bd k hk
  have := rcmp_ev A B (tb (tm k) 64) E (te k) rest hA hB (by rw [tb_len]; omega) hE (by omega) hB0
  rw [tb_bv 64 _ (by have := tm_lt k; omega), tm_magk] at this; exact this
end Go.Proofs.Ytmadjhmecfbcmaa.M
end
section
namespace Go.Proofs.Ytmadjhmecfbcmaa.M
open Go.RowKit Go.Proofs.YtmadjhmecfbcmaaW.PrintWords Go.Proofs.YtmadjhmecfbcmaaW.PrintLast Go.Proofs.YtmadjhmecfbcmaaW.PrintMore Go.Proofs.Ytmadjhmecfbcmaa.F
theorem cmpX_ge (X : Nat) (s : Bool) (Y : Nat) : cmpX X s Y ≥ 0 ↔ Y ≤ X := by
  unfold cmpX
  by_cases c : X < Y
  · rw [if_pos c]; omega
  · rw [if_neg c]; constructor
    · intro _; omega
    · intro _; (repeat' split) <;> omega
def fkc (X : Nat) : Nat := if 9218868437227405312 ≤ fk X then 9218868437227405312 else fk X
theorem halve (lo hi : Nat) (c : lo < hi) (h : hi ≤ 9218868437227405312) : wrap64 ((hi : Int) - wrap64 (Int.tdiv (wrap64 ((hi : Int) - (lo : Int))) 2)) = ((hi - (hi - lo) / 2 : Nat) : Int) := by
  rw [w64 (n := (hi : Int) - (lo : Int)) (by omega) (by omega), Int.tdiv_eq_ediv_of_nonneg (by omega), w64 (n := ((hi : Int) - (lo : Int)) / 2) (by omega) (by omega), w64 (by omega) (by omega)]; omega
set_option maxHeartbeats 1000000 in
theorem floor_l (A B : List Bool) (E : Int) (rest : Bool) (hA : A.length < 10000) (hB : B.length < 10000) (hE : -10000 ≤ E ∧ E ≤ 10000) (hB0 : 0 < bv B) (X : Nat) (hX : FX (bv A) (bv B) E = X) :
    ∀ (d lo hi : Nat), hi - lo = d → lo ≤ hi → hi ≤ 9218868437227405312 → lo ≤ fk X → (hi = 9218868437227405312 ∨ fk X < hi + 1) →
    Ev (fun k => flyballref05_floor.l0 k (lo : Int) (hi : Int) A B E rest) (fkc X : Int) := by
  intro d
  induction d using Nat.strongRecOn with
  | _ d ih =>
  intro lo hi hd hlh hhi h1 h2
  refine Ev.next ?_
  simp only [flyballref05_floor.l0]
  by_cases c : lo < hi
  · have w0 := halve lo hi c hhi
    obtain ⟨k, hk⟩ : ∃ k, hi - (hi - lo) / 2 = k := ⟨_, rfl⟩
    have k1 : lo < k := by omega
    have k2 : k ≤ hi := by omega
    have w1 : wrap64 ((k : Int) - 1) = ((k - 1 : Nat) : Int) := by rw [w64 (by omega) (by omega)]; omega
    rw [w0, hk, w1]
    have C := rcmp_key A B E rest k (by omega) hA hB hE hB0
    rw [hX] at C
    refine Ev.congr (fun n => by rw [if_pos (by omega)]) (Ev.b _ (rsplit_ev k (by omega)) ?_)
    dsimp only
    refine Ev.b _ C ?_
    by_cases c2 : k ≤ fk X
    · have g : cmpX X (FS (bv A) (bv B) E rest) (2 * magk k) ≥ 0 := (cmpX_ge _ _ _).2 ((fk_iff X k).2 c2)
      exact Ev.congr (fun n => by rw [if_pos g]) (ih (hi - k) (by omega) k hi rfl k2 hhi c2 h2)
    · have g : ¬ cmpX X (FS (bv A) (bv B) E rest) (2 * magk k) ≥ 0 := fun h => c2 ((fk_iff X k).1 ((cmpX_ge _ _ _).1 h))
      exact Ev.congr (fun n => by rw [if_neg g]) (ih (k - 1 - lo) (by omega) lo (k - 1) rfl (by omega) (by omega) h1 (.inr (by omega)))
  · have c' : ¬ (lo : Int) < (hi : Int) := by omega
    have c3 : lo = hi := by omega
    subst c3
    have e : ((fkc X : Nat) : Int) = (lo : Int) := by
      unfold fkc
      by_cases g : 9218868437227405312 ≤ fk X
      · rw [if_pos g]; omega
      · rw [if_neg g]; omega
    refine Ev.all fun n => ?_
    rw [if_neg c', e]
theorem rfloor_ev (A B : List Bool) (E : Int) (rest : Bool) (hA : A.length < 10000) (hB : B.length < 10000) (hE : -10000 ≤ E ∧ E ≤ 10000) (hB0 : 0 < bv B) :
    Ev (fun k => flyballref05_floor.f k A B E rest) (fkc (FX (bv A) (bv B) E) : Int) := by
  have F := floor_l A B E rest hA hB hE hB0 _ rfl _ 0 9218868437227405312 rfl (by omega) (by omega) (by omega) (.inl rfl)
  rw [show ((0 : Nat) : Int) = 0 from rfl, show ((9218868437227405312 : Nat) : Int) = 9218868437227405312 from rfl] at F
  unfold flyballref05_floor.f
  exact F
end Go.Proofs.Ytmadjhmecfbcmaa.M
end
section
namespace Go.Proofs.Ytmadjhmecfbcmaa.M
open Go.RowKit Go.Proofs.YtmadjhmecfbcmaaW.PrintWords Go.Proofs.YtmadjhmecfbcmaaW.PrintLast Go.Proofs.YtmadjhmecfbcmaaW.PrintMore Go.Proofs.Ytmadjhmecfbcmaa.F
theorem key_tm (k : Nat) : k = ((te k + 1075).toNat - 1) * 4503599627370496 + tm k ∧ (((te k + 1075).toNat = 1 ∧ tm k < 9007199254740992) ∨ (2 ≤ (te k + 1075).toNat ∧ 4503599627370496 ≤ tm k ∧ tm k < 9007199254740992)) := by
  unfold te tm
  by_cases c : k / 4503599627370496 = 0
  · rw [if_pos c, if_pos c]; omega
  · rw [if_neg c, if_neg c]; omega
theorem mid_key (k : Nat) : (2 * tm k + 1) * 2 ^ (te k - 1 + 1075).toNat = magk k + magk (k + 1) := by
  obtain ⟨h1, h2⟩ := key_tm k
  have m1 := magk_parts _ _ h2
  have m2 := magk_parts_succ _ _ h2
  rw [← h1] at m1 m2
  rw [m1, m2, show (te k - 1 + 1075).toNat = (te k + 1075).toNat - 1 by omega]; grind
theorem or8 : bits .or .u8 (bits .or .u8 0 1) 2 = 3 ∧ bits .or .u8 0 1 = 1 ∧ bits .or .u8 (bits .or .u8 0 4) 1 = 5 ∧ bits .or .u8 (bits .or .u8 1 4) 1 = 5 := by decide
theorem cmpX_eq (X : Nat) (s : Bool) (Y : Nat) : cmpX X s Y = 0 ↔ X = Y ∧ s = false := by
  unfold cmpX
  by_cases c : X < Y
  · rw [if_pos c]; omega
  · rw [if_neg c]
    by_cases c2 : Y < X
    · rw [if_pos c2]; omega
    · rw [if_neg c2]; cases s <;> simp; omega
theorem cmpX_lt (X : Nat) (s : Bool) (Y : Nat) : cmpX X s Y < 0 ↔ X < Y := by
  have := cmpX_ge X s Y; omega
theorem cmpX_gt (X : Nat) (s : Bool) (Y : Nat) : cmpX X s Y > 0 ↔ Y < X ∨ Y = X ∧ s = true := by
  have h1 := cmpX_ge X s Y
  have h2 := cmpX_eq X s Y
  by_cases c : cmpX X s Y > 0
  · refine ⟨fun _ => ?_, fun _ => c⟩
    by_cases e : Y = X
    · right; refine ⟨e, ?_⟩; cases s
      · have := h2.2 ⟨e.symm, rfl⟩; omega
      · rfl
    · left; have := h1.1 (by omega); omega
  · refine ⟨fun h => absurd h c, ?_⟩
    rintro (h | ⟨h, h3⟩)
    · have g1 := h1.2 (by omega)
      have := h2.1 (by omega); omega
    · have g1 := h1.2 (by omega)
      have := h2.1 (by omega); rw [h3] at this; cases this.2
theorem mag_j1 (d k0 fl : Nat) (up : Bool) (hk : k0 ≤ 9218868437227405312) (hfl : fl = 0 ∨ fl = 1 ∨ fl = 3) (h5 : 9218868437227405311 ≤ k0 → fl ≠ 3) :
    Ev (fun n => flyballref05_Magnitude.j1 n (d : Int) (fl : Int) (k0 : Int) up)
      (if 9218868437227405312 ≤ k0 + (if up = true ∧ k0 ≤ 9218868437227405311 then 1 else 0) then ((if d = 2 then 9218868437227405311 else 9218868437227405312 : Int), (5 : Int))
       else (((k0 + (if up = true ∧ k0 ≤ 9218868437227405311 then 1 else 0) : Nat) : Int), (fl : Int))) := by
  have J3 : ∀ k1 : Nat, k1 ≤ 9218868437227405312 → (9218868437227405312 ≤ k1 → fl ≠ 3) → Ev (fun n => flyballref05_Magnitude.j3 n (d : Int) (fl : Int) (k1 : Int))
      (if 9218868437227405312 ≤ k1 then ((if d = 2 then 9218868437227405311 else 9218868437227405312 : Int), (5 : Int)) else ((k1 : Int), (fl : Int))) := by
    intro k1 h1 h2
    refine Ev.next ?_
    simp only [flyballref05_Magnitude.j3]
    by_cases c : 9218868437227405312 ≤ k1
    · have hf : bits .or .u8 (bits .or .u8 (fl : Int) 4) 1 = 5 := by
        have := h2 c
        rcases hfl with h | h | h
        · rw [h]; exact or8.2.2.1
        · rw [h]; exact or8.2.2.2
        · exact absurd h this
      rw [if_pos c, hf]
      by_cases d2 : d = 2
      · rw [if_pos d2]
        exact Ev.all fun n => by rw [if_pos (by omega), if_pos (by omega)]
      · rw [if_neg d2]
        exact Ev.all fun n => by rw [if_pos (by omega), if_neg (by omega)]
    · rw [if_neg c]
      exact Ev.all fun n => by rw [if_neg (by omega)]
  have J2 : ∀ b : Bool, b = (up && decide (k0 ≤ 9218868437227405311)) → Ev (fun n => flyballref05_Magnitude.j2 n (d : Int) (fl : Int) (k0 : Int) b)
      (if 9218868437227405312 ≤ k0 + (if up = true ∧ k0 ≤ 9218868437227405311 then 1 else 0) then ((if d = 2 then 9218868437227405311 else 9218868437227405312 : Int), (5 : Int))
       else (((k0 + (if up = true ∧ k0 ≤ 9218868437227405311 then 1 else 0) : Nat) : Int), (fl : Int))) := by
    intro b hb
    refine Ev.next ?_
    simp only [flyballref05_Magnitude.j2]
    by_cases c : up = true ∧ k0 ≤ 9218868437227405311
    · have hb' : b = true := by rw [hb, c.1, decide_eq_true c.2]; rfl
      have w : wrap64 ((k0 : Int) + 1) = ((k0 + 1 : Nat) : Int) := by rw [w64 (by omega) (by omega)]; omega
      rw [if_pos c, hb', w]
      exact Ev.congr (fun n => by rw [if_pos rfl]) (J3 (k0 + 1) (by omega) (fun h => h5 (by omega)))
    · have hb' : b = false := by
        rw [hb]; cases up
        · rfl
        · rw [decide_eq_false (fun h => c ⟨rfl, h⟩)]; rfl
      rw [if_neg c, hb', Nat.add_zero]
      exact Ev.congr (fun n => by rw [if_neg (by simp)]) (J3 k0 hk (fun h => h5 (by omega)))
  refine Ev.next ?_
  simp only [flyballref05_Magnitude.j1]
  by_cases c : k0 ≤ 9218868437227405311
  · exact Ev.congr (fun n => by rw [if_pos (by omega)]) (J2 up (by rw [decide_eq_true c, Bool.and_true]))
  · exact Ev.congr (fun n => by rw [if_neg (by omega)]) (J2 false (by rw [decide_eq_false c, Bool.and_false]))
theorem rmid_ev (A B : List Bool) (E : Int) (rest : Bool) (k : Nat) (hk : k ≤ 9218868437227405311) (hA : A.length < 10000) (hB : B.length < 10000) (hE : -10000 ≤ E ∧ E ≤ 10000) (hB0 : 0 < bv B) :
    ∃ m2 : List Bool, ∃ m1 : List Bool, Ev (fun n => flyballref01_Add.f n (List.replicate 1 false ++ tb (tm k) 64) (tb 1 64)) m1 ∧ m2 = m1 ∧
    Ev (fun n => flyballref05_cmp.f n A B E rest m2 (te k - 1)) (cmpX (FX (bv A) (bv B) E) (FS (bv A) (bv B) E rest) (magk k + magk (k + 1))) := by
  have h := te_bd k (by omega)
  have ht := tm_lt k
  obtain ⟨r, hr, h1, h2⟩ := rAdd_ev (List.replicate 1 false ++ tb (tm k) 64) (tb 1 64) (by rw [List.length_append, List.length_replicate, tb_len]; omega) (by rw [tb_len]; omega)
  rw [bv_shl, tb_bv 64 _ (by omega), tb_bv 64 1 (by decide)] at h1
  rw [List.length_append, List.length_replicate, tb_len, tb_len] at h2
  refine ⟨r, r, hr, rfl, ?_⟩
  have C := rcmp_ev A B r E (te k - 1) rest hA hB (by omega) hE (by omega) hB0
  rw [h1, Nat.pow_one, Nat.mul_comm (tm k) 2, mid_key] at C
  exact C
theorem up_near_aux (X Y : Nat) (s hh z o : Bool) (m1 : X < Y ↔ hh = false) (m2 : X ≤ Y ↔ hh = false ∨ z = false) :
    (if cmpX X s Y > 0 then true else if cmpX X s Y = 0 then o else false) = (hh && ((s || z) || o)) := by
  have g := cmpX_gt X s Y
  have e := cmpX_eq X s Y
  cases hh
  · have h := m1.2 rfl
    rw [if_neg (fun hc => by have := g.1 hc; omega), if_neg (fun hc => by have := (e.1 hc).1; omega)]; rfl
  · have n1 : ¬ X < Y := fun h => by have := m1.1 h; cases this
    cases z
    · have n2 : X = Y := by have := m2.2 (.inr rfl); omega
      cases s
      · rw [if_neg (fun hc => by rcases g.1 hc with h | h; omega; cases h.2), if_pos (e.2 ⟨n2, rfl⟩)]; rfl
      · rw [if_pos (g.2 (.inr ⟨n2.symm, rfl⟩))]; rfl
    · have n2 : Y < X := by
        by_cases c : X ≤ Y
        · rcases m2.1 c with h | h
          · cases h
          · cases h
        · omega
      rw [if_pos (g.2 (.inl n2))]; cases s <;> rfl
theorem up_near (X : Nat) (s : Bool) : (if cmpX X s (magk (fk X) + magk (fk X + 1)) > 0 then true else if cmpX X s (magk (fk X) + magk (fk X + 1)) = 0 then (fk X % 2 == 1) else false) = (hf X && (rs X s || X / 2 ^ sh X % 2 == 1)) := by
  rw [← odd_fk X]
  unfold rs
  refine up_near_aux X _ s (hf X) _ (fk X % 2 == 1) (mid_lt X) ?_
  rw [mid_le X, bne_eq_false_iff_eq]
end Go.Proofs.Ytmadjhmecfbcmaa.M
end
section
namespace Go.Proofs.Ytmadjhmecfbcmaa.M
open Go.RowKit Go.Proofs.YtmadjhmecfbcmaaW.PrintWords Go.Proofs.YtmadjhmecfbcmaaW.PrintLast Go.Proofs.YtmadjhmecfbcmaaW.PrintMore Go.Proofs.Ytmadjhmecfbcmaa.F
theorem top_if (up : Bool) : (if up = true ∧ 9218868437227405312 ≤ 9218868437227405311 then 1 else 0) = 0 := if_neg (fun h => absurd h.2 (by decide))
theorem mag_value (X : Nat) (s : Bool) (d fl : Nat) (up : Bool)
    (hfl : fl = if hf X || rs X s then (if X < 9007199254740992 then 3 else 1) else 0)
    (hup : fk X < 9218868437227405312 → up = upw X s d) :
    (if 9218868437227405312 ≤ fkc X + (if up = true ∧ fkc X ≤ 9218868437227405311 then 1 else 0) then ((if d = 2 then 9218868437227405311 else 9218868437227405312 : Int), (5 : Int))
       else (((fkc X + (if up = true ∧ fkc X ≤ 9218868437227405311 then 1 else 0) : Nat) : Int), (fl : Int))) = pr (rnd X s d) := by
  by_cases c : 9218868437227405312 ≤ fk X
  · have e : fkc X = 9218868437227405312 := by unfold fkc; rw [if_pos c]
    have hk : kk X s d ≥ 9218868437227405312 := by unfold kk; omega
    rw [e, top_if, Nat.add_zero, if_pos (Nat.le_refl _)]
    unfold rnd pr; rw [if_pos hk]
    by_cases d2 : d = 2
    · rw [if_pos d2, if_pos d2]; rfl
    · rw [if_neg d2, if_neg d2]; rfl
  · have e : fkc X = fk X := by unfold fkc; rw [if_neg c]
    have hu := hup (by omega)
    have hk : fkc X + (if up = true ∧ fkc X ≤ 9218868437227405311 then 1 else 0) = kk X s d := by
      unfold kk; rw [e, hu]; congr 1
      by_cases h : upw X s d = true
      · rw [if_pos ⟨h, by omega⟩, if_pos h]
      · rw [if_neg (fun g => h g.1), if_neg h]
    rw [hk]
    unfold rnd pr
    by_cases g : 9218868437227405312 ≤ kk X s d
    · rw [if_pos g, if_pos g]
      by_cases d2 : d = 2
      · rw [if_pos d2, if_pos d2]; rfl
      · rw [if_neg d2, if_neg d2]; rfl
    · rw [if_neg g, if_neg (show ¬ kk X s d ≥ 9218868437227405312 from g), hfl]
theorem big_X {X : Nat} (h : 9218868437227405311 ≤ fkc X) : ¬ X < 9007199254740992 := by
  intro hx
  have := fk_of_lt hx
  unfold fkc at h; split at h <;> omega
theorem rMag_ev (A B : List Bool) (E : Int) (rest : Bool) (d : Nat) (hA : A.length < 10000) (hB : B.length < 10000) (hE : -10000 ≤ E ∧ E ≤ 10000) (hB0 : 0 < bv B) :
    Ev (fun k => flyballref05_Magnitude.f k A B E rest (d : Int)) (pr (rnd (FX (bv A) (bv B) E) (FS (bv A) (bv B) E rest) d)) := by
  have F := rfloor_ev A B E rest hA hB hE hB0
  have hkc : fkc (FX (bv A) (bv B) E) ≤ 9218868437227405312 := by unfold fkc; split <;> omega
  have S := rsplit_ev _ hkc
  have C := rcmp_key A B E rest _ hkc hA hB hE hB0
  have O : Ev (fun k => flyballref01_Of.f k [1]) (tb 1 64) := rOf_ev 1 (by decide)
  have C2 := rcmp_ev A B (tb 1 64) E (-1022) rest hA hB (by rw [tb_len]; omega) hE (by omega) hB0
  rw [tb_bv 64 1 (by decide), Nat.one_mul, show ((-1022 : Int) + 1075).toNat = 53 from rfl] at C2
  have M := fun hk => rmid_ev A B E rest (fkc (FX (bv A) (bv B) E)) hk hA hB hE hB0
  have Mt := rmid_ev A B E rest 9218868437227405311 (by omega) hA hB hE hB0
  generalize hX : FX (bv A) (bv B) E = X at *
  generalize hs : FS (bv A) (bv B) E rest = s at *
  have hex : fk X < 9218868437227405312 → (cmpX X s (2 * magk (fkc X)) = 0 ↔ (hf X || rs X s) = false) := by
    intro c
    have e : fkc X = fk X := by unfold fkc; rw [if_neg (by omega)]
    rw [cmpX_eq, exact_iff, e]
  have J0 : ∀ (fl : Nat) (eq : Bool), (fl = 0 ∨ fl = 1 ∨ fl = 3) → (9218868437227405311 ≤ fkc X → fl ≠ 3) → (fk X < 9218868437227405312 → fl = if hf X || rs X s then (if X < 9007199254740992 then 3 else 1) else 0) → (fk X < 9218868437227405312 → eq = !(hf X || rs X s)) →
      Ev (fun k => flyballref05_Magnitude.j0 k (d : Int) (fl : Int) (fkc X : Int) eq (tb 1 64) A B E rest) (pr (rnd X s d)) := by
    intro fl eq h1 h2 h3 h4
    have V : ∀ up : Bool, (fk X < 9218868437227405312 → up = upw X s d) → Ev (fun n => flyballref05_Magnitude.j1 n (d : Int) (fl : Int) (fkc X : Int) up) (pr (rnd X s d)) := by
      intro up hup
      have J := mag_j1 d (fkc X) fl up hkc h1 h2
      by_cases c : fk X < 9218868437227405312
      · rw [mag_value X s d fl up (h3 c) hup] at J; exact J
      · have e : fkc X = 9218868437227405312 := by unfold fkc; rw [if_pos (by omega)]
        have g := mag_value X s d (if hf X || rs X s then (if X < 9007199254740992 then 3 else 1) else 0) up rfl hup
        rw [e, top_if, Nat.add_zero, if_pos (Nat.le_refl _)] at g
        rw [e, top_if, Nat.add_zero, if_pos (Nat.le_refl _), g, ← e] at J; exact J
    refine Ev.next ?_
    simp only [flyballref05_Magnitude.j0]
    by_cases d1 : d = 1
    · exact Ev.congr (fun k => by rw [if_pos (by omega)]) (V (!eq) (fun c => by rw [h4 c]; unfold upw; rw [if_pos d1, Bool.not_not]))
    · by_cases d2 : d = 2
      · exact Ev.congr (fun k => by rw [if_neg (by omega), if_pos (by omega)]) (V false (fun c => by unfold upw; rw [if_neg d1, if_pos d2]))
      · refine Ev.congr (fun k => by rw [if_neg (by omega), if_neg (by omega)]) (Ev.b _ S ?_)
        dsimp only
        by_cases c : fkc X ≤ 9218868437227405311
        · have c' : fk X < 9218868437227405312 := by unfold fkc at c; split at c <;> omega
          have e : fkc X = fk X := by unfold fkc; rw [if_neg (by omega)]
          obtain ⟨m2, m1, hm, rfl, hc⟩ := M c
          have w1 : wrap64 (te (fkc X) - 1) = te (fkc X) - 1 := by have := te_bd _ hkc; exact w64 (by omega) (by omega)
          have odd : (Int.tmod (fkc X : Int) 2 == 1) = (fk X % 2 == 1) := by
            rw [Int.tmod_eq_emod_of_nonneg (by omega), e, Bool.eq_iff_iff, beq_iff_eq, beq_iff_eq]; omega
          rw [w1, odd]
          have hu := up_near X s
          rw [e] at hc
          have sh1 : Ev (fun n => flyballref01_Shl.f n (tb (tm (fkc X)) 64) 1) (List.replicate 1 false ++ tb (tm (fkc X)) 64) := rShl_ev (tb (tm (fkc X)) 64) 1 (by omega) (by rw [tb_len]; omega)
          rw [← e] at hc
          refine Ev.congr (fun k => by rw [if_neg (by omega)]) (Ev.b _ sh1 (Ev.b _ hm (Ev.b _ hc ?_)))
          rw [e]
          have U : ∀ b : Bool, (if cmpX X s (magk (fk X) + magk (fk X + 1)) > 0 then true else if cmpX X s (magk (fk X) + magk (fk X + 1)) = 0 then (fk X % 2 == 1) else false) = b → Ev (fun n => flyballref05_Magnitude.j1 n (d : Int) (fl : Int) (fk X : Int) b) (pr (rnd X s d)) := by
            intro b hb
            have := V b (fun _ => by rw [← hb, hu]; unfold upw; rw [if_neg d1, if_neg d2])
            rw [e] at this; exact this
          by_cases g1 : cmpX X s (magk (fk X) + magk (fk X + 1)) > 0
          · exact Ev.congr (fun k => by rw [if_pos g1]) (U true (by rw [if_pos g1]))
          · by_cases g2 : cmpX X s (magk (fk X) + magk (fk X + 1)) = 0
            · exact Ev.congr (fun k => by rw [if_neg g1, if_pos g2]) (U _ (by rw [if_neg g1, if_pos g2]))
            · exact Ev.congr (fun k => by rw [if_neg g1, if_neg g2]) (U false (by rw [if_neg g1, if_neg g2]))
        · have c' : ¬ fk X < 9218868437227405312 := by unfold fkc at c; split at c <;> omega
          obtain ⟨m2, m1, hm, rfl, hc⟩ := Mt
          have St := rsplit_ev 9218868437227405311 (by omega)
          rw [show ((9218868437227405311 : Nat) : Int) = 9218868437227405311 from rfl] at St
          obtain ⟨r, hr, r1, r2⟩ := rAdd_ev (tb (tm 9218868437227405311) 64) (tb 1 64) (by rw [tb_len]; omega) (by rw [tb_len]; omega)
          rw [tb_len, tb_len] at r2
          have sh1 : Ev (fun n => flyballref01_Shl.f n r 1) (List.replicate 1 false ++ r) := rShl_ev r 1 (by omega) (by omega)
          obtain ⟨r', hr', r1', r2'⟩ := rAdd_ev (List.replicate 1 false ++ r) (tb 1 64) (by rw [List.length_append, List.length_replicate]; omega) (by rw [tb_len]; omega)
          rw [List.length_append, List.length_replicate, tb_len] at r2'
          have tb2 := te_bd 9218868437227405311 (by omega)
          have C3 := rcmp_ev A B r' E (te 9218868437227405311 - 1) rest hA hB (by omega) hE (by omega) hB0
          have w1 : wrap64 (te 9218868437227405311 - 1) = te 9218868437227405311 - 1 := w64 (by omega) (by omega)
          have W : ∀ b : Bool, Ev (fun n => flyballref05_Magnitude.j1 n (d : Int) (fl : Int) (fkc X : Int) b) (pr (rnd X s d)) := fun b => V b (fun h => absurd h c')
          refine Ev.congr (fun k => by rw [if_pos (by omega)]) (Ev.b _ St ?_)
          dsimp only
          rw [w1]
          refine Ev.b _ hr (Ev.b _ sh1 (Ev.b _ hr' (Ev.b _ C3 ?_)))
          generalize cmpX (FX (bv A) (bv B) E) (FS (bv A) (bv B) E rest) (bv r' * 2 ^ (te 9218868437227405311 - 1 + 1075).toNat) = g
          by_cases g1 : g > 0
          · exact Ev.congr (fun k => by rw [if_pos g1]) (W true)
          · by_cases g2 : g = 0
            · exact Ev.congr (fun k => by rw [if_neg g1, if_pos g2]) (W _)
            · exact Ev.congr (fun k => by rw [if_neg g1, if_neg g2]) (W false)
  unfold flyballref05_Magnitude.f
  refine Ev.b _ F (Ev.b _ S ?_)
  dsimp only
  refine Ev.b _ C (Ev.b _ O ?_)
  by_cases z : cmpX X s (2 * magk (fkc X)) = 0
  · have J := J0 0 true (.inl rfl) (fun _ => by omega) (fun c => by rw [(hex c).1 z]; rfl) (fun c => by rw [(hex c).1 z]; rfl)
    rw [beq_iff_eq.2 z]
    rw [show ((0 : Nat) : Int) = 0 from rfl] at J
    exact Ev.congr (fun k => by rw [if_pos z]) J
  · have z' : (cmpX X s (2 * magk (fkc X)) == 0) = false := beq_eq_false_iff_ne.2 z
    have hin : fk X < 9218868437227405312 → (hf X || rs X s) = true := by
      intro c
      cases h : (hf X || rs X s)
      · exact absurd ((hex c).2 h) z
      · rfl
    rw [z']
    refine Ev.congr (fun k => by rw [if_neg z]) (Ev.b _ C2 ?_)
    rw [or8.1, or8.2.1]
    by_cases lt : X < 9007199254740992
    · have J := J0 3 false (.inr (.inr rfl)) (fun h => absurd lt (big_X h)) (fun c => by rw [hin c, if_pos rfl, if_pos lt]) (fun c => by rw [hin c]; rfl)
      rw [show ((3 : Nat) : Int) = 3 from rfl] at J
      exact Ev.congr (fun k => by rw [if_pos ((cmpX_lt _ _ _).2 lt)]) J
    · have J := J0 1 false (.inr (.inl rfl)) (fun h => by omega) (fun c => by rw [hin c, if_pos rfl, if_neg lt]) (fun c => by rw [hin c]; rfl)
      rw [show ((1 : Nat) : Int) = 1 from rfl] at J
      exact Ev.congr (fun k => by rw [if_neg (fun h => lt ((cmpX_lt _ _ _).1 h))]) J
end Go.Proofs.Ytmadjhmecfbcmaa.M
end
section
namespace Go.Proofs.Ytmadjhmecfbcmaa.M
open Go.RowKit Go.Proofs.YtmadjhmecfbcmaaW.PrintWords Go.Proofs.YtmadjhmecfbcmaaW.PrintLast Go.Proofs.YtmadjhmecfbcmaaW.PrintMore Go.Proofs.Ytmadjhmecfbcmaa.F
theorem rnd_le (X : Nat) (s : Bool) (d : Nat) : (rnd X s d).1 ≤ 9218868437227405312 := by
  unfold rnd
  by_cases h : kk X s d ≥ 9218868437227405312
  · rw [if_pos h]
    by_cases d2 : d = 2
    · rw [if_pos d2]; decide
    · rw [if_neg d2]; decide
  · rw [if_neg h]; exact Nat.le_of_lt (Nat.lt_of_not_le h)
theorem rSigned_ev (neg : Bool) (A B : List Bool) (E : Int) (rest : Bool) (mode : Nat) (hA : A.length < 10000) (hB : B.length < 10000) (hE : -10000 ≤ E ∧ E ≤ 10000) (hB0 : 0 < bv B) :
    Ev (fun k => flyballref05_Signed.f k neg A B E rest (mode : Int)) (pr (RND neg (FX (bv A) (bv B) E) (FS (bv A) (bv B) E rest) mode)) := by
  have J1 : ∀ w : Nat, Ev (fun k => flyballref05_Signed.j1 k neg (w : Int) A B E rest) (pr (sg neg + (rnd (FX (bv A) (bv B) E) (FS (bv A) (bv B) E rest) w).1, (rnd (FX (bv A) (bv B) E) (FS (bv A) (bv B) E rest) w).2)) := by
    intro w
    have M := rMag_ev A B E rest w hA hB hE hB0
    have hle := rnd_le (FX (bv A) (bv B) E) (FS (bv A) (bv B) E rest) w
    refine Ev.next ?_
    simp only [flyballref05_Signed.j1]
    refine Ev.b _ M ?_
    obtain ⟨r, hr⟩ : ∃ r, rnd (FX (bv A) (bv B) E) (FS (bv A) (bv B) E rest) w = r := ⟨_, rfl⟩
    rw [hr] at hle ⊢
    unfold pr
    dsimp only
    cases neg
    · have O := Of_ok false r.1 hle (r.1 : Int) rfl
      exact Ev.congr (fun k => by rw [if_neg (by simp)]) (Ev.b (f := fun _ x => some (x, (r.2 : Int))) _ O (Ev.now _))
    · have O := Of_ok true r.1 hle (wrap64 (-(r.1 : Int))) (by rw [w64 (by omega) (by omega)]; rfl)
      exact Ev.congr (fun k => by rw [if_pos rfl]) (Ev.b (f := fun _ x => some (x, (r.2 : Int))) _ O (Ev.now _))
  have hR : ∀ w, dir neg mode = w ∨ rnd (FX (bv A) (bv B) E) (FS (bv A) (bv B) E rest) (dir neg mode) = rnd (FX (bv A) (bv B) E) (FS (bv A) (bv B) E rest) w →
      pr (sg neg + (rnd (FX (bv A) (bv B) E) (FS (bv A) (bv B) E rest) w).1, (rnd (FX (bv A) (bv B) E) (FS (bv A) (bv B) E rest) w).2) = pr (RND neg (FX (bv A) (bv B) E) (FS (bv A) (bv B) E rest) mode) := by
    rintro w (h | h)
    · unfold RND; rw [h]
    · unfold RND; rw [h]
  have other : ∀ w X s, w ≠ 1 → w ≠ 2 → rnd X s 0 = rnd X s w := by
    intro w X s h1 h2
    have e : kk X s 0 = kk X s w := by unfold kk upw; rw [if_neg (show ¬ (0 : Nat) = 1 by decide), if_neg (show ¬ (0 : Nat) = 2 by decide), if_neg h1, if_neg h2]
    unfold rnd; rw [e, if_neg (show ¬ (0 : Nat) = 2 by decide), if_neg h2]
  have j1 := J1 1
  have j2 := J1 2
  rw [show ((1 : Nat) : Int) = 1 from rfl] at j1
  rw [show ((2 : Nat) : Int) = 2 from rfl] at j2
  unfold flyballref05_Signed.f
  by_cases m1 : mode = 1
  · have e0 : (mode : Int) = 1 := by omega
    rw [e0]
    cases neg
    · rw [hR 1 (.inl (by unfold dir; rw [if_pos m1]; rfl))] at j1
      refine Ev.congr (fun k => by rw [if_neg (by simp)]) (Ev.next ?_)
      simp only [flyballref05_Signed.j0]
      exact Ev.congr (fun k => by rw [if_neg (by simp), if_neg (by simp)]) j1
    · rw [hR 2 (.inl (by unfold dir; rw [if_pos m1]; rfl))] at j2
      have b1 : ((1 : Int) == 1) = true := rfl
      refine Ev.congr (fun k => by rw [if_pos rfl, b1]) (Ev.next ?_)
      simp only [flyballref05_Signed.j0]
      exact Ev.congr (fun k => by rw [if_pos trivial]) j2
  · have e1 : ((mode : Int) == 1) = false := by rw [beq_eq_false_iff_ne]; omega
    by_cases m2 : mode = 2
    · have e0 : (mode : Int) = 2 := by omega
      rw [e0]
      cases neg
      · rw [hR 2 (.inl (by unfold dir; rw [if_neg m1, if_pos m2]; rfl))] at j2
        refine Ev.congr (fun k => by rw [if_neg (by simp)]) (Ev.next ?_)
        simp only [flyballref05_Signed.j0]
        exact Ev.congr (fun k => by rw [if_neg (by simp), if_neg (by simp)]) j2
      · rw [hR 1 (.inl (by unfold dir; rw [if_neg m1, if_pos m2]; rfl))] at j1
        have b1 : ((2 : Int) == 1) = false := rfl
        refine Ev.congr (fun k => by rw [if_pos rfl, b1]) (Ev.next ?_)
        simp only [flyballref05_Signed.j0]
        exact Ev.congr (fun k => by rw [if_neg (by simp), if_pos trivial, if_pos trivial]) j1
    · have jm := J1 mode
      rw [hR mode (.inr (by
        have : dir neg mode = 0 := by unfold dir; rw [if_neg m1, if_neg m2]
        rw [this]; exact other _ _ _ m1 m2))] at jm
      cases neg
      · refine Ev.congr (fun k => by rw [if_neg (by simp)]) (Ev.next ?_)
        simp only [flyballref05_Signed.j0]
        exact Ev.congr (fun k => by rw [if_neg (by simp), if_neg (by simp)]) jm
      · refine Ev.congr (fun k => by rw [if_pos rfl, e1]) (Ev.next ?_)
        simp only [flyballref05_Signed.j0]
        exact Ev.congr (fun k => by rw [if_neg (by simp), if_pos trivial, if_neg (by omega)]) jm
theorem rRound_ev (neg : Bool) (m : List Bool) (e : Int) (rest : Bool) (mode : Nat) (hm : m.length < 10000) :
    Ev (fun k => flyballref05_Round.f k neg m e rest (mode : Int))
      (if bv m = 0 then ((sg neg : Int), 0) else pr (RND neg (FX (bv m) 1 (cl e)) (FS (bv m) 1 (cl e) (rest && decide (53 < bl (bv m)))) mode)) := by
  have L := rLen_ev m (by omega)
  have hbl := bl_len m
  unfold flyballref05_Round.f
  refine Ev.b _ L ?_
  by_cases c : bv m = 0
  · rw [if_pos c]
    have : (bl (bv m) : Int) = 0 := by rw [c]; rfl
    have O := Of_ok neg 0 (by omega) 0 (by cases neg <;> rfl)
    refine Ev.congr (fun k => by rw [if_pos this]) (Ev.b (f := fun _ x => some (x, (0 : Int))) _ O (Ev.now _))
  · rw [if_neg c]
    have h1 := (bl_bd _ c).1
    have e1 : mn (mx e (-5000)) 5000 = cl e := by rw [mx_eq, mn_eq]; rfl
    have e2 : decide ((bl (bv m) : Int) ≥ 54) = decide (53 < bl (bv m)) := by rw [Bool.eq_iff_iff, decide_eq_true_iff, decide_eq_true_iff]; omega
    have ht := bv_take_bl m
    have hl : (m.take (bl (bv m))).length < 10000 := by rw [List.length_take]; omega
    have hc : -5000 ≤ cl e ∧ cl e ≤ 5000 := by unfold cl; omega
    have S := fun r => rSigned_ev neg (m.take (bl (bv m))) [true] (cl e) r mode hl (by decide) (by omega) (by decide)
    have b1 : bv [true] = 1 := rfl
    rw [ht, b1] at S
    rw [e1, e2, Int.toNat_natCast]
    cases rest
    · exact Ev.congr (fun k => by rw [if_neg (by omega), if_pos (by omega), if_pos (by omega), Option.bind_some, if_neg (by simp)]) (Ev.b (f := fun _ x => some (x.1, x.2)) _ (S false) (Ev.now _))
    · exact Ev.congr (fun k => by rw [if_neg (by omega), if_pos (by omega), if_pos (by omega), Option.bind_some, if_pos rfl]) (Ev.b (f := fun _ x => some (x.1, x.2)) _ (S (decide (53 < bl (bv m)))) (Ev.now _))
end Go.Proofs.Ytmadjhmecfbcmaa.M
end
section
namespace Go.Proofs.Ytmadjhmecfbcmaa.M
open Go.RowKit Go.Proofs.YtmadjhmecfbcmaaW.PrintWords Go.Proofs.YtmadjhmecfbcmaaW.PrintLast Go.Proofs.YtmadjhmecfbcmaaW.PrintMore Go.Proofs.Ytmadjhmecfbcmaa.F
theorem is4 (a : Nat) (h : U a) : Ev (fun k => flyballref06_is.f k (a : Int) 4) (decide (cls a = 4)) := ref_is_ev a 4 h
theorem is3 (a : Nat) (h : U a) : Ev (fun k => flyballref06_is.f k (a : Int) 3) (decide (cls a = 3)) := ref_is_ev a 3 h
theorem is0 (a : Nat) (h : U a) : Ev (fun k => flyballref06_is.f k (a : Int) 0) (decide (cls a = 0)) := ref_is_ev a 0 h
end Go.Proofs.Ytmadjhmecfbcmaa.M
end
section
namespace Go.Proofs.Ytmadjhmecfbcmaa.M
open Go.RowKit Go.Proofs.YtmadjhmecfbcmaaW.PrintWords Go.Proofs.YtmadjhmecfbcmaaW.PrintLast Go.Proofs.YtmadjhmecfbcmaaW.PrintMore Go.Proofs.Ytmadjhmecfbcmaa.F
theorem bv_set (l : List Bool) (i : Nat) (b : Bool) (h : i < l.length) : bv (l.set i b) + 2 ^ i * bn (l.getD i false) = bv l + 2 ^ i * bn b := by
  induction l generalizing i with
  | nil => simp at h
  | cons x l ih =>
    cases i with
    | zero => simp [bv]; omega
    | succ i =>
      have := ih i (by simpa using h)
      rw [List.set_cons_succ, bv, bv, List.getD_cons_succ, Nat.pow_succ]
      grind
def low (l : List Bool) (j : Nat) : Prop := ∀ i, i < j → l.getD i false = false
theorem rSqrt_l (A : List Bool) (hA : A.length < 1000) : ∀ (j r : Nat) (l : List Bool), l.length = 64 → bv l = r → low l j → j ≤ 64 → r * r ≤ bv A →
    ∃ s q, Ev (fun k => flyballref01_Sqrt.l0 k A l ((j : Int) - 1)) (s, q) ∧ s.length = 64 ∧ bv s = isqA (bv A) j r ∧ bv q = bv A - isqA (bv A) j r * isqA (bv A) j r ∧ q.length = A.length
  | 0, r, l, hl, hr, _, _, hsq => by
    obtain ⟨P, hP, P1, P2⟩ := rMul_ev l l (by omega) (by omega)
    obtain ⟨q, c, hq, q1, q2⟩ := rSub_ev A P A.length (by omega) (bv_lt A) (by rw [P1, hr]; exact hsq)
    refine ⟨l, q, ?_, hl, hr, by rw [q1, P1, hr]; rfl, q2⟩
    refine Ev.next ?_
    simp only [flyballref01_Sqrt.l0]
    refine Ev.congr (fun k => by rw [if_neg (by omega)]) ?_
    refine Ev.b _ hP ?_
    refine Ev.b _ hq ?_
    exact Ev.now _
  | j + 1, r, l, hl, hr, hz, hj, hsq => by
    have e0 : (((j + 1 : Nat) : Int) - 1) = (j : Int) := by omega
    rw [e0]
    have w : wrap64 ((j : Int) - 1) = (j : Int) - 1 := w64 (by omega) (by omega)
    have tn : ((j : Int)).toNat = j := Int.toNat_natCast j
    have zj : l.getD j false = false := hz j (by omega)
    have b1 := bv_set l j true (by omega)
    rw [zj] at b1
    have b2 : bv (l.set j true) = r + 2 ^ j := by simp [bn] at b1; omega
    have hl2 : (l.set j true).length = 64 := by rw [List.length_set]; exact hl
    obtain ⟨P, hP, P1, P2⟩ := rMul_ev (l.set j true) (l.set j true) (by omega) (by omega)
    have C := rCmp_ev P A (by omega) (by omega)
    rw [P1, b2] at C
    have back : (l.set j true).set j false = l := by
      rw [List.set_set]
      apply List.ext_getElem?
      intro i
      by_cases c : i = j
      · subst c
        rw [List.getElem?_set_self (by omega)]
        rw [List.getD_eq_getElem?_getD, List.getElem?_eq_getElem (by omega)] at zj
        rw [List.getElem?_eq_getElem (by omega)]
        simpa using zj.symm
      · rw [List.getElem?_set_ne (by omega)]
    have go : (r + 2 ^ j) * (r + 2 ^ j) ≤ bv A → ∃ s q, Ev (fun k => flyballref01_Sqrt.l0 k A (l.set j true) ((j : Int) - 1)) (s, q) ∧ s.length = 64 ∧ bv s = isqA (bv A) j (r + 2 ^ j) ∧ bv q = bv A - isqA (bv A) j (r + 2 ^ j) * isqA (bv A) j (r + 2 ^ j) ∧ q.length = A.length := by
      intro h
      refine rSqrt_l A hA j (r + 2 ^ j) (l.set j true) hl2 b2 ?_ (by omega) h
      intro i hi
      have := hz i (by omega)
      rw [List.getD_eq_getElem?_getD] at this ⊢
      rw [List.getElem?_set_ne (by omega)]; exact this
    unfold isqA
    by_cases c : (r + 2 ^ j) * (r + 2 ^ j) ≤ bv A
    · rw [if_pos c]
      obtain ⟨s, q, h1, h2⟩ := go c
      refine ⟨s, q, ?_, h2⟩
      refine Ev.next ?_
      simp only [flyballref01_Sqrt.l0]
      rw [hl, w, tn]
      refine Ev.congr (fun k => by rw [if_pos (by omega), if_pos (by omega), if_pos (by omega), Option.bind_some]) ?_
      refine Ev.b _ hP ?_
      refine Ev.b _ C ?_
      have g : ¬ (if (r + 2 ^ j) * (r + 2 ^ j) < bv A then (-1 : Int) else if bv A < (r + 2 ^ j) * (r + 2 ^ j) then 1 else 0) > 0 := by
        rw [if_neg (Nat.not_lt.2 c) (c := bv A < _)]; split <;> decide
      exact Ev.congr (fun k => by rw [if_neg g]) h1
    · rw [if_neg c]
      obtain ⟨s, q, h1, h2⟩ := rSqrt_l A hA j r l hl hr (fun i hi => hz i (by omega)) (by omega) hsq
      refine ⟨s, q, ?_, h2⟩
      refine Ev.next ?_
      simp only [flyballref01_Sqrt.l0]
      rw [hl, w, tn]
      refine Ev.congr (fun k => by rw [if_pos (by omega), if_pos (by omega), if_pos (by omega), Option.bind_some]) ?_
      refine Ev.b _ hP ?_
      refine Ev.b _ C ?_
      have c2 := Nat.lt_of_not_le c
      have g : (if (r + 2 ^ j) * (r + 2 ^ j) < bv A then (-1 : Int) else if bv A < (r + 2 ^ j) * (r + 2 ^ j) then 1 else 0) > 0 := by
        rw [if_neg (Nat.lt_asymm c2), if_pos c2]; decide
      rw [back]
      exact Ev.congr (fun k => by rw [if_pos g]) h1
theorem low_rep (n j : Nat) : low (List.replicate n false) j := by
  intro i _
  rw [List.getD_eq_getElem?_getD, List.getElem?_replicate]
  split <;> rfl
theorem rSqrt_ev (A : List Bool) (hA : A.length < 1000) : ∃ s q, Ev (fun k => flyballref01_Sqrt.f k A) (s, q) ∧ s.length = 64 ∧ bv s = isq (bv A) ∧ bv q = bv A - isq (bv A) * isq (bv A) ∧ q.length = A.length := by
  obtain ⟨s, q, h1, h2⟩ := rSqrt_l A hA 64 0 (List.replicate 64 false) (by simp) (bv_falses 64) (low_rep 64 64) (by omega) (by omega)
  refine ⟨s, q, ?_, h2⟩
  rw [show (((64 : Nat) : Int) - 1) = 63 from rfl] at h1
  unfold flyballref01_Sqrt.f
  exact Ev.congr (fun k => by rw [if_pos (by decide)]) h1
theorem rRoot_j0 (a mode : Nat) (c4 : ¬ cls a = 4) (n0 : ¬ cls a = 0) (cs : ¬ sgn a = true) (n3 : ¬ cls a = 3) :
    Ev (fun k => flyballref06_Sqrt.j0 k (mode : Int) (spm a : Int) (spe a) (rk a : Int)) (pr (sSqrt a mode)) := by
  have ka : cls a ≤ 2 := by have := cls_le a; omega
  obtain ⟨b1, b2, b3, b4, b5, b6, b7, b8⟩ := root_bd a ka n0
  have ea := spe_bd a
  have sa := spm_lt a
  have hS : RND false (FX (isq (rM a)) 1 (rE a)) (FS (isq (rM a)) 1 (rE a) (decide (rM a - isq (rM a) * isq (rM a) ≠ 0))) mode = sSqrt a mode := by
    unfold sSqrt; rw [if_neg c4, if_neg n0, if_neg cs, if_neg n3]
  have sp := isq_spec (rM a) (by omega)
  have hr := rt1 sp.2.1 b6
  obtain ⟨A, hA, A1, A2⟩ := rbits_ev (spm a) (by omega)
  have Sh := rShl_ev A (rk a) (by omega) (by omega)
  obtain ⟨B, hB⟩ : ∃ B, List.replicate (rk a) false ++ A = B := ⟨_, rfl⟩
  have B1 : bv B = rM a := by rw [← hB, bv_shl, A1]; rfl
  have B2 : B.length < 1000 := by rw [← hB, List.length_append, List.length_replicate]; omega
  rw [hB] at Sh
  obtain ⟨s, q, hs, s1, s2, q1, q2⟩ := rSqrt_ev B B2
  rw [B1] at s2 q1
  have L := rLen_ev q (by omega)
  have R := rRound_ev false s (rE a) (decide (rM a - isq (rM a) * isq (rM a) ≠ 0)) mode (by omega)
  have hbl54 : 53 < bl (isq (rM a)) := by
    by_cases c9 : bl (isq (rM a)) ≤ 53
    · have := bl_small c9; omega
    · omega
  have hrE : -700 ≤ rE a ∧ rE a ≤ 700 := by unfold rE; omega
  rw [s2, if_neg (by omega), cl_id (by omega) (by omega), decide_eq_true hbl54, Bool.and_true, hS] at R
  have w1 : wrap64 (spe a - (rk a : Int)) = spe a - (rk a : Int) := w64 (by omega) (by omega)
  have hd : wrap64 (Int.tdiv (spe a - (rk a : Int)) 2) = rE a := by
    rw [Int.tdiv_eq_ediv_of_dvd (Int.dvd_of_emod_eq_zero b7)]; exact w64 (by unfold rE at hrE; omega) (by unfold rE at hrE; omega)
  have hz : decide ((bl (bv q) : Int) > 0) = decide (rM a - isq (rM a) * isq (rM a) ≠ 0) := by
    rw [← q1, Bool.eq_iff_iff, decide_eq_true_iff, decide_eq_true_iff]
    by_cases z : bv q = 0
    · rw [z]; exact ⟨fun h => absurd h (by decide), fun h => absurd rfl h⟩
    · have := (bl_bd _ z).1; exact ⟨fun _ => z, fun _ => by omega⟩
  refine Ev.next ?_
  simp only [flyballref06_Sqrt.j0]
  rw [w1, hd]
  refine Ev.b _ hA ?_
  refine Ev.b _ Sh ?_
  refine Ev.b _ hs ?_
  dsimp only
  refine Ev.b _ L ?_
  rw [hz]
  exact Ev.b (f := fun _ x => some (x.1, x.2)) _ R (Ev.now _)
theorem refSqrt_ev (a mode : Nat) (ha : U a) : Ev (fun k => flyballref06_Sqrt.f k (a : Int) (mode : Int)) (pr (sSqrt a mode)) := by
  unfold flyballref06_Sqrt.f
  refine Ev.b _ (is4 a ha) ?_
  by_cases c4 : cls a = 4
  · have hS : sSqrt a mode = (QN, 0) := by unfold sSqrt; rw [if_pos c4]
    rw [hS, decide_eq_true c4]
    exact Ev.all fun k => by rw [if_pos rfl]; rfl
  rw [decide_eq_false c4]
  refine Ev.congr (fun k => by rw [if_neg (by simp)]) ?_
  refine Ev.b _ (is0 a ha) ?_
  by_cases n0 : cls a = 0
  · have hS : sSqrt a mode = (a, 0) := by unfold sSqrt; rw [if_neg c4, if_pos n0]
    rw [hS, decide_eq_true n0]
    exact Ev.all fun k => by rw [if_pos rfl]; rfl
  rw [decide_eq_false n0]
  refine Ev.congr (fun k => by rw [if_neg (by simp)]) ?_
  refine Ev.b _ (Ev.const (ref_neg_ok a)) ?_
  by_cases cs : sgn a = true
  · have hS : sSqrt a mode = (QN, 16) := by unfold sSqrt; rw [if_neg c4, if_neg n0, if_pos cs]
    rw [hS, cs]
    exact Ev.all fun k => by rw [if_pos rfl]; rfl
  refine Ev.congr (fun k => by rw [if_neg cs]) ?_
  refine Ev.b _ (is3 a ha) ?_
  by_cases n3 : cls a = 3
  · have hS : sSqrt a mode = (a, 0) := by unfold sSqrt; rw [if_neg c4, if_neg n0, if_neg cs, if_pos n3]
    rw [hS, decide_eq_true n3]
    exact Ev.all fun k => by rw [if_pos rfl]; rfl
  rw [decide_eq_false n3]
  have J := rRoot_j0 a mode c4 n0 cs n3
  have ka : cls a ≤ 2 := by have := cls_le a; omega
  obtain ⟨b1, b2, b3, b4, b5, b6, b7, b8⟩ := root_bd a ka n0
  have ea := spe_bd a
  obtain ⟨A, hA, A1, A2⟩ := rbits_ev (spm a) (by have := spm_lt a; omega)
  have L := rLen_ev A (by omega)
  rw [A1] at L
  have w1 : wrap64 (126 - (bl (spm a) : Int)) = 126 - (bl (spm a) : Int) := w64 (by omega) (by omega)
  have w2 : wrap64 (spe a - (126 - (bl (spm a) : Int))) = spe a - (126 - (bl (spm a) : Int)) := w64 (by omega) (by omega)
  have w3 : wrap64 (126 - (bl (spm a) : Int) + 1) = 127 - (bl (spm a) : Int) := by rw [w64 (by omega) (by omega)]; omega
  refine Ev.congr (fun k => by rw [if_neg (by simp)]) ?_
  refine Ev.b _ (ref_Split_ev a ha) ?_
  dsimp only
  refine Ev.b _ hA ?_
  refine Ev.b _ L ?_
  rw [w1, w2, w3]
  by_cases hp : (spe a - (126 - (bl (spm a) : Int))) % 2 = 0
  · have hk : (126 - (bl (spm a) : Int)) = (rk a : Int) := by unfold rk; rw [if_pos hp]; omega
    have ht : Int.tmod (spe a - (126 - (bl (spm a) : Int))) 2 = 0 := by
      rw [hk]; exact Int.tmod_eq_zero_of_dvd (Int.dvd_of_emod_eq_zero b7)
    rw [hk] at ht ⊢
    exact Ev.congr (fun k => by rw [if_pos ht]) J
  · have hk : (127 - (bl (spm a) : Int)) = (rk a : Int) := by unfold rk; rw [if_neg hp]; omega
    have ht : ¬ Int.tmod (spe a - (126 - (bl (spm a) : Int))) 2 = 0 := by
      intro h; exact hp (Int.emod_eq_zero_of_dvd (Int.dvd_of_tmod_eq_zero h))
    rw [hk]
    exact Ev.congr (fun k => by rw [if_neg ht]) J
end Go.Proofs.Ytmadjhmecfbcmaa.M
end
section
namespace Go.Proofs.Ytmadjhmecfbcmaa.M
open Go.RowKit Go.Proofs.YtmadjhmecfbcmaaW.PrintWords Go.Proofs.YtmadjhmecfbcmaaW.PrintLast Go.Proofs.YtmadjhmecfbcmaaW.PrintMore Go.Proofs.Ytmadjhmecfbcmaa.F
theorem c1 : sAdd 4607182418800017408 4368491638549381120 0 = (4607182418800017408, 1) := by decide +kernel
theorem c2 : (sAdd 4607182418800017408 4368491638549381120 1).1 = 4607182418800017409 := by decide +kernel
theorem c3 : (sAdd 4607182418800017408 (ng 4607182418800017408) 0).1 = 0 := by decide +kernel
theorem c4' : (sAdd 4607182418800017408 (ng 4607182418800017408) 2).1 = 9223372036854775808 := by decide +kernel
theorem c5 : sDiv 13830554455654793216 0 0 = (18442240474082181120, 8) := by decide +kernel
theorem c6 : (sSqrt 4611686018427387904 0).1 = 4609047870845172685 := by decide +kernel
theorem c7 : sMul 0 9218868437227405312 0 = (QN, 16) := by decide +kernel
theorem c8 : sSum 0 0 [4607182418800017408, 4607182418800017408, 4607182418800017408] = 4613937818241073152 := by decide +kernel
theorem wf_u64 {x : Int} (h : (Lit.int .u64 x).wf = true) : ∃ a : Nat, x = a ∧ U a := by
  have h2 := (Bool.and_eq_true _ _).mp h
  have h0 : (0 : Int) ≤ x := of_decide_eq_true h2.1
  have h1 : x ≤ 18446744073709551615 := of_decide_eq_true h2.2
  exact ⟨x.toNat, by omega, by unfold U; omega⟩
theorem wf_u8 {x : Int} (h : (Lit.int .u8 x).wf = true) : ∃ a : Nat, x = a ∧ a < 256 := by
  have h2 := (Bool.and_eq_true _ _).mp h
  have h0 : (0 : Int) ≤ x := of_decide_eq_true h2.1
  have h1 : x ≤ 255 := of_decide_eq_true h2.2
  exact ⟨x.toNat, by omega, by omega⟩
theorem Ev.ex {α : Type} {g : Nat → Option α} {r : α} (h : Ev g r) : ∃ k, g k = some r := by
  obtain ⟨k, hk⟩ := h; exact ⟨k, hk k (Nat.le_refl _)⟩
instance (a : Nat) : Decidable (U a) := by unfold U; infer_instance
theorem w1 : Ev (fun k => soft_Add.f k 4607182418800017408 4368491638549381120 0) (4607182418800017408, 1) := by
  have := Add_ev 4607182418800017408 4368491638549381120 0 (by decide) (by decide)
  rw [c1] at this; exact this
theorem w2 : ∃ y, Ev (fun k => soft_Add.f k 4607182418800017408 4368491638549381120 1) (4607182418800017409, y) := by
  have := Add_ev 4607182418800017408 4368491638549381120 1 (by decide) (by decide)
  unfold pr at this
  rw [c2] at this; exact ⟨_, this⟩
theorem w3 : ∃ y, Ev (fun k => soft_Sub.f k 4607182418800017408 4607182418800017408 0) (0, y) := by
  have := Sub_ev 4607182418800017408 4607182418800017408 0 (by decide) (by decide)
  unfold pr at this
  rw [c3] at this; exact ⟨_, this⟩
theorem w4 : ∃ y, Ev (fun k => soft_Sub.f k 4607182418800017408 4607182418800017408 2) (9223372036854775808, y) := by
  have := Sub_ev 4607182418800017408 4607182418800017408 2 (by decide) (by decide)
  unfold pr at this
  rw [c4'] at this; exact ⟨_, this⟩
theorem w5 : Ev (fun k => soft_Div.f k 13830554455654793216 0 0) (18442240474082181120, 8) := by
  have := Div_ev 13830554455654793216 0 0 (by decide) (by decide)
  rw [c5] at this; exact this
theorem w6 : ∃ y, Ev (fun k => soft_Sqrt.f k 4611686018427387904 0) (4609047870845172685, y) := by
  have := Sqrt_ev 4611686018427387904 0 (by decide)
  unfold pr at this
  rw [c6] at this; exact ⟨_, this⟩
theorem w7 : Ev (fun k => soft_Mul.f k 0 9218868437227405312 0) (QN, 16) := by
  have := Mul_ev 0 9218868437227405312 0 (by decide) (by decide)
  rw [c7] at this; exact this
theorem w8 : Ev (fun k => soft_Sum.f k 0 [4607182418800017408, 4607182418800017408, 4607182418800017408]) 4613937818241073152 := by
  have := softSum_ev 0 [4607182418800017408, 4607182418800017408, 4607182418800017408] (by decide) (by intro x hx; simp at hx; subst hx; decide)
  rw [c8] at this; exact this
theorem w9 : Ev (fun k => pattern_Inf.f k false) 9218868437227405312 := Inf_ev false
theorem w10 : Ev (fun k => pattern_Inf.f k true) 18442240474082181120 := Inf_ev true
theorem works_ev : Ev (fun k => flyballlaw06_works.f k) true := by
  obtain ⟨y2, w2⟩ := w2
  obtain ⟨y3, w3⟩ := w3
  obtain ⟨y4, w4⟩ := w4
  obtain ⟨y6, w6⟩ := w6
  unfold flyballlaw06_works.f
  refine Ev.b _ w1 ?_
  refine Ev.b _ w2 ?_
  refine Ev.b _ w3 ?_
  refine Ev.b _ w4 ?_
  refine Ev.b _ w5 ?_
  refine Ev.b _ w6 ?_
  refine Ev.b _ w9 ?_
  refine Ev.b _ w7 ?_
  refine Ev.b _ w8 ?_
  dsimp only
  refine Ev.congr (fun k => by rw [if_pos rfl, if_pos rfl, if_pos rfl, if_pos rfl, if_pos rfl]) ?_
  refine Ev.b _ w10 ?_
  refine Ev.congr (fun k => by rw [if_pos rfl, if_pos rfl, if_pos rfl]) ?_
  refine Ev.b _ (Ev.const Quiet_ok) ?_
  exact Ev.congr (fun k => by rw [if_pos rfl, if_pos rfl, beq_self_eq_true]) (Ev.now _)
theorem SoftRoots : flyballlaw06_SoftRoots.Pure := by
  intro a0 a1 h0 h1
  obtain ⟨a, rfl, ha⟩ := wf_u64 h0
  obtain ⟨m, rfl, _⟩ := wf_u8 h1
  refine Ev.ex (r := true) ?_
  unfold flyballlaw06_SoftRoots.f
  refine Ev.b _ works_ev ?_
  refine Ev.congr (fun k => by rw [if_pos rfl]) ?_
  refine Ev.b _ (Sqrt_ev a m ha) ?_
  refine Ev.b _ (refSqrt_ev a m ha) ?_
  refine Ev.congr (fun k => by rw [if_pos rfl, beq_self_eq_true]) (Ev.now _)
end Go.Proofs.Ytmadjhmecfbcmaa.M
end
