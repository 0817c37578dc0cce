/- The walk of the law SoftRises and what it computes, part 5 of 5: no conditions. -/
import Derived.Test.YtmadjhmecfbcmaaASoftRises4
set_option linter.unusedVariables false
set_option linter.unusedSimpArgs false
section
namespace Go.Proofs.Ytmadjhmecfbcmaa.M
theorem upw_mono {X Y : Nat} {s t : Bool} (d : Nat) (h : X < Y ∨ X = Y ∧ (s = true → t = true)) (hf' : fk X = fk Y) (hu : upw X s d = true) : upw Y t d = true := by
  have hXY : X ≤ Y := by omega
  by_cases d1 : d = 1
  · subst d1
    have hu : (hf X || rs X s) = true := hu
    show (hf Y || rs Y t) = true
    rw [← Bool.not_eq_false] at hu ⊢
    rw [exact_iff] at hu ⊢
    rintro ⟨h1, h2⟩
    have h3 := fk_le X
    rw [hf', ← h1] at h3
    apply hu
    have e : X = Y := by omega
    rw [hf', e]
    refine ⟨h1, ?_⟩
    rcases h with h | ⟨_, h⟩
    · omega
    · cases s
      · rfl
      · rw [h rfl] at h2; exact h2
  · by_cases d2 : d = 2
    · subst d2; unfold upw at hu; rw [if_neg (by decide), if_pos rfl] at hu; cases hu
    · unfold upw at hu ⊢
      rw [if_neg d1, if_neg d2, Bool.and_eq_true, Bool.or_eq_true, beq_iff_eq, ← odd_fk] at hu
      rw [if_neg d1, if_neg d2, Bool.and_eq_true, Bool.or_eq_true, beq_iff_eq, ← odd_fk, ← hf']
      obtain ⟨u1, u2⟩ := hu
      have a1 : ¬ X < magk (fk X) + magk (fk X + 1) := by rw [mid_lt, u1]; decide
      have b1 : hf Y = true := by
        have : ¬ Y < magk (fk Y) + magk (fk Y + 1) := by rw [← hf']; omega
        rw [mid_lt] at this; cases hh : hf Y
        · exact absurd hh this
        · rfl
      refine ⟨b1, ?_⟩
      rcases u2 with u2 | u2
      · by_cases c : Y ≤ magk (fk Y) + magk (fk Y + 1)
        · left
          rw [← hf'] at c
          have e : X = Y := by omega
          have c2 := c
          rw [hf', mid_le, b1] at c2
          have c3 : Y % 2 ^ (sh Y - 1) = 0 := by rcases c2 with c2 | c2; cases c2; exact c2
          unfold rs at u2 ⊢
          rw [e, c3] at u2
          rcases h with h | ⟨_, h⟩
          · omega
          · cases s
            · simp at u2
            · rw [h rfl]; rfl
        · left
          unfold rs
          have c3 : Y % 2 ^ (sh Y - 1) ≠ 0 := fun h => c ((mid_le Y).2 (.inr h))
          rw [bne_iff_ne.2 c3, Bool.or_true]
      · exact .inr u2
theorem kk_mono {X Y : Nat} {s t : Bool} (d : Nat) (h : X < Y ∨ X = Y ∧ (s = true → t = true)) : kk X s d ≤ kk Y t d := by
  have hm : fk X ≤ fk Y := fk_mono (by omega)
  unfold kk
  by_cases e : fk X = fk Y
  · rw [e]
    cases hu : upw X s d
    · rw [if_neg (by decide)]; omega
    · rw [upw_mono d h e hu]; exact Nat.le_refl _
  · split <;> split <;> omega
theorem kk_dirs (X : Nat) (s : Bool) : kk X s 2 ≤ kk X s 0 ∧ kk X s 0 ≤ kk X s 1 := by
  unfold kk
  have h2 : upw X s 2 = false := rfl
  rw [h2]
  have h01 : upw X s 0 = true → upw X s 1 = true := by
    intro h
    have h : (hf X && (rs X s || X / 2 ^ sh X % 2 == 1)) = true := h
    show (hf X || rs X s) = true
    rw [Bool.and_eq_true] at h; rw [h.1]; rfl
  generalize upw X s 0 = b0 at h01 ⊢
  generalize upw X s 1 = b1 at h01 ⊢
  cases b0 <;> cases b1 <;> simp at h01 ⊢
def lim (d : Nat) : Nat := if d = 2 then 9218868437227405311 else 9218868437227405312
def cap (X : Nat) (s : Bool) (d : Nat) : Nat := if 9218868437227405312 ≤ kk X s d then lim d else kk X s d
theorem cap_over' {X : Nat} {s : Bool} {d : Nat} (h : 9218868437227405312 ≤ kk X s d) : cap X s d = lim d := by unfold cap; rw [if_pos h]
theorem cap_in {X : Nat} {s : Bool} {d : Nat} (h : ¬ 9218868437227405312 ≤ kk X s d) : cap X s d = kk X s d := by unfold cap; rw [if_neg h]
theorem cap_over {X : Nat} {s : Bool} {d : Nat} (h : 9218868437227405312 ≤ kk X s d) : cap X s d = if d = 2 then 9218868437227405311 else 9218868437227405312 := by rw [cap_over' h]; unfold lim; rfl
theorem RND_cap (neg : Bool) (X : Nat) (s : Bool) (m : Nat) : ∃ f, RND neg X s m = (sg neg + cap X s (dir neg m), f) := by
  by_cases c : 9218868437227405312 ≤ kk X s (dir neg m)
  · exact ⟨_, by rw [RND_over c, cap_over c]⟩
  · exact ⟨_, by rw [RND_in c, cap_in c]⟩
theorem cap_of {X Y : Nat} {s t : Bool} {d e : Nat} (h : kk X s d ≤ kk Y t e) (hd : e = 2 → d = 2) : cap X s d ≤ cap Y t e := by
  by_cases c1 : 9218868437227405312 ≤ kk X s d
  · rw [cap_over c1, cap_over (Nat.le_trans c1 h)]
    by_cases c2 : e = 2
    · rw [if_pos c2, if_pos (hd c2)]; exact Nat.le_refl _
    · rw [if_neg c2]; split <;> decide
  · rw [cap_in c1]
    by_cases c2 : 9218868437227405312 ≤ kk Y t e
    · rw [cap_over c2]; split <;> omega
    · rw [cap_in c2]; exact h
theorem cap_le (X : Nat) (s : Bool) (d : Nat) : cap X s d ≤ 9218868437227405312 := by
  by_cases c1 : 9218868437227405312 ≤ kk X s d
  · rw [cap_over c1]; split <;> decide
  · rw [cap_in c1]; omega
theorem cap_mono {X Y : Nat} {s t : Bool} (d : Nat) (h : X < Y ∨ X = Y ∧ (s = true → t = true)) : cap X s d ≤ cap Y t d := cap_of (kk_mono d h) id
theorem cap_dirs (X : Nat) (s : Bool) : cap X s 2 ≤ cap X s 0 ∧ cap X s 0 ≤ cap X s 1 := ⟨cap_of (kk_dirs X s).1 (by decide), cap_of (kk_dirs X s).2 (by decide)⟩
def ord (a : Nat) : Int := if sgn a then -(key a : Int) else key a
theorem sgn_sg (neg : Bool) (k : Nat) (h : k < 9223372036854775808) : sgn (sg neg + k) = neg := by
  unfold sgn sg; cases neg
  · rw [if_neg (by decide)]; rw [show (0 + k) / 9223372036854775808 = 0 by omega]; rfl
  · rw [if_pos rfl, show (9223372036854775808 + k) / 9223372036854775808 = 1 by omega]; rfl
theorem key_sg (neg : Bool) (k : Nat) (h : k < 9223372036854775808) : key (sg neg + k) = k := by
  unfold key sg; cases neg
  · rw [if_neg (by decide)]; omega
  · rw [if_pos rfl]; omega
theorem ord_sg (neg : Bool) (k : Nat) (h : k < 9223372036854775808) : ord (sg neg + k) = if neg then -(k : Int) else k := by
  unfold ord; rw [sgn_sg neg k h, key_sg neg k h]
theorem cls_sg (neg : Bool) (k : Nat) (h : k ≤ 9218868437227405312) : cls (sg neg + k) ≤ 3 := by
  have := (key_cls (sg neg + k)).2.2.1
  rw [key_sg neg k (by omega)] at this
  have h2 := cls_le (sg neg + k)
  omega
theorem RND_fst (neg : Bool) (X : Nat) (s : Bool) (m : Nat) : (RND neg X s m).1 = sg neg + cap X s (dir neg m) := by
  obtain ⟨f, h⟩ := RND_cap neg X s m
  rw [h]
theorem ord_RND (neg : Bool) (X : Nat) (s : Bool) (m : Nat) : ord (RND neg X s m).1 = if neg then -(cap X s (dir neg m) : Int) else cap X s (dir neg m) := by
  have := cap_le X s (dir neg m)
  rw [RND_fst, ord_sg _ _ (by omega)]
theorem cls_RND (neg : Bool) (X : Nat) (s : Bool) (m : Nat) : cls (RND neg X s m).1 ≤ 3 := by
  rw [RND_fst]; exact cls_sg _ _ (cap_le _ _ _)
theorem U_RND (neg : Bool) (X : Nat) (s : Bool) (m : Nat) : U (RND neg X s m).1 := by
  have := cap_le X s (dir neg m)
  rw [RND_fst]; unfold U sg; split <;> omega
theorem ord_neg_le (a : Nat) (h : sgn a = true) : ord a ≤ 0 := by unfold ord; rw [h, if_pos rfl]; omega
theorem ord_pos_ge (a : Nat) (h : sgn a = false) : 0 ≤ ord a := by unfold ord; rw [h, if_neg (by decide)]; omega
theorem ord_bd (a : Nat) (h : cls a ≠ 4) : -9218868437227405312 ≤ ord a ∧ ord a ≤ 9218868437227405312 := by
  have h1 := (key_cls a).2.2.1
  have : ¬ 9218868437227405312 < key a := fun h2 => h (h1.2 h2)
  unfold ord; split <;> omega
theorem ord_inf (a : Nat) (h : cls a = 3) : ord a = if sgn a then -9218868437227405312 else 9218868437227405312 := by
  have h1 := (key_cls a).2.1.1 h
  unfold ord; rw [h1]; rfl
theorem ord_zero (a : Nat) : ord a = 0 ↔ cls a = 0 := by
  rw [(key_cls a).2.2.2]; unfold ord; split <;> omega
theorem ord_fin (a : Nat) (h : cls a ≤ 2) : -9218868437227405312 < ord a ∧ ord a < 9218868437227405312 := by
  have := (key_cls a).1.1 h
  unfold ord; split <;> omega
theorem magk_zero : magk 0 = 0 := by unfold magk; simp
theorem sv_mono {a b : Nat} (h : ord a ≤ ord b) : sv a ≤ sv b := by
  have ha := magk_le_iff (a := key a) (b := key b)
  have hb := magk_le_iff (a := key b) (b := key a)
  have ha0 := magk_le_iff (a := key a) (b := 0)
  have hb0 := magk_le_iff (a := key b) (b := 0)
  rw [magk_zero] at ha0
  rw [magk_zero] at hb0
  unfold ord at h; unfold sv mg
  generalize sgn a = sa at h ⊢
  generalize sgn b = sb at h ⊢
  cases sa <;> cases sb <;> simp only [Bool.false_eq_true, if_false, if_true] at h ⊢ <;> omega
def ro (neg : Bool) (X : Nat) (s : Bool) (m : Nat) : Int := if neg then -(cap X s (dir neg m) : Int) else cap X s (dir neg m)
theorem ro_mono {n1 n2 : Bool} {X Y : Nat} {s t : Bool} (m : Nat)
    (h : n1 = true ∧ n2 = false ∨ (n1 = false ∧ n2 = false ∧ (X < Y ∨ X = Y ∧ (s = true → t = true))) ∨ (n1 = true ∧ n2 = true ∧ (Y < X ∨ Y = X ∧ (t = true → s = true)))) :
    ro n1 X s m ≤ ro n2 Y t m := by
  unfold ro
  rcases h with ⟨rfl, rfl⟩ | ⟨rfl, rfl, h⟩ | ⟨rfl, rfl, h⟩
  · rw [if_pos rfl, if_neg (by decide)]; omega
  · rw [if_neg (by decide), if_neg (by decide)]
    have := cap_mono (dir false m) h; omega
  · rw [if_pos rfl, if_pos rfl]
    have := cap_mono (dir true m) h; omega
def rq (v : Int) (D m : Nat) : Int := ro (decide (v < 0)) (v.natAbs / D) (decide (v.natAbs % D ≠ 0)) m
theorem rq_mono {v w : Int} (D m : Nat) (h : v ≤ w) : rq v D m ≤ rq w D m := by
  have key : ∀ {a b : Nat}, a ≤ b → a / D < b / D ∨ a / D = b / D ∧ (decide (a % D ≠ 0) = true → decide (b % D ≠ 0) = true) := by
    intro a b hab
    have h1 : a / D ≤ b / D := Nat.div_le_div_right hab
    by_cases e : a / D = b / D
    · right
      refine ⟨e, ?_⟩
      rw [decide_eq_true_iff, decide_eq_true_iff]
      have h2 := Nat.div_add_mod a D
      have h3 := Nat.div_add_mod b D
      rw [e] at h2
      omega
    · left; omega
  apply ro_mono
  by_cases c1 : v < 0
  · by_cases c2 : w < 0
    · right; right
      refine ⟨decide_eq_true c1, decide_eq_true c2, key (by omega)⟩
    · left; exact ⟨decide_eq_true c1, decide_eq_false c2⟩
  · right; left
    refine ⟨decide_eq_false c1, decide_eq_false (by omega), key (by omega)⟩
theorem cap_zero (d : Nat) : cap 0 false d = 0 := by
  have h : sh 0 = 1 := rfl
  have hw : wd 0 = 0 := by unfold wd; simp
  have hfk : fk 0 = 0 := by unfold fk; rw [h, hw]
  have hh : hf 0 = false := by unfold hf; simp
  have hr : rs 0 false = false := by unfold rs; simp
  have hk : kk 0 false d = 0 := by unfold kk upw; rw [hfk, hh, hr]; simp
  rw [cap_in (by rw [hk]; decide), hk]
theorem rq_zero (D m : Nat) : rq 0 D m = 0 := by
  unfold rq ro
  simp [cap_zero]
theorem ite0 (p : Prop) [Decidable p] : (if p then -((0 : Nat) : Int) else ((0 : Nat) : Int)) = 0 := by split <;> rfl
theorem ord_sAdd (a b m : Nat) (ca : cls a ≤ 2) (cb : cls b ≤ 2) : ord (sAdd a b m).1 = rq (2 * (sv a + sv b)) 1 m := by
  rw [sAdd_fin m ca cb]
  split
  · rename_i h
    rw [h, show (2 * 0 : Int) = 0 from rfl, rq_zero]
    have := ord_sg (if sgn a = sgn b then sgn a else decide (m = 2)) 0 (by decide)
    rw [Nat.add_zero] at this
    rw [this]; exact ite0 _
  · rename_i h
    rw [ord_RND]
    unfold rq
    have e1 : (2 * (sv a + sv b)).natAbs = 2 * (sv a + sv b).natAbs := by omega
    have e2 : decide (2 * (sv a + sv b) < 0) = decide (sv a + sv b < 0) := by rw [decide_eq_decide]; omega
    rw [e1, e2, Nat.div_one, Nat.mod_one]
    rfl
theorem FX_mul (a b : Nat) (ca : cls a ≤ 2) (cb : cls b ≤ 2) : FX (spm a * spm b) 1 (spe a + spe b) = mg a * mg b / 2 ^ 1073 ∧ FS (spm a * spm b) 1 (spe a + spe b) false = decide (mg a * mg b % 2 ^ 1073 ≠ 0) := by
  have ha := spe_bd a
  have hb := spe_bd b
  obtain ⟨T, hT⟩ : ∃ T : Nat, T = (spe a + 1074).toNat + (spe b + 1074).toNat := ⟨_, rfl⟩
  have e1 : mg a * mg b = spm a * spm b * 2 ^ T := by
    rw [mg_split a ca, mg_split b cb, hT, Nat.pow_add]; grind
  have S := FXS_scale (spm a * spm b) 1 T (spe a + spe b) false
  have e2 : spe a + spe b - (T : Int) = -2148 := by omega
  rw [e2, ← e1] at S
  rw [← S.1, ← S.2, FX_one, FS_one]
  have e3 : ((-2148 : Int) + 1075).toNat = 0 := by decide
  have e4 : (-((-2148 : Int) + 1075)).toNat = 1073 := by decide
  rw [e3, e4, Nat.pow_zero, Nat.mul_one]
  exact ⟨rfl, rfl⟩
theorem sv_mul (a b : Nat) : (sv a * sv b).natAbs = mg a * mg b := by
  rw [Int.natAbs_mul]; unfold sv
  have e : ∀ (x : Bool) (y : Nat), (if x then -(y : Int) else y).natAbs = y := by intro x y; split <;> omega
  rw [e, e]
theorem sMul_fin {a b : Nat} (m : Nat) (ca : cls a ≤ 2) (cb : cls b ≤ 2) :
    sMul a b m = if mg a * mg b = 0 then (sg (sgn a != sgn b), 0) else RND (sgn a != sgn b) (mg a * mg b / 2 ^ 1073) (decide (mg a * mg b % 2 ^ 1073 ≠ 0)) m := by
  unfold sMul
  have c1 : ¬ (cls a = 4 ∨ cls b = 4) := by omega
  have c2 : ¬ (cls a = 3 ∧ cls b = 0 ∨ cls a = 0 ∧ cls b = 3) := by omega
  have c3 : ¬ (cls a = 3 ∨ cls b = 3) := by omega
  have F := FX_mul a b ca cb
  have z : spm a * spm b = 0 ↔ mg a * mg b = 0 := by
    rw [Nat.mul_eq_zero, Nat.mul_eq_zero, spm_zero a ca, spm_zero b cb, mg_zero, mg_zero]
  rw [if_neg c1, if_neg c2, if_neg c3, F.1, F.2]
  by_cases c : mg a * mg b = 0
  · rw [if_pos c, if_pos (z.2 c)]
  · rw [if_neg c, if_neg (fun h => c (z.1 h))]
theorem ord_sMul (a b m : Nat) (ca : cls a ≤ 2) (cb : cls b ≤ 2) : ord (sMul a b m).1 = rq (sv a * sv b) (2 ^ 1073) m := by
  rw [sMul_fin m ca cb]
  have hn := sv_mul a b
  split
  · rename_i h
    have e : sv a * sv b = 0 := by omega
    rw [e, rq_zero]
    have := ord_sg (sgn a != sgn b) 0 (by decide)
    rw [Nat.add_zero] at this
    rw [this]; exact ite0 _
  · rename_i h
    rw [ord_RND]
    unfold rq
    rw [hn]
    have e2 : decide (sv a * sv b < 0) = (sgn a != sgn b) := by
      have ha : 0 < mg a := Nat.pos_of_ne_zero (fun h2 => h (by rw [h2, Nat.zero_mul]))
      have hb : 0 < mg b := Nat.pos_of_ne_zero (fun h2 => h (by rw [h2, Nat.mul_zero]))
      have hp : 0 < (mg a : Int) * (mg b : Int) := Int.mul_pos (by omega) (by omega)
      unfold sv
      generalize sgn a = sa
      generalize sgn b = sb
      cases sa <;> cases sb <;> simp only [Bool.false_eq_true, if_false, if_true, Int.neg_mul, Int.mul_neg, Int.neg_neg]
      · rw [decide_eq_false (by omega)]; rfl
      · rw [decide_eq_true (by omega)]; rfl
      · rw [decide_eq_true (by omega)]; rfl
      · rw [decide_eq_false (by omega)]; rfl
    rw [e2]; rfl
end Go.Proofs.Ytmadjhmecfbcmaa.M
end
section
namespace Go.Proofs.Ytmadjhmecfbcmaa.M
open Go.RowKit Go.Proofs.YtmadjhmecfbcmaaW.PrintWords Go.Proofs.YtmadjhmecfbcmaaW.PrintLast Go.Proofs.YtmadjhmecfbcmaaW.PrintMore Go.Proofs.Ytmadjhmecfbcmaa.F
def cmpI (a b : Nat) : Int × Bool := if cls a = 4 ∨ cls b = 4 then (0, false) else (if ord a < ord b then -1 else if ord b < ord a then 1 else 0, true)
def less (a b : Nat) : Bool := decide (cls a ≠ 4 ∧ cls b ≠ 4 ∧ ord a < ord b)
theorem pkey_ok (a : Nat) (h : U a) : pattern_key.f (a : Int) = some (ord a) := by
  have hk := key_lt a
  unfold pattern_key.f
  rw [andNot_sign a h]
  have e0 : ((a % 9223372036854775808 : Nat) : Int) = (key a : Int) := rfl
  rw [e0, w64 (n := (key a : Int)) (by omega) (by omega), w64 (by omega) (by omega)]
  have es : ((a : Int) / 9223372036854775808 = 1) ↔ sgn a = true := by rw [← sgn_cast, beq_iff_eq]
  unfold ord
  by_cases c : sgn a = true
  · rw [if_pos (es.2 c), if_pos c]
  · rw [if_neg (fun h2 => c (es.1 h2)), if_neg c]
theorem Cmp_ev (a b : Nat) (ha : U a) (hb : U b) : Ev (fun k => pattern_Cmp.f k (a : Int) (b : Int)) (cmpI a b) := by
  have J1 : Ev (fun k => pattern_Cmp.j0 k (a : Int) (b : Int) true) (0, false) := by
    refine Ev.next ?_
    simp only [pattern_Cmp.j0]
    exact Ev.congr (fun k => by rw [if_pos trivial]) (Ev.now _)
  unfold pattern_Cmp.f
  refine Ev.b _ (nan_ev a ha) ?_
  by_cases c1 : cls a = 4
  · have e : cmpI a b = (0, false) := by unfold cmpI; rw [if_pos (.inl c1)]
    rw [e]
    exact Ev.congr (fun k => by rw [decide_eq_true c1, if_pos rfl]) J1
  · refine Ev.congr (fun k => by rw [decide_eq_false c1, if_neg (by decide)]) ?_
    refine Ev.b _ (nan_ev b hb) ?_
    by_cases c2 : cls b = 4
    · have e : cmpI a b = (0, false) := by unfold cmpI; rw [if_pos (.inr c2)]
      rw [e]
      exact Ev.congr (fun k => by rw [decide_eq_true c2]) J1
    · refine Ev.congr (fun k => by rw [decide_eq_false c2]) ?_
      refine Ev.next ?_
      simp only [pattern_Cmp.j0]
      refine Ev.congr (fun k => by rw [if_neg (by decide)]) ?_
      refine Ev.b _ (Ev.const (pkey_ok a ha)) (Ev.b _ (Ev.const (pkey_ok b hb)) (Ev.const ?_))
      unfold cmpI
      rw [if_neg (show ¬ (cls a = 4 ∨ cls b = 4) by omega)]
      by_cases c3 : ord a < ord b
      · rw [if_pos c3, if_pos c3]
      · rw [if_neg c3, if_neg c3]
        by_cases c4 : ord a > ord b
        · rw [if_pos c4, if_pos c4]
        · rw [if_neg c4, if_neg c4]
theorem Less_ev (a b : Nat) (ha : U a) (hb : U b) : Ev (fun k => pattern_Less.f k (a : Int) (b : Int)) (less a b) := by
  unfold pattern_Less.f
  refine Ev.b _ (Cmp_ev a b ha hb) (Ev.const ?_)
  unfold cmpI less
  by_cases c : cls a = 4 ∨ cls b = 4
  · rw [if_pos c, if_neg (by decide)]
    congr 1; symm; rw [decide_eq_false_iff_not]; omega
  · rw [if_neg c, if_pos rfl]
    congr 1; rw [decide_eq_decide]; dsimp only
    by_cases c3 : ord a < ord b
    · rw [if_pos c3]
      exact ⟨fun _ => ⟨fun h => c (.inl h), fun h => c (.inr h), c3⟩, fun _ => by decide⟩
    · rw [if_neg c3]
      refine ⟨fun h => ?_, fun h => absurd h.2.2 c3⟩
      split at h
      · exact absurd h (by decide)
      · exact absurd h (by decide)
def ab (a : Nat) : Nat := if cls a = 4 then a else key a
theorem ab_U (a : Nat) (h : U a) : U (ab a) := by unfold ab; split; exact h; have := key_lt a; unfold U; omega
theorem Abs_ev (a : Nat) (h : U a) : Ev (fun k => pattern_Abs.f k (a : Int)) (ab a : Int) := by
  unfold pattern_Abs.f
  refine Ev.b _ (nan_ev a h) (Ev.const ?_)
  unfold ab
  by_cases c : cls a = 4
  · rw [decide_eq_true c, if_pos rfl, if_pos c]
  · rw [decide_eq_false c, if_neg (by decide), if_neg c, andNot_sign a h]; rfl
end Go.Proofs.Ytmadjhmecfbcmaa.M
end
section
namespace Go.Proofs.Ytmadjhmecfbcmaa.M
open Go.RowKit Go.Proofs.YtmadjhmecfbcmaaW.PrintWords Go.Proofs.YtmadjhmecfbcmaaW.PrintLast Go.Proofs.YtmadjhmecfbcmaaW.PrintMore Go.Proofs.Ytmadjhmecfbcmaa.F
theorem Quiet_ok : pattern_Quiet.f = some (QN : Int) := rfl
theorem invalid_ok : soft_invalid.f = some ((QN : Int), 16) := rfl
theorem wMul_ok (x y : Nat) (hx : x < 18446744073709551616) (hy : y < 18446744073709551616) : wide_Mul.f (x : Int) (y : Int) = some ((tw (x * y)).1, (tw (x * y)).2) := by
  unfold wide_Mul.f bits_Mul64.f
  rw [if_pos (by omega)]
  unfold tw
  simp only [Option.bind_some]
  rw [← Int.natCast_mul]
  congr 1
theorem Mul_ev (a b mode : Nat) (ha : U a) (hb : U b) : Ev (fun k => soft_Mul.f k (a : Int) (b : Int) (mode : Int)) (pr (sMul a b mode)) := by
  unfold soft_Mul.f
  refine Ev.b _ (of_ev a ha) (Ev.b _ (of_ev b hb) ?_)
  dsimp only
  have E := fun c => either_ok (a : Int) (cls a) (sgn a) (spm a : Int) (spe a) (b : Int) (cls b) (sgn b) (spm b : Int) (spe b) c
  have E4 := E 4
  have E3 := E 3
  have E0 := E 0
  rw [show ((4 : Nat) : Int) = 4 from rfl] at E4
  rw [show ((3 : Nat) : Int) = 3 from rfl] at E3
  rw [show ((0 : Nat) : Int) = 0 from rfl] at E0
  refine Ev.b _ (Ev.const E4) ?_
  by_cases c4 : cls a = 4 ∨ cls b = 4
  · have hS : sMul a b mode = (QN, 0) := by unfold sMul; rw [if_pos c4]
    rw [hS, decide_eq_true c4]
    exact Ev.congr (fun k => by rw [if_pos rfl]) (Ev.b (f := fun _ x => some (x, (0 : Int))) _ (Ev.const Quiet_ok) (Ev.now _))
  rw [decide_eq_false c4]
  have J : Ev (fun k => soft_Mul.j0 k (mode : Int) (sgn a != sgn b) (if cls a = 3 ∨ cls b = 3 then decide (cls a = 0 ∨ cls b = 0) else false) (a : Int) (cls a : Int) (sgn a) (spm a : Int) (spe a) (b : Int) (cls b : Int) (sgn b) (spm b : Int) (spe b)) (pr (sMul a b mode)) := by
    refine Ev.next ?_
    simp only [soft_Mul.j0]
    by_cases c3 : cls a = 3 ∨ cls b = 3
    · rw [if_pos c3]
      by_cases c0 : cls a = 0 ∨ cls b = 0
      · have hS : sMul a b mode = (QN, 16) := by unfold sMul; rw [if_neg c4, if_pos (show cls a = 3 ∧ cls b = 0 ∨ cls a = 0 ∧ cls b = 3 by omega)]
        rw [hS, decide_eq_true c0]
        exact Ev.congr (fun k => by rw [if_pos rfl]) (Ev.b (f := fun _ x => some (x.1, x.2)) _ (Ev.const invalid_ok) (Ev.now _))
      · have hS : sMul a b mode = (sg (sgn a != sgn b) + INF, 0) := by unfold sMul; rw [if_neg c4, if_neg (show ¬ (cls a = 3 ∧ cls b = 0 ∨ cls a = 0 ∧ cls b = 3) by omega), if_pos c3]
        rw [hS, decide_eq_false c0]
        refine Ev.congr (fun k => by rw [if_neg (by simp)]) (Ev.b _ (Ev.const E3) ?_)
        rw [decide_eq_true c3]
        exact Ev.congr (fun k => by rw [if_pos rfl]) (Ev.b (f := fun _ x => some (x, (0 : Int))) _ (Inf_ev _) (Ev.now _))
    · have c0 : ¬ (cls a = 3 ∧ cls b = 0 ∨ cls a = 0 ∧ cls b = 3) := by omega
      have la := spm_lt a
      have lb := spm_lt b
      have ea := spe_bd a
      have eb := spe_bd b
      have hM : spm a * spm b < 340282366920938463463374607431768211456 := by
        have h1 : spm a * spm b ≤ 9007199254740992 * spm b := Nat.mul_le_mul_right _ (by omega)
        have h2 : 9007199254740992 * spm b ≤ 9007199254740992 * 9007199254740992 := Nat.mul_le_mul_left _ (by omega)
        omega
      have R := Round_ev (sgn a != sgn b) (spm a * spm b) (spe a + spe b) false mode hM
      rw [cl_id (by omega) (by omega), Bool.false_and] at R
      have hS : (if spm a * spm b = 0 then ((sg (sgn a != sgn b) : Int), (0 : Int)) else pr (RND (sgn a != sgn b) (FX (spm a * spm b) 1 (spe a + spe b)) (FS (spm a * spm b) 1 (spe a + spe b) false) mode)) = pr (sMul a b mode) := by
        unfold sMul; rw [if_neg c4, if_neg c0, if_neg c3]
        by_cases z : spm a * spm b = 0
        · rw [if_pos z, if_pos z]; rfl
        · rw [if_neg z, if_neg z]
      rw [hS] at R
      have w1 : wrap64 (spe a + spe b) = spe a + spe b := w64 (by omega) (by omega)
      rw [if_neg c3]
      refine Ev.congr (fun k => by rw [if_neg (by simp)]) (Ev.b _ (Ev.const E3) ?_)
      rw [decide_eq_false c3]
      refine Ev.congr (fun k => by rw [if_neg (by simp)]) (Ev.b _ (Ev.const (wMul_ok _ _ (by omega) (by omega))) ?_)
      dsimp only
      rw [w1]
      exact Ev.b (f := fun _ x => some (x.1, x.2)) _ R (Ev.now _)
  refine Ev.congr (fun k => by rw [if_neg (by simp)]) (Ev.b _ (Ev.const E3) ?_)
  by_cases c3 : cls a = 3 ∨ cls b = 3
  · rw [if_pos c3] at J
    rw [decide_eq_true c3]
    refine Ev.congr (fun k => by rw [if_pos rfl]) (Ev.b _ (Ev.const E0) ?_)
    exact J
  · rw [if_neg c3] at J
    rw [decide_eq_false c3]
    exact Ev.congr (fun k => by rw [if_neg (by simp)]) J
theorem Div64_ok (x y z : Nat) (h1 : x < z) (h2 : z < 18446744073709551616) (h3 : y < 18446744073709551616) :
    bits_Div64.f (x : Int) (y : Int) (z : Int) = some ((((x * 18446744073709551616 + y) / z : Nat) : Int), (((x * 18446744073709551616 + y) % z : Nat) : Int)) := by
  unfold bits_Div64.f
  rw [if_pos (by omega), Int.natCast_ediv, Int.natCast_emod, Int.natCast_add, Int.natCast_mul]; rfl
theorem U128_Div (hi z : Nat) (h1 : hi < 18446744073709551616) (hz : 0 < z) (h2 : z < 18446744073709551616) :
    wide_U128_Div.f (hi : Int) 0 (z : Int) = some ((tw (hi * 18446744073709551616 / z)).1, (tw (hi * 18446744073709551616 / z)).2, ((hi * 18446744073709551616 % z : Nat) : Int)) := by
  have hm := Nat.mod_lt hi hz
  have hl : hi % z * 18446744073709551616 / z < 18446744073709551616 := by
    rw [Nat.div_lt_iff_lt_mul hz, Nat.mul_comm 18446744073709551616]
    exact Nat.mul_lt_mul_of_pos_right hm (by decide)
  have e : hi * 18446744073709551616 = hi % z * 18446744073709551616 + z * (hi / z * 18446744073709551616) := by
    have := Nat.div_add_mod hi z
    have h4 : hi * 18446744073709551616 = (z * (hi / z) + hi % z) * 18446744073709551616 := by rw [this]
    rw [h4, Nat.add_mul]; grind
  have eq : hi * 18446744073709551616 / z = hi / z * 18446744073709551616 + hi % z * 18446744073709551616 / z := by
    rw [e, Nat.add_mul_div_left _ _ hz, Nat.add_comm]
  have er : hi * 18446744073709551616 % z = hi % z * 18446744073709551616 % z := by
    rw [e, Nat.add_mul_mod_self_left]
  unfold wide_U128_Div.f
  have D1 := Div64_ok 0 hi z hz h2 h1
  rw [Nat.zero_mul, Nat.zero_add] at D1
  have D2 := Div64_ok (hi % z) 0 z hm h2 (by decide)
  rw [Nat.add_zero] at D2
  rw [if_neg (by omega), bind_of _ (show bits_Div64.f 0 (hi : Int) (z : Int) = _ from D1)]
  dsimp only
  rw [bind_of _ (show bits_Div64.f ((hi % z : Nat) : Int) 0 (z : Int) = _ from D2), eq, er, tw_join _ _ hl]
theorem dv1 {b x : Nat} (h1 : b < 9007199254740992) (h2 : 9223372036854775808 ≤ x) : 9007199254740992 * b ≤ x * 18446744073709551616 := by omega
theorem Div_ev (a b mode : Nat) (ha : U a) (hb : U b) : Ev (fun k => soft_Div.f k (a : Int) (b : Int) (mode : Int)) (pr (sDiv a b mode)) := by
  unfold soft_Div.f
  refine Ev.b _ (of_ev a ha) (Ev.b _ (of_ev b hb) ?_)
  dsimp only
  have E4 := either_ok (a : Int) (cls a) (sgn a) (spm a : Int) (spe a) (b : Int) (cls b) (sgn b) (spm b : Int) (spe b) 4
  rw [show ((4 : Nat) : Int) = 4 from rfl] at E4
  refine Ev.b _ (Ev.const E4) ?_
  have a0e : ((cls a : Int) == 0) = decide (cls a = 0) := eq_nat _ 0
  have b3e : ((cls b : Int) == 3) = decide (cls b = 3) := eq_nat _ 3
  by_cases c4 : cls a = 4 ∨ cls b = 4
  · have hS : sDiv a b mode = (QN, 0) := by unfold sDiv; rw [if_pos c4]
    rw [hS, decide_eq_true c4]
    exact Ev.congr (fun k => by rw [if_pos rfl]) (Ev.b (f := fun _ x => some (x, (0 : Int))) _ (Ev.const Quiet_ok) (Ev.now _))
  rw [decide_eq_false c4, a0e]
  have J1 : ¬ (cls a = 3 ∧ cls b = 3 ∨ cls a = 0 ∧ cls b = 0) → ¬ cls a = 3 → ¬ cls b = 0 → Ev (fun k => soft_Div.j1 k (mode : Int) (sgn a != sgn b) (decide (cls a = 0 ∨ cls b = 3)) (a : Int) (cls a : Int) (sgn a) (spm a : Int) (spe a) (b : Int) (cls b : Int) (sgn b) (spm b : Int) (spe b)) (pr (sDiv a b mode)) := by
    intro n1 n2 n3
    refine Ev.next ?_
    simp only [soft_Div.j1]
    by_cases c : cls a = 0 ∨ cls b = 3
    · have hS : sDiv a b mode = (sg (sgn a != sgn b), 0) := by unfold sDiv; rw [if_neg c4, if_neg n1, if_neg n2, if_neg n3, if_pos c]
      rw [hS, decide_eq_true c]
      exact Ev.congr (fun k => by rw [if_pos rfl]) (Ev.b (f := fun _ x => some (x, (0 : Int))) _ (zero_ev _) (Ev.now _))
    · have ka : cls a ≤ 2 := by have := cls_le a; omega
      have kb : cls b ≤ 2 := by have := cls_le b; omega
      have za : spm a ≠ 0 := fun h => by have := (spm_zero a ka).1 h; omega
      have zb : spm b ≠ 0 := fun h => by have := (spm_zero b kb).1 h; omega
      have la := spm_lt a
      have lb := spm_lt b
      have ea := spe_bd a
      have eb := spe_bd b
      have hbl := bl_bd (spm a) za
      have hbl2 : bl (spm a) ≤ 53 := bl_le (n := 53) la
      have L : wide_U128_Len.f 0 (spm a : Int) = some (bl (spm a) : Int) := by
        have := Len_tw (spm a) (by omega)
        rw [tw_word (by omega)] at this; exact this
      obtain ⟨sh', hsh⟩ : ∃ n : Nat, n = 64 - bl (spm a) := ⟨_, rfl⟩
      have w1 : wrap64 (64 - (bl (spm a) : Int)) = (sh' : Int) := by rw [w64 (by omega) (by omega)]; omega
      have hx : spm a * 2 ^ sh' < 18446744073709551616 := by
        have : spm a * 2 ^ sh' < 2 ^ bl (spm a) * 2 ^ sh' := Nat.mul_lt_mul_of_pos_right hbl.2.2 (two_pos _)
        rw [← Nat.pow_add, show bl (spm a) + sh' = 64 by omega] at this; exact this
      have hx2 : 9223372036854775808 ≤ spm a * 2 ^ sh' := by
        have : 2 ^ (bl (spm a) - 1) * 2 ^ sh' ≤ spm a * 2 ^ sh' := Nat.mul_le_mul_right _ hbl.2.1
        rw [← Nat.pow_add, show bl (spm a) - 1 + sh' = 63 by omega] at this; exact this
      have S : shl .u64 (spm a : Int) (sh' : Int) = ((spm a * 2 ^ sh' : Nat) : Int) := by rw [shl_nat _ _ (by omega), Nat.mod_eq_of_lt hx]
      have D := U128_Div (spm a * 2 ^ sh') (spm b) hx (by omega) (by omega)
      have hA : spm a * 2 ^ sh' * 18446744073709551616 = spm a * 2 ^ (sh' + 64) := by rw [Nat.pow_add, Nat.mul_assoc]
      have hq1 : 9007199254740992 ≤ spm a * 2 ^ sh' * 18446744073709551616 / spm b := by
        rw [Nat.le_div_iff_mul_le (by omega)]
        exact dv1 lb hx2
      have hq2 : spm a * 2 ^ sh' * 18446744073709551616 / spm b < 340282366920938463463374607431768211456 := by
        exact Nat.lt_of_le_of_lt (Nat.div_le_self _ _) (Nat.mul_lt_mul_of_pos_right hx (by decide))
      obtain ⟨A, hAA⟩ : ∃ A, spm a * 2 ^ sh' * 18446744073709551616 = A := ⟨_, rfl⟩
      rw [hAA] at D hA hq1 hq2
      have w2 : wrap64 (wrap64 (wrap64 (spe a - (sh' : Int)) - 64) - spe b) = spe a - spe b - (sh' + 64 : Nat) := by
        rw [w64 (n := spe a - (sh' : Int)) (by omega) (by omega), w64 (n := spe a - (sh' : Int) - 64) (by omega) (by omega), w64 (by omega) (by omega)]; omega
      have hbl54 : 53 < bl (A / spm b) := by
        by_cases c9 : bl (A / spm b) ≤ 53
        · have := bl_small c9; omega
        · omega
      have hl : (((A % spm b : Nat) : Int) != 0) = decide (A % spm b ≠ 0) := by rw [Bool.eq_iff_iff, bne_iff_ne, decide_eq_true_iff]; omega
      have R := Round_ev (sgn a != sgn b) (A / spm b) (spe a - spe b - (sh' + 64 : Nat)) (decide (A % spm b ≠ 0)) mode hq2
      rw [if_neg (by omega), cl_id (by omega) (by omega), decide_eq_true hbl54, Bool.and_true] at R
      have T := two_step (sgn a != sgn b) A (spm b) (spe a - spe b - (sh' + 64 : Nat)) mode (by omega) (.inr hq1)
      have K := FXS_scale (spm a) (spm b) (sh' + 64) (spe a - spe b) false
      rw [← hA] at K
      rw [T, K.1, K.2] at R
      have hS : RND (sgn a != sgn b) (FX (spm a) (spm b) (spe a - spe b)) (FS (spm a) (spm b) (spe a - spe b) false) mode = sDiv a b mode := by
        unfold sDiv; rw [if_neg c4, if_neg n1, if_neg n2, if_neg n3, if_neg c]
      rw [hS] at R
      rw [decide_eq_false c]
      refine Ev.congr (fun k => by rw [if_neg (by simp)]) (Ev.b _ (Ev.const L) ?_)
      rw [w1, S]
      refine Ev.congr (fun k => by rw [if_pos (by omega)]) (Ev.b _ (Ev.const D) ?_)
      dsimp only
      rw [w2, hl]
      exact Ev.b (f := fun _ x => some (x.1, x.2)) _ R (Ev.now _)
  have J0 : Ev (fun k => soft_Div.j0 k (mode : Int) (sgn a != sgn b) (decide (cls a = 3 ∧ cls b = 3 ∨ cls a = 0 ∧ cls b = 0)) (a : Int) (cls a : Int) (sgn a) (spm a : Int) (spe a) (b : Int) (cls b : Int) (sgn b) (spm b : Int) (spe b)) (pr (sDiv a b mode)) := by
    refine Ev.next ?_
    simp only [soft_Div.j0]
    rw [a0e, b3e]
    by_cases n1 : cls a = 3 ∧ cls b = 3 ∨ cls a = 0 ∧ cls b = 0
    · have hS : sDiv a b mode = (QN, 16) := by unfold sDiv; rw [if_neg c4, if_pos n1]
      rw [hS, decide_eq_true n1]
      exact Ev.congr (fun k => by rw [if_pos rfl]) (Ev.b (f := fun _ x => some (x.1, x.2)) _ (Ev.const invalid_ok) (Ev.now _))
    rw [decide_eq_false n1]
    by_cases n2 : cls a = 3
    · have hS : sDiv a b mode = (sg (sgn a != sgn b) + INF, 0) := by unfold sDiv; rw [if_neg c4, if_neg n1, if_pos n2]
      rw [hS]
      exact Ev.congr (fun k => by rw [if_neg (by simp), if_pos (by omega)]) (Ev.b (f := fun _ x => some (x, (0 : Int))) _ (Inf_ev _) (Ev.now _))
    by_cases n3 : cls b = 0
    · have hS : sDiv a b mode = (sg (sgn a != sgn b) + INF, 8) := by unfold sDiv; rw [if_neg c4, if_neg n1, if_neg n2, if_pos n3]
      rw [hS]
      exact Ev.congr (fun k => by rw [if_neg (by simp), if_neg (by omega), if_pos (by omega)]) (Ev.b (f := fun _ x => some (x, (8 : Int))) _ (Inf_ev _) (Ev.now _))
    have J := J1 n1 n2 n3
    by_cases a0 : cls a = 0
    · rw [decide_eq_true (.inl a0)] at J
      rw [decide_eq_true a0]
      exact Ev.congr (fun k => by rw [if_neg (by simp), if_neg (by omega), if_neg (by omega), if_pos (by omega)]) J
    · rw [show decide (cls a = 0 ∨ cls b = 3) = decide (cls b = 3) by rw [Bool.eq_iff_iff, decide_eq_true_iff, decide_eq_true_iff]; omega] at J
      exact Ev.congr (fun k => by rw [if_neg (by simp), if_neg (by omega), if_neg (by omega), if_neg (by omega)]) J
  by_cases h1 : cls a = cls b
  · by_cases h2 : cls a = 3
    · rw [decide_eq_true (show cls a = 3 ∧ cls b = 3 ∨ cls a = 0 ∧ cls b = 0 by omega)] at J0
      exact Ev.congr (fun k => by rw [if_neg (by simp), if_pos (by omega), if_pos (by omega)]) J0
    · rw [show decide (cls a = 3 ∧ cls b = 3 ∨ cls a = 0 ∧ cls b = 0) = decide (cls a = 0) by rw [Bool.eq_iff_iff, decide_eq_true_iff, decide_eq_true_iff]; omega] at J0
      exact Ev.congr (fun k => by rw [if_neg (by simp), if_pos (by omega), if_neg (by omega)]) J0
  · rw [decide_eq_false (show ¬ (cls a = 3 ∧ cls b = 3 ∨ cls a = 0 ∧ cls b = 0) by omega)] at J0
    exact Ev.congr (fun k => by rw [if_neg (by simp), if_neg (by omega)]) J0
end Go.Proofs.Ytmadjhmecfbcmaa.M
end
section
namespace Go.Proofs.Ytmadjhmecfbcmaa.M
open Go.RowKit Go.Proofs.YtmadjhmecfbcmaaW.PrintWords Go.Proofs.YtmadjhmecfbcmaaW.PrintLast Go.Proofs.YtmadjhmecfbcmaaW.PrintMore Go.Proofs.Ytmadjhmecfbcmaa.F
def isqA (a : Nat) : Nat → Nat → Nat
  | 0, r => r
  | j + 1, r => if (r + 2 ^ j) * (r + 2 ^ j) ≤ a then isqA a j (r + 2 ^ j) else isqA a j r
def isq (a : Nat) : Nat := isqA a 64 0
theorem isqA_spec (a : Nat) : ∀ (j r : Nat), r * r ≤ a → a < (r + 2 ^ j) * (r + 2 ^ j) → isqA a j r * isqA a j r ≤ a ∧ a < (isqA a j r + 1) * (isqA a j r + 1) ∧ r ≤ isqA a j r ∧ isqA a j r < r + 2 ^ j
  | 0, r, h1, h2 => by unfold isqA; rw [Nat.pow_zero] at h2 ⊢; exact ⟨h1, h2, Nat.le_refl _, by omega⟩
  | j + 1, r, h1, h2 => by
    unfold isqA
    have e : 2 ^ (j + 1) = 2 ^ j + 2 ^ j := by rw [Nat.pow_succ]; omega
    have p := two_pos j
    split
    · rename_i c
      have := isqA_spec a j (r + 2 ^ j) c (by rw [Nat.add_assoc, ← e]; exact h2)
      omega
    · rename_i c
      have := isqA_spec a j r h1 (by omega)
      omega
theorem isq_spec (a : Nat) (h : a < 340282366920938463463374607431768211456) : isq a * isq a ≤ a ∧ a < (isq a + 1) * (isq a + 1) ∧ isq a < 18446744073709551616 := by
  have := isqA_spec a 64 0 (by omega) (by simp; omega)
  unfold isq
  refine ⟨this.1, this.2.1, ?_⟩
  have h2 := this.2.2.2
  rw [Nat.zero_add] at h2; exact h2
theorem Cmp_tw (p q : Nat) : wide_U128_Cmp.f (tw p).1 (tw p).2 (tw q).1 (tw q).2 = some (if p < q then -1 else if q < p then 1 else 0) := by
  unfold wide_U128_Cmp.f tw
  dsimp only
  congr 1
  (repeat' split) <;> omega
theorem Sqrt_l (a : Nat) (ha : a < 340282366920938463463374607431768211456) : ∀ (j r : Nat), r % 2 ^ j = 0 → r + 2 ^ j ≤ 18446744073709551616 → r * r ≤ a →
    Ev (fun k => wide_U128_Sqrt.l0 k (r : Int) ((2 ^ j / 2 : Nat) : Int) (tw a).1 (tw a).2) ((isqA a j r : Int), (tw (a - isqA a j r * isqA a j r)).1, (tw (a - isqA a j r * isqA a j r)).2)
  | 0, r, _, h2, h3 => by
    refine Ev.next ?_
    simp only [wide_U128_Sqrt.l0]
    have S := U128_Sub a (r * r) ha h3
    unfold isqA
    have hr : r < 18446744073709551616 := by rw [Nat.pow_zero] at h2; omega
    have e0 : ((2 ^ 0 / 2 : Nat) : Int) = 0 := rfl
    rw [e0]
    refine Ev.congr (fun k => by rw [if_neg (Int.lt_irrefl 0)]) (Ev.b _ (Ev.const (wMul_ok r r hr hr)) ?_)
    dsimp only
    refine Ev.b _ (Ev.const S) (Ev.all fun k => ?_)
    rfl
  | j + 1, r, h1, h2, h3 => by
    have e : 2 ^ (j + 1) / 2 = 2 ^ j := by rw [Nat.pow_succ]; omega
    have e2 : 2 ^ (j + 1) = 2 ^ j + 2 ^ j := by rw [Nat.pow_succ]; omega
    have p := two_pos j
    have h4 : r % 2 ^ j = 0 := by
      have : r % 2 ^ (j + 1) % 2 ^ j = r % 2 ^ j := Nat.mod_mod_of_dvd _ (by rw [Nat.pow_succ]; exact Nat.dvd_mul_right _ _)
      rw [← this, h1]; simp
    have ho : bits .or .u64 (r : Int) ((2 ^ j : Nat) : Int) = ((r + 2 ^ j : Nat) : Int) := or_join r (2 ^ j) (j + 1) (by omega) (by omega) h1 (by omega)
    have eh : ((2 ^ j : Nat) : Int) / 2 = ((2 ^ j / 2 : Nat) : Int) := by omega
    refine Ev.next ?_
    simp only [wide_U128_Sqrt.l0]
    rw [e, ho, eh]
    refine Ev.congr (fun k => by rw [if_pos (by omega)]) (Ev.b _ (Ev.const (wMul_ok (r + 2 ^ j) (r + 2 ^ j) (by omega) (by omega))) ?_)
    dsimp only
    refine Ev.b _ (Ev.const (Cmp_tw _ _)) ?_
    unfold isqA
    by_cases c : (r + 2 ^ j) * (r + 2 ^ j) ≤ a
    · rw [if_pos c]
      have := Sqrt_l a ha j (r + 2 ^ j) (by rw [Nat.add_mod_right, h4]) (by omega) c
      exact Ev.congr (fun k => by rw [if_pos (by (repeat' split) <;> omega)]) this
    · rw [if_neg c]
      have := Sqrt_l a ha j r h4 (by omega) h3
      exact Ev.congr (fun k => by rw [if_neg (by (repeat' split) <;> omega)]) this
theorem U128_Sqrt (a : Nat) (ha : a < 340282366920938463463374607431768211456) :
    Ev (fun k => wide_U128_Sqrt.f k (tw a).1 (tw a).2) ((isq a : Int), (tw (a - isq a * isq a)).1, (tw (a - isq a * isq a)).2) := by
  have := Sqrt_l a ha 64 0 (by decide) (by decide) (by omega)
  exact this
def rk (a : Nat) : Nat := if (spe a - (126 - (bl (spm a) : Int))) % 2 = 0 then 126 - bl (spm a) else 127 - bl (spm a)
def rM (a : Nat) : Nat := spm a * 2 ^ rk a
def rE (a : Nat) : Int := (spe a - rk a) / 2
def sSqrt (a mode : Nat) : Nat × Nat :=
  if cls a = 4 then (QN, 0)
  else if cls a = 0 then (a, 0)
  else if sgn a = true then (QN, 16)
  else if cls a = 3 then (a, 0)
  else RND false (FX (isq (rM a)) 1 (rE a)) (FS (isq (rM a)) 1 (rE a) (decide (rM a - isq (rM a) * isq (rM a) ≠ 0))) mode
theorem root_bd (a : Nat) (h : cls a ≤ 2) (h0 : cls a ≠ 0) : 1 ≤ bl (spm a) ∧ bl (spm a) ≤ 53 ∧ rk a ≤ 126 ∧ 73 ≤ rk a ∧ rM a < 170141183460469231731687303715884105728 ∧ 42535295865117307932921825928971026432 ≤ rM a ∧ (spe a - rk a) % 2 = 0 ∧ spm a ≠ 0 := by
  have z : spm a ≠ 0 := fun h2 => h0 ((spm_zero a h).1 h2)
  have hb := bl_bd (spm a) z
  have hb2 : bl (spm a) ≤ 53 := bl_le (n := 53) (spm_lt a)
  have hk : rk a = 126 - bl (spm a) ∨ rk a = 127 - bl (spm a) := by unfold rk; split; exact .inl rfl; exact .inr rfl
  have hpar : (spe a - rk a) % 2 = 0 := by unfold rk; split <;> omega
  refine ⟨hb.1, hb2, by omega, by omega, ?_, ?_, hpar, z⟩
  · have h1 : spm a * 2 ^ rk a < 2 ^ bl (spm a) * 2 ^ rk a := Nat.mul_lt_mul_of_pos_right hb.2.2 (two_pos _)
    rw [← Nat.pow_add] at h1
    have h2 : 2 ^ (bl (spm a) + rk a) ≤ 2 ^ 127 := pow_le (by omega)
    exact Nat.lt_of_lt_of_le h1 h2
  · have h1 : 2 ^ (bl (spm a) - 1) * 2 ^ rk a ≤ spm a * 2 ^ rk a := Nat.mul_le_mul_right _ hb.2.1
    rw [← Nat.pow_add] at h1
    have h2 : 2 ^ 125 ≤ 2 ^ (bl (spm a) - 1 + rk a) := pow_le (by omega)
    exact Nat.le_trans h2 h1
theorem rt1 {r M : Nat} (h1 : M < (r + 1) * (r + 1)) (h2 : 42535295865117307932921825928971026432 ≤ M) : 9007199254740992 ≤ r := by
  by_cases c : 9007199254740992 ≤ r
  · exact c
  · have : (r + 1) * (r + 1) ≤ 9007199254740992 * 9007199254740992 := Nat.mul_le_mul (by omega) (by omega)
    omega
theorem Sqrt_ev (a mode : Nat) (ha : U a) : Ev (fun k => soft_Sqrt.f k (a : Int) (mode : Int)) (pr (sSqrt a mode)) := by
  unfold soft_Sqrt.f
  refine Ev.b _ (of_ev a ha) ?_
  dsimp only
  have a0e : ((cls a : Int) == 0) = decide (cls a = 0) := eq_nat _ 0
  rw [a0e]
  by_cases c4 : cls a = 4
  · have hS : sSqrt a mode = (QN, 0) := by unfold sSqrt; rw [if_pos c4]
    rw [hS]
    exact Ev.congr (fun k => by rw [if_pos (by omega)]) (Ev.b (f := fun _ x => some (x, (0 : Int))) _ (Ev.const Quiet_ok) (Ev.now _))
  have J : Ev (fun k => soft_Sqrt.j0 k (a : Int) (mode : Int) (decide (cls a = 0 ∨ cls a = 3 ∧ sgn a = false)) (a : Int) (cls a : Int) (sgn a) (spm a : Int) (spe a)) (pr (sSqrt a mode)) := by
    refine Ev.next ?_
    simp only [soft_Sqrt.j0]
    by_cases c : cls a = 0 ∨ cls a = 3 ∧ sgn a = false
    · have hS : sSqrt a mode = (a, 0) := by
        unfold sSqrt; rw [if_neg c4]
        rcases c with c | ⟨c, d⟩
        · rw [if_pos c]
        · rw [if_neg (by omega), if_neg (by rw [d]; simp), if_pos c]
      rw [hS, decide_eq_true c]
      exact Ev.all fun k => by rw [if_pos rfl]; rfl
    rw [decide_eq_false c]
    have n0 : ¬ cls a = 0 := fun h => c (.inl h)
    by_cases cs : sgn a = true
    · have hS : sSqrt a mode = (QN, 16) := by unfold sSqrt; rw [if_neg c4, if_neg n0, if_pos cs]
      rw [hS]
      exact Ev.congr (fun k => by rw [if_neg (by simp), if_pos cs]) (Ev.b (f := fun _ x => some (x.1, x.2)) _ (Ev.const invalid_ok) (Ev.now _))
    have n3 : ¬ cls a = 3 := fun h => c (.inr ⟨h, by cases h2 : sgn a; rfl; exact absurd h2 cs⟩)
    have ka : cls a ≤ 2 := by have := cls_le a; omega
    obtain ⟨b1, b2, b3, b4, b5, b6, b7, b8⟩ := root_bd a ka n0
    have ea := spe_bd a
    have hS : RND false (FX (isq (rM a)) 1 (rE a)) (FS (isq (rM a)) 1 (rE a) (decide (rM a - isq (rM a) * isq (rM a) ≠ 0))) mode = sSqrt a mode := by
      unfold sSqrt; rw [if_neg c4, if_neg n0, if_neg cs, if_neg n3]
    have L : wide_U128_Len.f 0 (spm a : Int) = some (bl (spm a) : Int) := by
      have := Len_tw (spm a) (by have := spm_lt a; omega)
      rw [tw_word (by have := spm_lt a; omega)] at this; exact this
    have Sh : Ev (fun k => wide_U128_Shl.f k 0 (spm a : Int) (rk a : Int)) (tw (rM a)) := by
      have := Shl_tw (spm a) (rk a) (by have := spm_lt a; omega) (by omega)
      rw [tw_word (by have := spm_lt a; omega), Nat.mod_eq_of_lt (by show rM a < _; omega)] at this; exact this
    have Sq := U128_Sqrt (rM a) (by omega)
    have sp := isq_spec (rM a) (by omega)
    have hr := rt1 sp.2.1 b6
    have R := Round_ev false (isq (rM a)) (rE a) (decide (rM a - isq (rM a) * isq (rM a) ≠ 0)) mode (by omega)
    have hbl54 : 53 < bl (isq (rM a)) := by
      by_cases c9 : bl (isq (rM a)) ≤ 53
      · have := bl_small c9; omega
      · omega
    have hrE : -700 ≤ rE a ∧ rE a ≤ 700 := by unfold rE; omega
    rw [if_neg (by omega), cl_id (by omega) (by omega), decide_eq_true hbl54, Bool.and_true, hS, tw_word sp.2.2] at R
    have hz : (!((tw (rM a - isq (rM a) * isq (rM a))).1 == 0) || (!((tw (rM a - isq (rM a) * isq (rM a))).2 == 0))) = decide (rM a - isq (rM a) * isq (rM a) ≠ 0) := by
      have := tw_eq_zero (rM a - isq (rM a) * isq (rM a)) (by omega)
      rw [← Bool.not_and, this, Bool.eq_iff_iff]; simp
    have w1 : wrap64 (126 - (bl (spm a) : Int)) = 126 - (bl (spm a) : Int) := w64 (by omega) (by omega)
    have w2 : wrap64 (spe a - (126 - (bl (spm a) : Int))) = spe a - (126 - (bl (spm a) : Int)) := w64 (by omega) (by omega)
    have w3 : wrap64 (126 - (bl (spm a) : Int) + 1) = 127 - (bl (spm a) : Int) := by rw [w64 (by omega) (by omega)]; omega
    have w4 : wrap64 (spe a - (127 - (bl (spm a) : Int))) = spe a - (127 - (bl (spm a) : Int)) := w64 (by omega) (by omega)
    refine Ev.congr (fun k => by rw [if_neg (by simp), if_neg cs]) (Ev.b _ (Ev.const L) ?_)
    rw [w1, w2, w3, w4]
    by_cases hp : (spe a - (126 - (bl (spm a) : Int))) % 2 = 0
    · have hk : (126 - (bl (spm a) : Int)) = (rk a : Int) := by unfold rk; rw [if_pos hp]; omega
      have ht : Int.tmod (spe a - (126 - (bl (spm a) : Int))) 2 = 0 := by
        rw [hk]; exact Int.tmod_eq_zero_of_dvd (Int.dvd_of_emod_eq_zero b7)
      have hd : wrap64 (Int.tdiv (spe a - (126 - (bl (spm a) : Int))) 2) = rE a := by
        rw [hk, Int.tdiv_eq_ediv_of_dvd (Int.dvd_of_emod_eq_zero b7)]; exact w64 (by unfold rE at hrE; omega) (by unfold rE at hrE; omega)
      rw [hd]
      refine Ev.congr (fun k => by rw [if_pos ht, hk]) (Ev.b _ Sh (Ev.b _ Sq ?_))
      dsimp only
      rw [hz]
      exact Ev.b (f := fun _ x => some (x.1, x.2)) _ R (Ev.now _)
    · have hk : (127 - (bl (spm a) : Int)) = (rk a : Int) := by unfold rk; rw [if_neg hp]; omega
      have ht : ¬ Int.tmod (spe a - (126 - (bl (spm a) : Int))) 2 = 0 := by
        intro h; exact hp (Int.emod_eq_zero_of_dvd (Int.dvd_of_tmod_eq_zero h))
      have hd : wrap64 (Int.tdiv (spe a - (127 - (bl (spm a) : Int))) 2) = rE a := by
        rw [hk, Int.tdiv_eq_ediv_of_dvd (Int.dvd_of_emod_eq_zero b7)]; exact w64 (by unfold rE at hrE; omega) (by unfold rE at hrE; omega)
      rw [hd]
      refine Ev.congr (fun k => by rw [if_neg ht, hk]) (Ev.b _ Sh (Ev.b _ Sq ?_))
      dsimp only
      rw [hz]
      exact Ev.b (f := fun _ x => some (x.1, x.2)) _ R (Ev.now _)
  by_cases n0 : cls a = 0
  · rw [decide_eq_true (.inl n0)] at J
    rw [decide_eq_true n0]
    exact Ev.congr (fun k => by rw [if_neg (by omega), if_pos (by omega)]) J
  · by_cases n3 : cls a = 3
    · have : decide (cls a = 0 ∨ cls a = 3 ∧ sgn a = false) = (!sgn a) := by
        cases h : sgn a
        · rw [decide_eq_true (.inr ⟨n3, rfl⟩)]; rfl
        · rw [decide_eq_false (by simp [n0])]; rfl
      rw [this] at J
      exact Ev.congr (fun k => by rw [if_neg (by omega), if_neg (by omega), if_pos (by omega)]) J
    · rw [decide_eq_false (by simp [n0, n3])] at J
      exact Ev.congr (fun k => by rw [if_neg (by omega), if_neg (by omega), if_neg (by omega)]) J
def sSum (mode : Nat) : Nat → List Nat → Nat
  | s, [] => s
  | s, f :: l => sSum mode (sAdd s f mode).1 l
theorem RND_U (neg : Bool) (X : Nat) (s : Bool) (mode : Nat) : U (RND neg X s mode).1 := by
  unfold U
  by_cases h : 9218868437227405312 ≤ kk X s (dir neg mode)
  · rw [RND_over h]; unfold sg; dsimp only; (repeat' split) <;> omega
  · rw [RND_in h]; unfold sg; dsimp only; split <;> omega
theorem sg_U (b : Bool) : U (sg b) := by unfold U sg; split <;> omega
theorem sAdd_U (a b mode : Nat) (ha : U a) (hb : U b) : U (sAdd a b mode).1 := by
  unfold sAdd
  (repeat' split) <;> first | assumption | exact RND_U _ _ _ _ | exact sg_U _ | (show QN < _; decide)
theorem Sum_ev (mode : Nat) (l : List Nat) (hl : l.length < 1000000) (hU : ∀ x ∈ l, U x) : ∀ (d i s : Nat), l.length - i = d → i ≤ l.length → U s →
    Ev (fun k => soft_Sum.l0 k (mode : Int) (s : Int) (l.map Nat.cast) (l.length : Int) (i : Int)) (sSum mode s (l.drop i) : Int)
  | 0, i, s, hd, hi, hs => by
    refine Ev.next ?_
    simp only [soft_Sum.l0]
    rw [List.drop_eq_nil_of_le (by omega)]
    exact Ev.all fun k => by rw [if_neg (by omega)]; rfl
  | d + 1, i, s, hd, hi, hs => by
    have hlt : i < l.length := by omega
    have hg : rd (l.map Nat.cast) (i : Int) = ((l[i] : Nat) : Int) := by
      unfold rd; rw [Int.toNat_natCast, List.getD_eq_getElem?_getD, List.getElem?_map, List.getElem?_eq_getElem hlt]; rfl
    have w1 : wrap64 ((i : Int) + 1) = ((i + 1 : Nat) : Int) := by rw [w64 (by omega) (by omega)]; omega
    have hUi := hU l[i] (List.getElem_mem hlt)
    refine Ev.next ?_
    simp only [soft_Sum.l0]
    rw [List.drop_eq_getElem_cons hlt, hg, w1, List.length_map]
    unfold sSum
    refine Ev.congr (fun k => by rw [if_pos (by omega), if_pos (by omega), if_pos (by omega)]) (Ev.b _ (Add_ev s l[i] mode hs hUi) ?_)
    exact Sum_ev mode l hl hU d (i + 1) _ (by omega) (by omega) (sAdd_U _ _ _ hs hUi)
theorem softSum_ev (mode : Nat) (l : List Nat) (hl : l.length < 1000000) (hU : ∀ x ∈ l, U x) : Ev (fun k => soft_Sum.f k (mode : Int) (l.map Nat.cast)) (sSum mode 0 l : Int) := by
  have := Sum_ev mode l hl hU l.length 0 0 (by omega) (by omega) (show (0 : Nat) < 18446744073709551616 by decide)
  unfold soft_Sum.f
  rw [List.length_map]; exact this
end Go.Proofs.Ytmadjhmecfbcmaa.M
end
section
namespace Go.Proofs.Ytmadjhmecfbcmaa.M
open Go.RowKit Go.Proofs.YtmadjhmecfbcmaaW.PrintWords Go.Proofs.YtmadjhmecfbcmaaW.PrintLast Go.Proofs.YtmadjhmecfbcmaaW.PrintMore Go.Proofs.Ytmadjhmecfbcmaa.F
theorem c1 : sAdd 4607182418800017408 4368491638549381120 0 = (4607182418800017408, 1) := by decide +kernel
theorem c2 : (sAdd 4607182418800017408 4368491638549381120 1).1 = 4607182418800017409 := by decide +kernel
theorem c3 : (sAdd 4607182418800017408 (ng 4607182418800017408) 0).1 = 0 := by decide +kernel
theorem c4' : (sAdd 4607182418800017408 (ng 4607182418800017408) 2).1 = 9223372036854775808 := by decide +kernel
theorem c5 : sDiv 13830554455654793216 0 0 = (18442240474082181120, 8) := by decide +kernel
theorem c6 : (sSqrt 4611686018427387904 0).1 = 4609047870845172685 := by decide +kernel
theorem c7 : sMul 0 9218868437227405312 0 = (QN, 16) := by decide +kernel
theorem c8 : sSum 0 0 [4607182418800017408, 4607182418800017408, 4607182418800017408] = 4613937818241073152 := by decide +kernel
theorem wf_u64 {x : Int} (h : (Lit.int .u64 x).wf = true) : ∃ a : Nat, x = a ∧ U a := by
  have h2 := (Bool.and_eq_true _ _).mp h
  have h0 : (0 : Int) ≤ x := of_decide_eq_true h2.1
  have h1 : x ≤ 18446744073709551615 := of_decide_eq_true h2.2
  exact ⟨x.toNat, by omega, by unfold U; omega⟩
theorem wf_u8 {x : Int} (h : (Lit.int .u8 x).wf = true) : ∃ a : Nat, x = a ∧ a < 256 := by
  have h2 := (Bool.and_eq_true _ _).mp h
  have h0 : (0 : Int) ≤ x := of_decide_eq_true h2.1
  have h1 : x ≤ 255 := of_decide_eq_true h2.2
  exact ⟨x.toNat, by omega, by omega⟩
theorem Ev.ex {α : Type} {g : Nat → Option α} {r : α} (h : Ev g r) : ∃ k, g k = some r := by
  obtain ⟨k, hk⟩ := h; exact ⟨k, hk k (Nat.le_refl _)⟩
instance (a : Nat) : Decidable (U a) := by unfold U; infer_instance
theorem w1 : Ev (fun k => soft_Add.f k 4607182418800017408 4368491638549381120 0) (4607182418800017408, 1) := by
  have := Add_ev 4607182418800017408 4368491638549381120 0 (by decide) (by decide)
  rw [c1] at this; exact this
theorem w2 : ∃ y, Ev (fun k => soft_Add.f k 4607182418800017408 4368491638549381120 1) (4607182418800017409, y) := by
  have := Add_ev 4607182418800017408 4368491638549381120 1 (by decide) (by decide)
  unfold pr at this
  rw [c2] at this; exact ⟨_, this⟩
theorem w3 : ∃ y, Ev (fun k => soft_Sub.f k 4607182418800017408 4607182418800017408 0) (0, y) := by
  have := Sub_ev 4607182418800017408 4607182418800017408 0 (by decide) (by decide)
  unfold pr at this
  rw [c3] at this; exact ⟨_, this⟩
theorem w4 : ∃ y, Ev (fun k => soft_Sub.f k 4607182418800017408 4607182418800017408 2) (9223372036854775808, y) := by
  have := Sub_ev 4607182418800017408 4607182418800017408 2 (by decide) (by decide)
  unfold pr at this
  rw [c4'] at this; exact ⟨_, this⟩
theorem w5 : Ev (fun k => soft_Div.f k 13830554455654793216 0 0) (18442240474082181120, 8) := by
  have := Div_ev 13830554455654793216 0 0 (by decide) (by decide)
  rw [c5] at this; exact this
theorem w6 : ∃ y, Ev (fun k => soft_Sqrt.f k 4611686018427387904 0) (4609047870845172685, y) := by
  have := Sqrt_ev 4611686018427387904 0 (by decide)
  unfold pr at this
  rw [c6] at this; exact ⟨_, this⟩
theorem w7 : Ev (fun k => soft_Mul.f k 0 9218868437227405312 0) (QN, 16) := by
  have := Mul_ev 0 9218868437227405312 0 (by decide) (by decide)
  rw [c7] at this; exact this
theorem w8 : Ev (fun k => soft_Sum.f k 0 [4607182418800017408, 4607182418800017408, 4607182418800017408]) 4613937818241073152 := by
  have := softSum_ev 0 [4607182418800017408, 4607182418800017408, 4607182418800017408] (by decide) (by intro x hx; simp at hx; subst hx; decide)
  rw [c8] at this; exact this
theorem w9 : Ev (fun k => pattern_Inf.f k false) 9218868437227405312 := Inf_ev false
theorem w10 : Ev (fun k => pattern_Inf.f k true) 18442240474082181120 := Inf_ev true
theorem works_ev : Ev (fun k => flyballlaw06_works.f k) true := by
  obtain ⟨y2, w2⟩ := w2
  obtain ⟨y3, w3⟩ := w3
  obtain ⟨y4, w4⟩ := w4
  obtain ⟨y6, w6⟩ := w6
  unfold flyballlaw06_works.f
  refine Ev.b _ w1 ?_
  refine Ev.b _ w2 ?_
  refine Ev.b _ w3 ?_
  refine Ev.b _ w4 ?_
  refine Ev.b _ w5 ?_
  refine Ev.b _ w6 ?_
  refine Ev.b _ w9 ?_
  refine Ev.b _ w7 ?_
  refine Ev.b _ w8 ?_
  dsimp only
  refine Ev.congr (fun k => by rw [if_pos rfl, if_pos rfl, if_pos rfl, if_pos rfl, if_pos rfl]) ?_
  refine Ev.b _ w10 ?_
  refine Ev.congr (fun k => by rw [if_pos rfl, if_pos rfl, if_pos rfl]) ?_
  refine Ev.b _ (Ev.const Quiet_ok) ?_
  exact Ev.congr (fun k => by rw [if_pos rfl, if_pos rfl, beq_self_eq_true]) (Ev.now _)
end Go.Proofs.Ytmadjhmecfbcmaa.M
end
section
namespace Go.Proofs.Ytmadjhmecfbcmaa.M
open Go.RowKit Go.Proofs.YtmadjhmecfbcmaaW.PrintWords Go.Proofs.YtmadjhmecfbcmaaW.PrintLast Go.Proofs.YtmadjhmecfbcmaaW.PrintMore Go.Proofs.Ytmadjhmecfbcmaa.F
theorem sAdd_nan {a b : Nat} (m : Nat) (h : cls a = 4 ∨ cls b = 4) : sAdd a b m = (QN, 0) := by unfold sAdd; rw [if_pos h]
theorem sAdd_inv {a b : Nat} (m : Nat) (h : cls a = 3 ∧ cls b = 3 ∧ sgn a ≠ sgn b) : sAdd a b m = (QN, 16) := by
  unfold sAdd; rw [if_neg (show ¬ (cls a = 4 ∨ cls b = 4) by omega), if_pos h]
theorem sAdd_infl {a b : Nat} (m : Nat) (h : ¬ (cls a = 4 ∨ cls b = 4)) (h2 : ¬ (cls a = 3 ∧ cls b = 3 ∧ sgn a ≠ sgn b)) (c : cls a = 3) : sAdd a b m = (a, 0) := by
  unfold sAdd; rw [if_neg h, if_neg h2, if_pos c]
theorem sAdd_infr {a b : Nat} (m : Nat) (h : ¬ (cls a = 4 ∨ cls b = 4)) (c : cls a ≠ 3) (c2 : cls b = 3) : sAdd a b m = (b, 0) := by
  unfold sAdd; rw [if_neg h, if_neg (show ¬ (cls a = 3 ∧ cls b = 3 ∧ sgn a ≠ sgn b) from fun x => c x.1), if_neg c, if_pos c2]
theorem cls_key {a b : Nat} (h : key a = key b) : cls a = cls b := by
  have h1 := key_parts' a
  have h2 := key_parts' b
  have a1 := fr_lt a
  have a2 := fr_lt b
  have e1 : ex a = ex b := by omega
  have e2 : fr a = fr b := by omega
  unfold cls; rw [e1, e2]
theorem QN_cls : cls QN = 4 := by decide
theorem cls_sg0 (n : Bool) : cls (sg n) = 0 := by cases n <;> decide
theorem cls_sAdd (a b m : Nat) : cls (sAdd a b m).1 = 4 ↔ cls a = 4 ∨ cls b = 4 ∨ (cls a = 3 ∧ cls b = 3 ∧ sgn a ≠ sgn b) := by
  have la := cls_le a
  have lb := cls_le b
  by_cases c4 : cls a = 4 ∨ cls b = 4
  · rw [sAdd_nan m c4]; exact ⟨fun _ => by rcases c4 with h | h; exact .inl h; exact .inr (.inl h), fun _ => QN_cls⟩
  · by_cases c1 : cls a = 3 ∧ cls b = 3 ∧ sgn a ≠ sgn b
    · rw [sAdd_inv m c1]; exact ⟨fun _ => .inr (.inr c1), fun _ => QN_cls⟩
    · refine ⟨fun h => ?_, fun h => ?_⟩
      · exfalso
        by_cases c2 : cls a = 3
        · rw [sAdd_infl m c4 c1 c2] at h; dsimp only at h; omega
        · by_cases c3 : cls b = 3
          · rw [sAdd_infr m c4 c2 c3] at h; dsimp only at h; omega
          · rw [sAdd_fin m (by omega) (by omega)] at h
            split at h
            · dsimp only at h; rw [cls_sg0] at h; omega
            · have := cls_RND (decide (sv a + sv b < 0)) (2 * (sv a + sv b).natAbs) false m; omega
      · rcases h with h | h | h
        · exact absurd (.inl h) c4
        · exact absurd (.inr h) c4
        · exact absurd h c1
theorem sMul_U (a b m : Nat) : U (sMul a b m).1 := by
  unfold sMul
  (repeat' split)
  · decide
  · decide
  · unfold U sg INF; split <;> omega
  · unfold U sg; dsimp only; split <;> omega
  · exact U_RND _ _ _ _
end Go.Proofs.Ytmadjhmecfbcmaa.M
end
section
namespace Go.Proofs.Ytmadjhmecfbcmaa.M
open Go.RowKit Go.Proofs.YtmadjhmecfbcmaaW.PrintWords Go.Proofs.YtmadjhmecfbcmaaW.PrintLast Go.Proofs.YtmadjhmecfbcmaaW.PrintMore Go.Proofs.Ytmadjhmecfbcmaa.F
theorem cls_inf (a : Nat) (c : cls a ≠ 4) (h : ord a = 9218868437227405312 ∨ ord a = -9218868437227405312) : cls a = 3 := by
  have la := cls_le a
  by_cases c3 : cls a = 3
  · exact c3
  · have := ord_fin a (by omega); omega
theorem ord_INF (n : Bool) : ord (sg n + INF) = if n then -9218868437227405312 else 9218868437227405312 := by
  have := ord_sg n INF (by decide)
  rw [this]; cases n <;> rfl
theorem Rise_add (a b c m : Nat) (na : cls a ≠ 4) (nb : cls b ≠ 4) (nc : cls c ≠ 4) (h : ord a ≤ ord b) (h1 : cls (sAdd a c m).1 ≠ 4) (h2 : cls (sAdd b c m).1 ≠ 4) :
    ord (sAdd a c m).1 ≤ ord (sAdd b c m).1 := by
  have la := cls_le a
  have lb := cls_le b
  have lc := cls_le c
  have n1 : ¬ (cls a = 3 ∧ cls c = 3 ∧ sgn a ≠ sgn c) := fun x => h1 ((cls_sAdd a c m).2 (.inr (.inr x)))
  have n2 : ¬ (cls b = 3 ∧ cls c = 3 ∧ sgn b ≠ sgn c) := fun x => h2 ((cls_sAdd b c m).2 (.inr (.inr x)))
  have b1 := ord_bd _ h1
  have b2 := ord_bd _ h2
  by_cases c3 : cls c = 3
  · have q : ∀ x, cls x ≠ 4 → ¬ (cls x = 3 ∧ cls c = 3 ∧ sgn x ≠ sgn c) → ord (sAdd x c m).1 = ord c := by
      intro x nx hx
      by_cases x3 : cls x = 3
      · rw [sAdd_infl m (by omega) hx x3]
        have e : sgn x = sgn c := Classical.byContradiction (fun y => hx ⟨x3, c3, y⟩)
        rw [ord_inf x x3, ord_inf c c3, e]
      · rw [sAdd_infr m (by omega) x3 c3]
    rw [q a na n1, q b nb n2]; exact Int.le_refl _
  · by_cases a3 : cls a = 3
    · have e1 : sAdd a c m = (a, 0) := sAdd_infl m (by omega) n1 a3
      have oa := ord_inf a a3
      rw [e1]; dsimp only
      cases s : sgn a
      · rw [s, if_neg (by decide)] at oa
        have bb := ord_bd b nb
        have b3 := cls_inf b nb (.inl (by omega))
        rw [sAdd_infl m (by omega) n2 b3]; exact h
      · rw [s, if_pos rfl] at oa
        omega
    · by_cases b3 : cls b = 3
      · have e1 : sAdd b c m = (b, 0) := sAdd_infl m (by omega) n2 b3
        have ob := ord_inf b b3
        have fa := ord_fin a (by omega)
        rw [e1]; dsimp only
        cases s : sgn b
        · rw [s, if_neg (by decide)] at ob; omega
        · rw [s, if_pos rfl] at ob; omega
      · rw [ord_sAdd _ _ _ (by omega) (by omega), ord_sAdd _ _ _ (by omega) (by omega)]
        apply rq_mono
        have := sv_mono h
        omega
theorem sMul_nan {a b : Nat} (m : Nat) (h : cls a = 4 ∨ cls b = 4) : sMul a b m = (QN, 0) := by unfold sMul; rw [if_pos h]
theorem sMul_inv {a b : Nat} (m : Nat) (h : cls a = 3 ∧ cls b = 0 ∨ cls a = 0 ∧ cls b = 3) : sMul a b m = (QN, 16) := by
  unfold sMul; rw [if_neg (show ¬ (cls a = 4 ∨ cls b = 4) by omega), if_pos h]
theorem sMul_inf {a b : Nat} (m : Nat) (h : ¬ (cls a = 4 ∨ cls b = 4)) (h2 : ¬ (cls a = 3 ∧ cls b = 0 ∨ cls a = 0 ∧ cls b = 3)) (c : cls a = 3 ∨ cls b = 3) : sMul a b m = (sg (sgn a != sgn b) + INF, 0) := by
  unfold sMul; rw [if_neg h, if_neg h2, if_pos c]
theorem cls_sMul_inv (a b m : Nat) (h : cls (sMul a b m).1 ≠ 4) : ¬ (cls a = 3 ∧ cls b = 0 ∨ cls a = 0 ∧ cls b = 3) := fun x => h (by rw [sMul_inv m x]; exact QN_cls)
theorem Rise_mul (a b z m : Nat) (na : cls a ≠ 4) (nb : cls b ≠ 4) (nz : cls z ≠ 4) (hz : sgn z = false) (h : ord a ≤ ord b) (h1 : cls (sMul a z m).1 ≠ 4) (h2 : cls (sMul b z m).1 ≠ 4) :
    ord (sMul a z m).1 ≤ ord (sMul b z m).1 := by
  have la := cls_le a
  have lb := cls_le b
  have lz := cls_le z
  have n1 := cls_sMul_inv a z m h1
  have n2 := cls_sMul_inv b z m h2
  have b1 := ord_bd _ h1
  have b2 := ord_bd _ h2
  have bx : ∀ x : Bool, (x != false) = x := by intro x; cases x <;> rfl
  have pos : ∀ x, cls x ≠ 0 → (0 < ord x ↔ sgn x = false) := by
    intro x hx
    have h0 : ord x ≠ 0 := fun y => hx ((ord_zero x).1 y)
    cases s : sgn x
    · have := ord_pos_ge x s; exact ⟨fun _ => rfl, fun _ => by omega⟩
    · have := ord_neg_le x s; exact ⟨fun _ => by omega, fun y => by cases y⟩
  by_cases z3 : cls z = 3
  · have pa := pos a (by omega)
    have pb := pos b (by omega)
    rw [sMul_inf m (by omega) n1 (.inr z3), sMul_inf m (by omega) n2 (.inr z3), hz, bx, bx]
    dsimp only
    rw [ord_INF, ord_INF]
    cases sa : sgn a
    · have : 0 < ord a := pa.2 sa
      rw [pb.1 (by omega)]; decide
    · rw [if_pos rfl]; split <;> decide
  · by_cases a3 : cls a = 3
    · rw [sMul_inf m (by omega) n1 (.inl a3), hz, bx] at b1 ⊢
      dsimp only at b1 ⊢
      rw [ord_INF] at b1 ⊢
      have oa := ord_inf a a3
      cases s : sgn a
      · rw [s, if_neg (by decide)] at oa
        have bb := ord_bd b nb
        have b3 := cls_inf b nb (.inl (by omega))
        have ob := ord_inf b b3
        have sb : sgn b = false := by
          cases sb : sgn b
          · rfl
          · rw [sb, if_pos rfl] at ob; omega
        rw [sMul_inf m (by omega) n2 (.inl b3), hz, bx, sb]
        dsimp only
        rw [ord_INF]; decide
      · rw [if_pos rfl]; exact b2.1
    · by_cases b3 : cls b = 3
      · rw [sMul_inf m (by omega) n2 (.inl b3), hz, bx] at b2 ⊢
        dsimp only at b2 ⊢
        rw [ord_INF] at b2 ⊢
        have ob := ord_inf b b3
        have fa := ord_fin a (by omega)
        cases s : sgn b
        · rw [if_neg (by decide)]; exact b1.2
        · rw [s, if_pos rfl] at ob; omega
      · rw [ord_sMul _ _ _ (by omega) (by omega), ord_sMul _ _ _ (by omega) (by omega)]
        apply rq_mono
        have hs := sv_mono h
        have h0 : 0 ≤ sv z := by unfold sv; rw [hz, if_neg (by decide)]; omega
        exact Int.mul_le_mul_of_nonneg_right hs h0
theorem Dir_mul (a c : Nat) : ord (sMul a c 2).1 ≤ ord (sMul a c 0).1 ∧ ord (sMul a c 0).1 ≤ ord (sMul a c 1).1 := by
  have la := cls_le a
  have lc := cls_le c
  by_cases c4 : cls a = 4 ∨ cls c = 4
  · rw [sMul_nan 2 c4, sMul_nan 0 c4, sMul_nan 1 c4]; exact ⟨Int.le_refl _, Int.le_refl _⟩
  · by_cases c1 : cls a = 3 ∧ cls c = 0 ∨ cls a = 0 ∧ cls c = 3
    · rw [sMul_inv 2 c1, sMul_inv 0 c1, sMul_inv 1 c1]; exact ⟨Int.le_refl _, Int.le_refl _⟩
    · by_cases c3 : cls a = 3 ∨ cls c = 3
      · rw [sMul_inf 2 c4 c1 c3, sMul_inf 0 c4 c1 c3, sMul_inf 1 c4 c1 c3]; exact ⟨Int.le_refl _, Int.le_refl _⟩
      · rw [sMul_fin 2 (by omega) (by omega), sMul_fin 0 (by omega) (by omega), sMul_fin 1 (by omega) (by omega)]
        by_cases z : mg a * mg c = 0
        · rw [if_pos z, if_pos z, if_pos z]; exact ⟨Int.le_refl _, Int.le_refl _⟩
        · rw [if_neg z, if_neg z, if_neg z, ord_RND, ord_RND, ord_RND]
          have D := cap_dirs (mg a * mg c / 2 ^ 1073) (decide (mg a * mg c % 2 ^ 1073 ≠ 0))
          generalize (mg a * mg c / 2 ^ 1073) = X at D ⊢
          generalize decide (mg a * mg c % 2 ^ 1073 ≠ 0) = s at D ⊢
          generalize (sgn a != sgn c) = n
          have d1 : dir false 2 = 2 := rfl
          have d2 : dir false 0 = 0 := rfl
          have d3 : dir false 1 = 1 := rfl
          have d4 : dir true 2 = 1 := rfl
          have d5 : dir true 0 = 0 := rfl
          have d6 : dir true 1 = 2 := rfl
          generalize hx0 : cap X s 0 = x0 at D
          generalize hx1 : cap X s 1 = x1 at D
          generalize hx2 : cap X s 2 = x2 at D
          cases n
          · rw [d1, d2, d3, hx0, hx1, hx2, if_neg (by decide), if_neg (by decide), if_neg (by decide)]; omega
          · rw [d4, d5, d6, hx0, hx1, hx2, if_pos rfl, if_pos rfl, if_pos rfl]; omega
theorem less_no {x y : Nat} (h : cls x ≠ 4 → cls y ≠ 4 → ord x ≤ ord y) : less y x = false := by
  unfold less
  rw [decide_eq_false_iff_not]
  rintro ⟨h1, h2, h3⟩
  have := h h2 h1
  omega
theorem SoftRises : flyballlaw06_SoftRises.Pure := by
  intro a0 a1 a2 a3 h0 h1 h2 h3
  obtain ⟨a, rfl, ha⟩ := wf_u64 h0
  obtain ⟨b, rfl, hb⟩ := wf_u64 h1
  obtain ⟨c, rfl, hc⟩ := wf_u64 h2
  obtain ⟨m, rfl, _⟩ := wf_u8 h3
  refine Ev.ex (r := true) ?_
  have J1 : Ev (fun k => flyballlaw06_SoftRises.j0 k (a : Int) (b : Int) (c : Int) (m : Int) true true) true := by
    refine Ev.next ?_
    simp only [flyballlaw06_SoftRises.j0]
    exact Ev.congr (fun k => by rw [if_pos trivial]) (Ev.now _)
  unfold flyballlaw06_SoftRises.f
  refine Ev.b _ works_ev ?_
  refine Ev.congr (fun k => by rw [if_pos rfl]) ?_
  refine Ev.b _ (Class_ev a ha) ?_
  by_cases na : cls a = 4
  · exact Ev.congr (fun k => by rw [if_pos (by omega)]) J1
  refine Ev.congr (fun k => by rw [if_neg (by omega)]) ?_
  refine Ev.b _ (Class_ev b hb) ?_
  by_cases nb : cls b = 4
  · exact Ev.congr (fun k => by rw [if_pos (by omega)]) J1
  refine Ev.congr (fun k => by rw [if_neg (by omega)]) ?_
  refine Ev.b _ (Class_ev c hc) ?_
  by_cases nc : cls c = 4
  · exact Ev.congr (fun k => by rw [if_pos (by omega)]) J1
  refine Ev.congr (fun k => by rw [if_neg (by omega)]) ?_
  refine Ev.b _ (Less_ev a b ha hb) ?_
  by_cases hl : ord a < ord b
  · have e : less a b = true := by unfold less; exact decide_eq_true ⟨na, nb, hl⟩
    rw [e]
    have hz : U (ab c) := ab_U c hc
    have ez : ab c = key c := by unfold ab; rw [if_neg nc]
    have kz : key (ab c) = key c := by rw [ez]; unfold key; omega
    have sz : sgn (ab c) = false := by rw [ez]; have := sgn_sg false (key c) (key_lt c); rw [show sg false + key c = key c from Nat.zero_add _] at this; exact this
    have cz : cls (ab c) = cls c := cls_key kz
    have hle : ord a ≤ ord b := by omega
    have D := Dir_mul a c
    have L1 : less (sAdd b c m).1 (sAdd a c m).1 = false := less_no (fun h1 h2 => Rise_add a b c m na nb nc hle h1 h2)
    have L2 : less (sMul b (ab c) m).1 (sMul a (ab c) m).1 = false := less_no (fun h1 h2 => Rise_mul a b (ab c) m na nb (by rw [cz]; exact nc) sz hle h1 h2)
    have L3 : less (sMul a c 0).1 (sMul a c 2).1 = false := less_no (fun _ _ => D.1)
    have L4 : less (sMul a c 1).1 (sMul a c 0).1 = false := less_no (fun _ _ => D.2)
    refine Ev.next ?_
    simp only [flyballlaw06_SoftRises.j0]
    refine Ev.congr (fun k => by rw [if_neg (by decide)]) ?_
    refine Ev.b _ (Add_ev a c m ha hc) (Ev.b _ (Add_ev b c m hb hc) (Ev.b _ (Abs_ev c hc) ?_))
    refine Ev.b _ (Mul_ev a (ab c) m ha hz) (Ev.b _ (Mul_ev b (ab c) m hb hz) ?_)
    refine Ev.b _ (Mul_ev a c 2 ha hc) (Ev.b _ (Mul_ev a c 0 ha hc) (Ev.b _ (Mul_ev a c 1 ha hc) ?_))
    refine Ev.congr (fun k => by rw [if_pos trivial]) ?_
    refine Ev.b _ (Less_ev _ _ (sAdd_U _ _ _ hb hc) (sAdd_U _ _ _ ha hc)) ?_
    refine Ev.congr (fun k => by rw [L1, if_neg (by decide)]) ?_
    refine Ev.b _ (Less_ev _ _ (sMul_U _ _ _) (sMul_U _ _ _)) ?_
    refine Ev.congr (fun k => by rw [L2, if_neg (by decide)]) ?_
    refine Ev.b _ (Less_ev _ _ (sMul_U _ _ _) (sMul_U _ _ _)) ?_
    refine Ev.congr (fun k => by rw [L3, if_neg (by decide)]) ?_
    refine Ev.b _ (Less_ev _ _ (sMul_U _ _ _) (sMul_U _ _ _)) ?_
    exact Ev.congr (fun k => by rw [L4]; rfl) (Ev.now _)
  · have e : less a b = false := by unfold less; exact decide_eq_false (fun h => hl h.2.2)
    rw [e]; exact J1
end Go.Proofs.Ytmadjhmecfbcmaa.M
end
