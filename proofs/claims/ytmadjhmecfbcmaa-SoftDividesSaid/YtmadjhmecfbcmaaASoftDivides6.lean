/- The walk of the law SoftDivides and what it computes, part 6 of 6: no conditions. -/
import Derived.Test.YtmadjhmecfbcmaaASoftDivides5
set_option linter.unusedVariables false
set_option linter.unusedSimpArgs false
section
namespace Go.Proofs.Ytmadjhmecfbcmaa.M
open Go.RowKit Go.Proofs.YtmadjhmecfbcmaaW.PrintWords Go.Proofs.YtmadjhmecfbcmaaW.PrintLast Go.Proofs.YtmadjhmecfbcmaaW.PrintMore Go.Proofs.Ytmadjhmecfbcmaa.F
theorem key_tm (k : Nat) : k = ((te k + 1075).toNat - 1) * 4503599627370496 + tm k ∧ (((te k + 1075).toNat = 1 ∧ tm k < 9007199254740992) ∨ (2 ≤ (te k + 1075).toNat ∧ 4503599627370496 ≤ tm k ∧ tm k < 9007199254740992)) := by
  unfold te tm
  by_cases c : k / 4503599627370496 = 0
  · rw [if_pos c, if_pos c]; omega
  · rw [if_neg c, if_neg c]; omega
theorem mid_key (k : Nat) : (2 * tm k + 1) * 2 ^ (te k - 1 + 1075).toNat = magk k + magk (k + 1) := by
  obtain ⟨h1, h2⟩ := key_tm k
  have m1 := magk_parts _ _ h2
  have m2 := magk_parts_succ _ _ h2
  rw [← h1] at m1 m2
  rw [m1, m2, show (te k - 1 + 1075).toNat = (te k + 1075).toNat - 1 by omega]; grind
theorem or8 : bits .or .u8 (bits .or .u8 0 1) 2 = 3 ∧ bits .or .u8 0 1 = 1 ∧ bits .or .u8 (bits .or .u8 0 4) 1 = 5 ∧ bits .or .u8 (bits .or .u8 1 4) 1 = 5 := by decide
theorem cmpX_eq (X : Nat) (s : Bool) (Y : Nat) : cmpX X s Y = 0 ↔ X = Y ∧ s = false := by
  unfold cmpX
  by_cases c : X < Y
  · rw [if_pos c]; omega
  · rw [if_neg c]
    by_cases c2 : Y < X
    · rw [if_pos c2]; omega
    · rw [if_neg c2]; cases s <;> simp; omega
theorem cmpX_lt (X : Nat) (s : Bool) (Y : Nat) : cmpX X s Y < 0 ↔ X < Y := by
  have := cmpX_ge X s Y; omega
theorem cmpX_gt (X : Nat) (s : Bool) (Y : Nat) : cmpX X s Y > 0 ↔ Y < X ∨ Y = X ∧ s = true := by
  have h1 := cmpX_ge X s Y
  have h2 := cmpX_eq X s Y
  by_cases c : cmpX X s Y > 0
  · refine ⟨fun _ => ?_, fun _ => c⟩
    by_cases e : Y = X
    · right; refine ⟨e, ?_⟩; cases s
      · have := h2.2 ⟨e.symm, rfl⟩; omega
      · rfl
    · left; have := h1.1 (by omega); omega
  · refine ⟨fun h => absurd h c, ?_⟩
    rintro (h | ⟨h, h3⟩)
    · have g1 := h1.2 (by omega)
      have := h2.1 (by omega); omega
    · have g1 := h1.2 (by omega)
      have := h2.1 (by omega); rw [h3] at this; cases this.2
theorem mag_j1 (d k0 fl : Nat) (up : Bool) (hk : k0 ≤ 9218868437227405312) (hfl : fl = 0 ∨ fl = 1 ∨ fl = 3) (h5 : 9218868437227405311 ≤ k0 → fl ≠ 3) :
    Ev (fun n => flyballref05_Magnitude.j1 n (d : Int) (fl : Int) (k0 : Int) up)
      (if 9218868437227405312 ≤ k0 + (if up = true ∧ k0 ≤ 9218868437227405311 then 1 else 0) then ((if d = 2 then 9218868437227405311 else 9218868437227405312 : Int), (5 : Int))
       else (((k0 + (if up = true ∧ k0 ≤ 9218868437227405311 then 1 else 0) : Nat) : Int), (fl : Int))) := by
  have J3 : ∀ k1 : Nat, k1 ≤ 9218868437227405312 → (9218868437227405312 ≤ k1 → fl ≠ 3) → Ev (fun n => flyballref05_Magnitude.j3 n (d : Int) (fl : Int) (k1 : Int))
      (if 9218868437227405312 ≤ k1 then ((if d = 2 then 9218868437227405311 else 9218868437227405312 : Int), (5 : Int)) else ((k1 : Int), (fl : Int))) := by
    intro k1 h1 h2
    refine Ev.next ?_
    simp only [flyballref05_Magnitude.j3]
    by_cases c : 9218868437227405312 ≤ k1
    · have hf : bits .or .u8 (bits .or .u8 (fl : Int) 4) 1 = 5 := by
        have := h2 c
        rcases hfl with h | h | h
        · rw [h]; exact or8.2.2.1
        · rw [h]; exact or8.2.2.2
        · exact absurd h this
      rw [if_pos c, hf]
      by_cases d2 : d = 2
      · rw [if_pos d2]
        exact Ev.all fun n => by rw [if_pos (by omega), if_pos (by omega)]
      · rw [if_neg d2]
        exact Ev.all fun n => by rw [if_pos (by omega), if_neg (by omega)]
    · rw [if_neg c]
      exact Ev.all fun n => by rw [if_neg (by omega)]
  have J2 : ∀ b : Bool, b = (up && decide (k0 ≤ 9218868437227405311)) → Ev (fun n => flyballref05_Magnitude.j2 n (d : Int) (fl : Int) (k0 : Int) b)
      (if 9218868437227405312 ≤ k0 + (if up = true ∧ k0 ≤ 9218868437227405311 then 1 else 0) then ((if d = 2 then 9218868437227405311 else 9218868437227405312 : Int), (5 : Int))
       else (((k0 + (if up = true ∧ k0 ≤ 9218868437227405311 then 1 else 0) : Nat) : Int), (fl : Int))) := by
    intro b hb
    refine Ev.next ?_
    simp only [flyballref05_Magnitude.j2]
    by_cases c : up = true ∧ k0 ≤ 9218868437227405311
    · have hb' : b = true := by rw [hb, c.1, decide_eq_true c.2]; rfl
      have w : wrap64 ((k0 : Int) + 1) = ((k0 + 1 : Nat) : Int) := by rw [w64 (by omega) (by omega)]; omega
      rw [if_pos c, hb', w]
      exact Ev.congr (fun n => by rw [if_pos rfl]) (J3 (k0 + 1) (by omega) (fun h => h5 (by omega)))
    · have hb' : b = false := by
        rw [hb]; cases up
        · rfl
        · rw [decide_eq_false (fun h => c ⟨rfl, h⟩)]; rfl
      rw [if_neg c, hb', Nat.add_zero]
      exact Ev.congr (fun n => by rw [if_neg (by simp)]) (J3 k0 hk (fun h => h5 (by omega)))
  refine Ev.next ?_
  simp only [flyballref05_Magnitude.j1]
  by_cases c : k0 ≤ 9218868437227405311
  · exact Ev.congr (fun n => by rw [if_pos (by omega)]) (J2 up (by rw [decide_eq_true c, Bool.and_true]))
  · exact Ev.congr (fun n => by rw [if_neg (by omega)]) (J2 false (by rw [decide_eq_false c, Bool.and_false]))
theorem rmid_ev (A B : List Bool) (E : Int) (rest : Bool) (k : Nat) (hk : k ≤ 9218868437227405311) (hA : A.length < 10000) (hB : B.length < 10000) (hE : -10000 ≤ E ∧ E ≤ 10000) (hB0 : 0 < bv B) :
    ∃ m2 : List Bool, ∃ m1 : List Bool, Ev (fun n => flyballref01_Add.f n (List.replicate 1 false ++ tb (tm k) 64) (tb 1 64)) m1 ∧ m2 = m1 ∧
    Ev (fun n => flyballref05_cmp.f n A B E rest m2 (te k - 1)) (cmpX (FX (bv A) (bv B) E) (FS (bv A) (bv B) E rest) (magk k + magk (k + 1))) := by
  have h := te_bd k (by omega)
  have ht := tm_lt k
  obtain ⟨r, hr, h1, h2⟩ := rAdd_ev (List.replicate 1 false ++ tb (tm k) 64) (tb 1 64) (by rw [List.length_append, List.length_replicate, tb_len]; omega) (by rw [tb_len]; omega)
  rw [bv_shl, tb_bv 64 _ (by omega), tb_bv 64 1 (by decide)] at h1
  rw [List.length_append, List.length_replicate, tb_len, tb_len] at h2
  refine ⟨r, r, hr, rfl, ?_⟩
  have C := rcmp_ev A B r E (te k - 1) rest hA hB (by omega) hE (by omega) hB0
  rw [h1, Nat.pow_one, Nat.mul_comm (tm k) 2, mid_key] at C
  exact C
theorem up_near_aux (X Y : Nat) (s hh z o : Bool) (m1 : X < Y ↔ hh = false) (m2 : X ≤ Y ↔ hh = false ∨ z = false) :
    (if cmpX X s Y > 0 then true else if cmpX X s Y = 0 then o else false) = (hh && ((s || z) || o)) := by
  have g := cmpX_gt X s Y
  have e := cmpX_eq X s Y
  cases hh
  · have h := m1.2 rfl
    rw [if_neg (fun hc => by have := g.1 hc; omega), if_neg (fun hc => by have := (e.1 hc).1; omega)]; rfl
  · have n1 : ¬ X < Y := fun h => by have := m1.1 h; cases this
    cases z
    · have n2 : X = Y := by have := m2.2 (.inr rfl); omega
      cases s
      · rw [if_neg (fun hc => by rcases g.1 hc with h | h; omega; cases h.2), if_pos (e.2 ⟨n2, rfl⟩)]; rfl
      · rw [if_pos (g.2 (.inr ⟨n2.symm, rfl⟩))]; rfl
    · have n2 : Y < X := by
        by_cases c : X ≤ Y
        · rcases m2.1 c with h | h
          · cases h
          · cases h
        · omega
      rw [if_pos (g.2 (.inl n2))]; cases s <;> rfl
theorem up_near (X : Nat) (s : Bool) : (if cmpX X s (magk (fk X) + magk (fk X + 1)) > 0 then true else if cmpX X s (magk (fk X) + magk (fk X + 1)) = 0 then (fk X % 2 == 1) else false) = (hf X && (rs X s || X / 2 ^ sh X % 2 == 1)) := by
  rw [← odd_fk X]
  unfold rs
  refine up_near_aux X _ s (hf X) _ (fk X % 2 == 1) (mid_lt X) ?_
  rw [mid_le X, bne_eq_false_iff_eq]
end Go.Proofs.Ytmadjhmecfbcmaa.M
end
section
namespace Go.Proofs.Ytmadjhmecfbcmaa.M
open Go.RowKit Go.Proofs.YtmadjhmecfbcmaaW.PrintWords Go.Proofs.YtmadjhmecfbcmaaW.PrintLast Go.Proofs.YtmadjhmecfbcmaaW.PrintMore Go.Proofs.Ytmadjhmecfbcmaa.F
theorem top_if (up : Bool) : (if up = true ∧ 9218868437227405312 ≤ 9218868437227405311 then 1 else 0) = 0 := if_neg (fun h => absurd h.2 (by decide))
theorem mag_value (X : Nat) (s : Bool) (d fl : Nat) (up : Bool)
    (hfl : fl = if hf X || rs X s then (if X < 9007199254740992 then 3 else 1) else 0)
    (hup : fk X < 9218868437227405312 → up = upw X s d) :
    (if 9218868437227405312 ≤ fkc X + (if up = true ∧ fkc X ≤ 9218868437227405311 then 1 else 0) then ((if d = 2 then 9218868437227405311 else 9218868437227405312 : Int), (5 : Int))
       else (((fkc X + (if up = true ∧ fkc X ≤ 9218868437227405311 then 1 else 0) : Nat) : Int), (fl : Int))) = pr (rnd X s d) := by
  by_cases c : 9218868437227405312 ≤ fk X
  · have e : fkc X = 9218868437227405312 := by unfold fkc; rw [if_pos c]
    have hk : kk X s d ≥ 9218868437227405312 := by unfold kk; omega
    rw [e, top_if, Nat.add_zero, if_pos (Nat.le_refl _)]
    unfold rnd pr; rw [if_pos hk]
    by_cases d2 : d = 2
    · rw [if_pos d2, if_pos d2]; rfl
    · rw [if_neg d2, if_neg d2]; rfl
  · have e : fkc X = fk X := by unfold fkc; rw [if_neg c]
    have hu := hup (by omega)
    have hk : fkc X + (if up = true ∧ fkc X ≤ 9218868437227405311 then 1 else 0) = kk X s d := by
      unfold kk; rw [e, hu]; congr 1
      by_cases h : upw X s d = true
      · rw [if_pos ⟨h, by omega⟩, if_pos h]
      · rw [if_neg (fun g => h g.1), if_neg h]
    rw [hk]
    unfold rnd pr
    by_cases g : 9218868437227405312 ≤ kk X s d
    · rw [if_pos g, if_pos g]
      by_cases d2 : d = 2
      · rw [if_pos d2, if_pos d2]; rfl
      · rw [if_neg d2, if_neg d2]; rfl
    · rw [if_neg g, if_neg (show ¬ kk X s d ≥ 9218868437227405312 from g), hfl]
theorem big_X {X : Nat} (h : 9218868437227405311 ≤ fkc X) : ¬ X < 9007199254740992 := by
  intro hx
  have := fk_of_lt hx
  unfold fkc at h; split at h <;> omega
theorem rMag_ev (A B : List Bool) (E : Int) (rest : Bool) (d : Nat) (hA : A.length < 10000) (hB : B.length < 10000) (hE : -10000 ≤ E ∧ E ≤ 10000) (hB0 : 0 < bv B) :
    Ev (fun k => flyballref05_Magnitude.f k A B E rest (d : Int)) (pr (rnd (FX (bv A) (bv B) E) (FS (bv A) (bv B) E rest) d)) := by
  have F := rfloor_ev A B E rest hA hB hE hB0
  have hkc : fkc (FX (bv A) (bv B) E) ≤ 9218868437227405312 := by unfold fkc; split <;> omega
  have S := rsplit_ev _ hkc
  have C := rcmp_key A B E rest _ hkc hA hB hE hB0
  have O : Ev (fun k => flyballref01_Of.f k [1]) (tb 1 64) := rOf_ev 1 (by decide)
  have C2 := rcmp_ev A B (tb 1 64) E (-1022) rest hA hB (by rw [tb_len]; omega) hE (by omega) hB0
  rw [tb_bv 64 1 (by decide), Nat.one_mul, show ((-1022 : Int) + 1075).toNat = 53 from rfl] at C2
  have M := fun hk => rmid_ev A B E rest (fkc (FX (bv A) (bv B) E)) hk hA hB hE hB0
  have Mt := rmid_ev A B E rest 9218868437227405311 (by omega) hA hB hE hB0
  generalize hX : FX (bv A) (bv B) E = X at *
  generalize hs : FS (bv A) (bv B) E rest = s at *
  have hex : fk X < 9218868437227405312 → (cmpX X s (2 * magk (fkc X)) = 0 ↔ (hf X || rs X s) = false) := by
    intro c
    have e : fkc X = fk X := by unfold fkc; rw [if_neg (by omega)]
    rw [cmpX_eq, exact_iff, e]
  have J0 : ∀ (fl : Nat) (eq : Bool), (fl = 0 ∨ fl = 1 ∨ fl = 3) → (9218868437227405311 ≤ fkc X → fl ≠ 3) → (fk X < 9218868437227405312 → fl = if hf X || rs X s then (if X < 9007199254740992 then 3 else 1) else 0) → (fk X < 9218868437227405312 → eq = !(hf X || rs X s)) →
      Ev (fun k => flyballref05_Magnitude.j0 k (d : Int) (fl : Int) (fkc X : Int) eq (tb 1 64) A B E rest) (pr (rnd X s d)) := by
    intro fl eq h1 h2 h3 h4
    have V : ∀ up : Bool, (fk X < 9218868437227405312 → up = upw X s d) → Ev (fun n => flyballref05_Magnitude.j1 n (d : Int) (fl : Int) (fkc X : Int) up) (pr (rnd X s d)) := by
      intro up hup
      have J := mag_j1 d (fkc X) fl up hkc h1 h2
      by_cases c : fk X < 9218868437227405312
      · rw [mag_value X s d fl up (h3 c) hup] at J; exact J
      · have e : fkc X = 9218868437227405312 := by unfold fkc; rw [if_pos (by omega)]
        have g := mag_value X s d (if hf X || rs X s then (if X < 9007199254740992 then 3 else 1) else 0) up rfl hup
        rw [e, top_if, Nat.add_zero, if_pos (Nat.le_refl _)] at g
        rw [e, top_if, Nat.add_zero, if_pos (Nat.le_refl _), g, ← e] at J; exact J
    refine Ev.next ?_
    simp only [flyballref05_Magnitude.j0]
    by_cases d1 : d = 1
    · exact Ev.congr (fun k => by rw [if_pos (by omega)]) (V (!eq) (fun c => by rw [h4 c]; unfold upw; rw [if_pos d1, Bool.not_not]))
    · by_cases d2 : d = 2
      · exact Ev.congr (fun k => by rw [if_neg (by omega), if_pos (by omega)]) (V false (fun c => by unfold upw; rw [if_neg d1, if_pos d2]))
      · refine Ev.congr (fun k => by rw [if_neg (by omega), if_neg (by omega)]) (Ev.b _ S ?_)
        dsimp only
        by_cases c : fkc X ≤ 9218868437227405311
        · have c' : fk X < 9218868437227405312 := by unfold fkc at c; split at c <;> omega
          have e : fkc X = fk X := by unfold fkc; rw [if_neg (by omega)]
          obtain ⟨m2, m1, hm, rfl, hc⟩ := M c
          have w1 : wrap64 (te (fkc X) - 1) = te (fkc X) - 1 := by have := te_bd _ hkc; exact w64 (by omega) (by omega)
          have odd : (Int.tmod (fkc X : Int) 2 == 1) = (fk X % 2 == 1) := by
            rw [Int.tmod_eq_emod_of_nonneg (by omega), e, Bool.eq_iff_iff, beq_iff_eq, beq_iff_eq]; omega
          rw [w1, odd]
          have hu := up_near X s
          rw [e] at hc
          have sh1 : Ev (fun n => flyballref01_Shl.f n (tb (tm (fkc X)) 64) 1) (List.replicate 1 false ++ tb (tm (fkc X)) 64) := rShl_ev (tb (tm (fkc X)) 64) 1 (by omega) (by rw [tb_len]; omega)
          rw [← e] at hc
          refine Ev.congr (fun k => by rw [if_neg (by omega)]) (Ev.b _ sh1 (Ev.b _ hm (Ev.b _ hc ?_)))
          rw [e]
          have U : ∀ b : Bool, (if cmpX X s (magk (fk X) + magk (fk X + 1)) > 0 then true else if cmpX X s (magk (fk X) + magk (fk X + 1)) = 0 then (fk X % 2 == 1) else false) = b → Ev (fun n => flyballref05_Magnitude.j1 n (d : Int) (fl : Int) (fk X : Int) b) (pr (rnd X s d)) := by
            intro b hb
            have := V b (fun _ => by rw [← hb, hu]; unfold upw; rw [if_neg d1, if_neg d2])
            rw [e] at this; exact this
          by_cases g1 : cmpX X s (magk (fk X) + magk (fk X + 1)) > 0
          · exact Ev.congr (fun k => by rw [if_pos g1]) (U true (by rw [if_pos g1]))
          · by_cases g2 : cmpX X s (magk (fk X) + magk (fk X + 1)) = 0
            · exact Ev.congr (fun k => by rw [if_neg g1, if_pos g2]) (U _ (by rw [if_neg g1, if_pos g2]))
            · exact Ev.congr (fun k => by rw [if_neg g1, if_neg g2]) (U false (by rw [if_neg g1, if_neg g2]))
        · have c' : ¬ fk X < 9218868437227405312 := by unfold fkc at c; split at c <;> omega
          obtain ⟨m2, m1, hm, rfl, hc⟩ := Mt
          have St := rsplit_ev 9218868437227405311 (by omega)
          rw [show ((9218868437227405311 : Nat) : Int) = 9218868437227405311 from rfl] at St
          obtain ⟨r, hr, r1, r2⟩ := rAdd_ev (tb (tm 9218868437227405311) 64) (tb 1 64) (by rw [tb_len]; omega) (by rw [tb_len]; omega)
          rw [tb_len, tb_len] at r2
          have sh1 : Ev (fun n => flyballref01_Shl.f n r 1) (List.replicate 1 false ++ r) := rShl_ev r 1 (by omega) (by omega)
          obtain ⟨r', hr', r1', r2'⟩ := rAdd_ev (List.replicate 1 false ++ r) (tb 1 64) (by rw [List.length_append, List.length_replicate]; omega) (by rw [tb_len]; omega)
          rw [List.length_append, List.length_replicate, tb_len] at r2'
          have tb2 := te_bd 9218868437227405311 (by omega)
          have C3 := rcmp_ev A B r' E (te 9218868437227405311 - 1) rest hA hB (by omega) hE (by omega) hB0
          have w1 : wrap64 (te 9218868437227405311 - 1) = te 9218868437227405311 - 1 := w64 (by omega) (by omega)
          have W : ∀ b : Bool, Ev (fun n => flyballref05_Magnitude.j1 n (d : Int) (fl : Int) (fkc X : Int) b) (pr (rnd X s d)) := fun b => V b (fun h => absurd h c')
          refine Ev.congr (fun k => by rw [if_pos (by omega)]) (Ev.b _ St ?_)
          dsimp only
          rw [w1]
          refine Ev.b _ hr (Ev.b _ sh1 (Ev.b _ hr' (Ev.b _ C3 ?_)))
          generalize cmpX (FX (bv A) (bv B) E) (FS (bv A) (bv B) E rest) (bv r' * 2 ^ (te 9218868437227405311 - 1 + 1075).toNat) = g
          by_cases g1 : g > 0
          · exact Ev.congr (fun k => by rw [if_pos g1]) (W true)
          · by_cases g2 : g = 0
            · exact Ev.congr (fun k => by rw [if_neg g1, if_pos g2]) (W _)
            · exact Ev.congr (fun k => by rw [if_neg g1, if_neg g2]) (W false)
  unfold flyballref05_Magnitude.f
  refine Ev.b _ F (Ev.b _ S ?_)
  dsimp only
  refine Ev.b _ C (Ev.b _ O ?_)
  by_cases z : cmpX X s (2 * magk (fkc X)) = 0
  · have J := J0 0 true (.inl rfl) (fun _ => by omega) (fun c => by rw [(hex c).1 z]; rfl) (fun c => by rw [(hex c).1 z]; rfl)
    rw [beq_iff_eq.2 z]
    rw [show ((0 : Nat) : Int) = 0 from rfl] at J
    exact Ev.congr (fun k => by rw [if_pos z]) J
  · have z' : (cmpX X s (2 * magk (fkc X)) == 0) = false := beq_eq_false_iff_ne.2 z
    have hin : fk X < 9218868437227405312 → (hf X || rs X s) = true := by
      intro c
      cases h : (hf X || rs X s)
      · exact absurd ((hex c).2 h) z
      · rfl
    rw [z']
    refine Ev.congr (fun k => by rw [if_neg z]) (Ev.b _ C2 ?_)
    rw [or8.1, or8.2.1]
    by_cases lt : X < 9007199254740992
    · have J := J0 3 false (.inr (.inr rfl)) (fun h => absurd lt (big_X h)) (fun c => by rw [hin c, if_pos rfl, if_pos lt]) (fun c => by rw [hin c]; rfl)
      rw [show ((3 : Nat) : Int) = 3 from rfl] at J
      exact Ev.congr (fun k => by rw [if_pos ((cmpX_lt _ _ _).2 lt)]) J
    · have J := J0 1 false (.inr (.inl rfl)) (fun h => by omega) (fun c => by rw [hin c, if_pos rfl, if_neg lt]) (fun c => by rw [hin c]; rfl)
      rw [show ((1 : Nat) : Int) = 1 from rfl] at J
      exact Ev.congr (fun k => by rw [if_neg (fun h => lt ((cmpX_lt _ _ _).1 h))]) J
end Go.Proofs.Ytmadjhmecfbcmaa.M
end
section
namespace Go.Proofs.Ytmadjhmecfbcmaa.M
open Go.RowKit Go.Proofs.YtmadjhmecfbcmaaW.PrintWords Go.Proofs.YtmadjhmecfbcmaaW.PrintLast Go.Proofs.YtmadjhmecfbcmaaW.PrintMore Go.Proofs.Ytmadjhmecfbcmaa.F
theorem rnd_le (X : Nat) (s : Bool) (d : Nat) : (rnd X s d).1 ≤ 9218868437227405312 := by
  unfold rnd
  by_cases h : kk X s d ≥ 9218868437227405312
  · rw [if_pos h]
    by_cases d2 : d = 2
    · rw [if_pos d2]; decide
    · rw [if_neg d2]; decide
  · rw [if_neg h]; exact Nat.le_of_lt (Nat.lt_of_not_le h)
theorem rSigned_ev (neg : Bool) (A B : List Bool) (E : Int) (rest : Bool) (mode : Nat) (hA : A.length < 10000) (hB : B.length < 10000) (hE : -10000 ≤ E ∧ E ≤ 10000) (hB0 : 0 < bv B) :
    Ev (fun k => flyballref05_Signed.f k neg A B E rest (mode : Int)) (pr (RND neg (FX (bv A) (bv B) E) (FS (bv A) (bv B) E rest) mode)) := by
  have J1 : ∀ w : Nat, Ev (fun k => flyballref05_Signed.j1 k neg (w : Int) A B E rest) (pr (sg neg + (rnd (FX (bv A) (bv B) E) (FS (bv A) (bv B) E rest) w).1, (rnd (FX (bv A) (bv B) E) (FS (bv A) (bv B) E rest) w).2)) := by
    intro w
    have M := rMag_ev A B E rest w hA hB hE hB0
    have hle := rnd_le (FX (bv A) (bv B) E) (FS (bv A) (bv B) E rest) w
    refine Ev.next ?_
    simp only [flyballref05_Signed.j1]
    refine Ev.b _ M ?_
    obtain ⟨r, hr⟩ : ∃ r, rnd (FX (bv A) (bv B) E) (FS (bv A) (bv B) E rest) w = r := ⟨_, rfl⟩
    rw [hr] at hle ⊢
    unfold pr
    dsimp only
    cases neg
    · have O := Of_ok false r.1 hle (r.1 : Int) rfl
      exact Ev.congr (fun k => by rw [if_neg (by simp)]) (Ev.b (f := fun _ x => some (x, (r.2 : Int))) _ O (Ev.now _))
    · have O := Of_ok true r.1 hle (wrap64 (-(r.1 : Int))) (by rw [w64 (by omega) (by omega)]; rfl)
      exact Ev.congr (fun k => by rw [if_pos rfl]) (Ev.b (f := fun _ x => some (x, (r.2 : Int))) _ O (Ev.now _))
  have hR : ∀ w, dir neg mode = w ∨ rnd (FX (bv A) (bv B) E) (FS (bv A) (bv B) E rest) (dir neg mode) = rnd (FX (bv A) (bv B) E) (FS (bv A) (bv B) E rest) w →
      pr (sg neg + (rnd (FX (bv A) (bv B) E) (FS (bv A) (bv B) E rest) w).1, (rnd (FX (bv A) (bv B) E) (FS (bv A) (bv B) E rest) w).2) = pr (RND neg (FX (bv A) (bv B) E) (FS (bv A) (bv B) E rest) mode) := by
    rintro w (h | h)
    · unfold RND; rw [h]
    · unfold RND; rw [h]
  have other : ∀ w X s, w ≠ 1 → w ≠ 2 → rnd X s 0 = rnd X s w := by
    intro w X s h1 h2
    have e : kk X s 0 = kk X s w := by unfold kk upw; rw [if_neg (show ¬ (0 : Nat) = 1 by decide), if_neg (show ¬ (0 : Nat) = 2 by decide), if_neg h1, if_neg h2]
    unfold rnd; rw [e, if_neg (show ¬ (0 : Nat) = 2 by decide), if_neg h2]
  have j1 := J1 1
  have j2 := J1 2
  rw [show ((1 : Nat) : Int) = 1 from rfl] at j1
  rw [show ((2 : Nat) : Int) = 2 from rfl] at j2
  unfold flyballref05_Signed.f
  by_cases m1 : mode = 1
  · have e0 : (mode : Int) = 1 := by omega
    rw [e0]
    cases neg
    · rw [hR 1 (.inl (by unfold dir; rw [if_pos m1]; rfl))] at j1
      refine Ev.congr (fun k => by rw [if_neg (by simp)]) (Ev.next ?_)
      simp only [flyballref05_Signed.j0]
      exact Ev.congr (fun k => by rw [if_neg (by simp), if_neg (by simp)]) j1
    · rw [hR 2 (.inl (by unfold dir; rw [if_pos m1]; rfl))] at j2
      have b1 : ((1 : Int) == 1) = true := rfl
      refine Ev.congr (fun k => by rw [if_pos rfl, b1]) (Ev.next ?_)
      simp only [flyballref05_Signed.j0]
      exact Ev.congr (fun k => by rw [if_pos trivial]) j2
  · have e1 : ((mode : Int) == 1) = false := by rw [beq_eq_false_iff_ne]; omega
    by_cases m2 : mode = 2
    · have e0 : (mode : Int) = 2 := by omega
      rw [e0]
      cases neg
      · rw [hR 2 (.inl (by unfold dir; rw [if_neg m1, if_pos m2]; rfl))] at j2
        refine Ev.congr (fun k => by rw [if_neg (by simp)]) (Ev.next ?_)
        simp only [flyballref05_Signed.j0]
        exact Ev.congr (fun k => by rw [if_neg (by simp), if_neg (by simp)]) j2
      · rw [hR 1 (.inl (by unfold dir; rw [if_neg m1, if_pos m2]; rfl))] at j1
        have b1 : ((2 : Int) == 1) = false := rfl
        refine Ev.congr (fun k => by rw [if_pos rfl, b1]) (Ev.next ?_)
        simp only [flyballref05_Signed.j0]
        exact Ev.congr (fun k => by rw [if_neg (by simp), if_pos trivial, if_pos trivial]) j1
    · have jm := J1 mode
      rw [hR mode (.inr (by
        have : dir neg mode = 0 := by unfold dir; rw [if_neg m1, if_neg m2]
        rw [this]; exact other _ _ _ m1 m2))] at jm
      cases neg
      · refine Ev.congr (fun k => by rw [if_neg (by simp)]) (Ev.next ?_)
        simp only [flyballref05_Signed.j0]
        exact Ev.congr (fun k => by rw [if_neg (by simp), if_neg (by simp)]) jm
      · refine Ev.congr (fun k => by rw [if_pos rfl, e1]) (Ev.next ?_)
        simp only [flyballref05_Signed.j0]
        exact Ev.congr (fun k => by rw [if_neg (by simp), if_pos trivial, if_neg (by omega)]) jm
theorem rRound_ev (neg : Bool) (m : List Bool) (e : Int) (rest : Bool) (mode : Nat) (hm : m.length < 10000) :
    Ev (fun k => flyballref05_Round.f k neg m e rest (mode : Int))
      (if bv m = 0 then ((sg neg : Int), 0) else pr (RND neg (FX (bv m) 1 (cl e)) (FS (bv m) 1 (cl e) (rest && decide (53 < bl (bv m)))) mode)) := by
  have L := rLen_ev m (by omega)
  have hbl := bl_len m
  unfold flyballref05_Round.f
  refine Ev.b _ L ?_
  by_cases c : bv m = 0
  · rw [if_pos c]
    have : (bl (bv m) : Int) = 0 := by rw [c]; rfl
    have O := Of_ok neg 0 (by omega) 0 (by cases neg <;> rfl)
    refine Ev.congr (fun k => by rw [if_pos this]) (Ev.b (f := fun _ x => some (x, (0 : Int))) _ O (Ev.now _))
  · rw [if_neg c]
    have h1 := (bl_bd _ c).1
    have e1 : mn (mx e (-5000)) 5000 = cl e := by rw [mx_eq, mn_eq]; rfl
    have e2 : decide ((bl (bv m) : Int) ≥ 54) = decide (53 < bl (bv m)) := by rw [Bool.eq_iff_iff, decide_eq_true_iff, decide_eq_true_iff]; omega
    have ht := bv_take_bl m
    have hl : (m.take (bl (bv m))).length < 10000 := by rw [List.length_take]; omega
    have hc : -5000 ≤ cl e ∧ cl e ≤ 5000 := by unfold cl; omega
    have S := fun r => rSigned_ev neg (m.take (bl (bv m))) [true] (cl e) r mode hl (by decide) (by omega) (by decide)
    have b1 : bv [true] = 1 := rfl
    rw [ht, b1] at S
    rw [e1, e2, Int.toNat_natCast]
    cases rest
    · exact Ev.congr (fun k => by rw [if_neg (by omega), if_pos (by omega), if_pos (by omega), Option.bind_some, if_neg (by simp)]) (Ev.b (f := fun _ x => some (x.1, x.2)) _ (S false) (Ev.now _))
    · exact Ev.congr (fun k => by rw [if_neg (by omega), if_pos (by omega), if_pos (by omega), Option.bind_some, if_pos rfl]) (Ev.b (f := fun _ x => some (x.1, x.2)) _ (S (decide (53 < bl (bv m)))) (Ev.now _))
end Go.Proofs.Ytmadjhmecfbcmaa.M
end
section
namespace Go.Proofs.Ytmadjhmecfbcmaa.M
open Go.RowKit Go.Proofs.YtmadjhmecfbcmaaW.PrintWords Go.Proofs.YtmadjhmecfbcmaaW.PrintLast Go.Proofs.YtmadjhmecfbcmaaW.PrintMore Go.Proofs.Ytmadjhmecfbcmaa.F
theorem is4 (a : Nat) (h : U a) : Ev (fun k => flyballref06_is.f k (a : Int) 4) (decide (cls a = 4)) := ref_is_ev a 4 h
theorem is3 (a : Nat) (h : U a) : Ev (fun k => flyballref06_is.f k (a : Int) 3) (decide (cls a = 3)) := ref_is_ev a 3 h
theorem is0 (a : Nat) (h : U a) : Ev (fun k => flyballref06_is.f k (a : Int) 0) (decide (cls a = 0)) := ref_is_ev a 0 h
end Go.Proofs.Ytmadjhmecfbcmaa.M
end
section
namespace Go.Proofs.Ytmadjhmecfbcmaa.M
open Go.RowKit Go.Proofs.YtmadjhmecfbcmaaW.PrintWords Go.Proofs.YtmadjhmecfbcmaaW.PrintLast Go.Proofs.YtmadjhmecfbcmaaW.PrintMore Go.Proofs.Ytmadjhmecfbcmaa.F
theorem rMul_j2 (a b mode : Nat) (ha : U a) (hb : U b) (c4 : ¬ (cls a = 4 ∨ cls b = 4)) (c5 : ¬ (cls a = 3 ∧ cls b = 0 ∨ cls a = 0 ∧ cls b = 3)) :
    Ev (fun k => flyballref06_Mul.j2 k (a : Int) (b : Int) (mode : Int) (sgn a != sgn b) (decide (cls a = 3 ∨ cls b = 3))) (pr (sMul a b mode)) := by
  have la := cls_le a
  have lb := cls_le b
  refine Ev.next ?_
  simp only [flyballref06_Mul.j2]
  by_cases c3 : cls a = 3 ∨ cls b = 3
  · have hS : sMul a b mode = (sg (sgn a != sgn b) + INF, 0) := by unfold sMul; rw [if_neg c4, if_neg c5, if_pos c3]
    rw [hS, decide_eq_true c3]
    refine Ev.congr (fun k => by rw [if_pos rfl]) ?_
    exact Ev.b (f := fun _ x => some (x, (0 : Int))) _ (Ev.const (ref_inf_ok _)) (Ev.now _)
  rw [decide_eq_false c3]
  have ea := spe_bd a
  have eb := spe_bd b
  have sa := spm_lt a
  have sb := spm_lt b
  obtain ⟨A, hA, A1, A2⟩ := rbits_ev (spm a) (by omega)
  obtain ⟨B, hB, B1, B2⟩ := rbits_ev (spm b) (by omega)
  have a3 : A.length ≤ 53 := by rw [A2]; exact bl_le (n := 53) sa
  have b3 : B.length ≤ 53 := by rw [B2]; exact bl_le (n := 53) sb
  obtain ⟨P, hP, P1, P2⟩ := rMul_ev A B (by omega) (by omega)
  have R := rRound_ev (sgn a != sgn b) P (spe a + spe b) false mode (by omega)
  have w : wrap64 (spe a + spe b) = spe a + spe b := w64 (by omega) (by omega)
  rw [P1, A1, B1, cl_id (by omega) (by omega), Bool.false_and] at R
  have hS : sMul a b mode = if spm a * spm b = 0 then (sg (sgn a != sgn b), 0) else RND (sgn a != sgn b) (FX (spm a * spm b) 1 (spe a + spe b)) (FS (spm a * spm b) 1 (spe a + spe b) false) mode := by
    unfold sMul; rw [if_neg c4, if_neg c5, if_neg c3]
  have hR : (if spm a * spm b = 0 then ((sg (sgn a != sgn b) : Int), (0 : Int)) else pr (RND (sgn a != sgn b) (FX (spm a * spm b) 1 (spe a + spe b)) (FS (spm a * spm b) 1 (spe a + spe b) false) mode)) = pr (sMul a b mode) := by
    rw [hS]; by_cases z : spm a * spm b = 0
    · rw [if_pos z, if_pos z]; rfl
    · rw [if_neg z, if_neg z]
  rw [hR] at R
  refine Ev.congr (fun k => by rw [if_neg (by simp)]) ?_
  refine Ev.b _ (ref_Split_ev a ha) ?_
  refine Ev.b _ (ref_Split_ev b hb) ?_
  dsimp only
  rw [w]
  refine Ev.b _ hA ?_
  refine Ev.b _ hB ?_
  refine Ev.b _ hP ?_
  exact Ev.b (f := fun _ x => some (x.1, x.2)) _ R (Ev.now _)
theorem rMul_j1 (a b mode : Nat) (ha : U a) (hb : U b) (c4 : ¬ (cls a = 4 ∨ cls b = 4)) :
    Ev (fun k => flyballref06_Mul.j1 k (a : Int) (b : Int) (mode : Int) (decide (cls a = 3 ∧ cls b = 0 ∨ cls a = 0 ∧ cls b = 3))) (pr (sMul a b mode)) := by
  refine Ev.next ?_
  simp only [flyballref06_Mul.j1]
  by_cases c5 : cls a = 3 ∧ cls b = 0 ∨ cls a = 0 ∧ cls b = 3
  · have hS : sMul a b mode = (QN, 16) := by unfold sMul; rw [if_neg c4, if_pos c5]
    rw [hS, decide_eq_true c5]
    exact Ev.all fun k => by rw [if_pos rfl]; rfl
  rw [decide_eq_false c5]
  have J := rMul_j2 a b mode ha hb c4 c5
  refine Ev.congr (fun k => by rw [if_neg (by simp)]) ?_
  refine Ev.b _ (Ev.const (ref_neg_ok a)) ?_
  refine Ev.b _ (Ev.const (ref_neg_ok b)) ?_
  refine Ev.b _ (is3 a ha) ?_
  by_cases a3 : cls a = 3
  · rw [decide_eq_true (.inl a3)] at J
    rw [decide_eq_true a3]
    exact Ev.congr (fun k => by rw [if_pos rfl]) J
  · have : decide (cls a = 3 ∨ cls b = 3) = decide (cls b = 3) := by rw [Bool.eq_iff_iff, decide_eq_true_iff, decide_eq_true_iff]; omega
    rw [this] at J
    rw [decide_eq_false a3]
    refine Ev.congr (fun k => by rw [if_neg (by simp)]) ?_
    exact Ev.b _ (is3 b hb) J
theorem rMul_j0 (a b mode : Nat) (ha : U a) (hb : U b) :
    Ev (fun k => flyballref06_Mul.j0 k (a : Int) (b : Int) (mode : Int) (decide (cls a = 4 ∨ cls b = 4))) (pr (sMul a b mode)) := by
  refine Ev.next ?_
  simp only [flyballref06_Mul.j0]
  by_cases c4 : cls a = 4 ∨ cls b = 4
  · have hS : sMul a b mode = (QN, 0) := by unfold sMul; rw [if_pos c4]
    rw [hS, decide_eq_true c4]
    exact Ev.all fun k => by rw [if_pos rfl]; rfl
  rw [decide_eq_false c4]
  have J := rMul_j1 a b mode ha hb c4
  refine Ev.congr (fun k => by rw [if_neg (by simp)]) ?_
  refine Ev.b _ (is3 a ha) ?_
  by_cases a3 : cls a = 3
  · have a0 : ¬ cls a = 0 := by omega
    rw [decide_eq_true a3]
    refine Ev.congr (fun k => by rw [if_pos rfl]) ?_
    refine Ev.b _ (is0 b hb) ?_
    by_cases b0 : cls b = 0
    · rw [decide_eq_true (.inl ⟨a3, b0⟩)] at J
      rw [decide_eq_true b0]
      exact Ev.congr (fun k => by rw [if_pos rfl]) J
    · rw [decide_eq_false (by omega)] at J
      rw [decide_eq_false b0]
      refine Ev.congr (fun k => by rw [if_neg (by simp)]) ?_
      refine Ev.b _ (is0 a ha) ?_
      rw [decide_eq_false a0]
      exact Ev.congr (fun k => by rw [if_neg (by simp)]) J
  · rw [decide_eq_false a3]
    refine Ev.congr (fun k => by rw [if_neg (by simp)]) ?_
    refine Ev.b _ (is0 a ha) ?_
    by_cases a0 : cls a = 0
    · have : decide (cls a = 3 ∧ cls b = 0 ∨ cls a = 0 ∧ cls b = 3) = decide (cls b = 3) := by rw [Bool.eq_iff_iff, decide_eq_true_iff, decide_eq_true_iff]; omega
      rw [this] at J
      rw [decide_eq_true a0]
      refine Ev.congr (fun k => by rw [if_pos rfl]) ?_
      exact Ev.b _ (is3 b hb) J
    · rw [decide_eq_false (by omega)] at J
      rw [decide_eq_false a0]
      exact Ev.congr (fun k => by rw [if_neg (by simp)]) J
theorem or4 (a b : Nat) (h : ¬ cls a = 4) : decide (cls a = 4 ∨ cls b = 4) = decide (cls b = 4) := by
  rw [Bool.eq_iff_iff, decide_eq_true_iff, decide_eq_true_iff]; omega
theorem rDiv_j2 (a b mode : Nat) (ha : U a) (hb : U b) (c4 : ¬ (cls a = 4 ∨ cls b = 4)) (c5 : ¬ (cls a = 3 ∧ cls b = 3 ∨ cls a = 0 ∧ cls b = 0)) (a3 : ¬ cls a = 3) (b0 : ¬ cls b = 0) :
    Ev (fun k => flyballref06_Div.j2 k (a : Int) (b : Int) (mode : Int) (sgn a != sgn b) (decide (cls a = 0 ∨ cls b = 3))) (pr (sDiv a b mode)) := by
  have la := cls_le a
  have lb := cls_le b
  refine Ev.next ?_
  simp only [flyballref06_Div.j2]
  by_cases c3 : cls a = 0 ∨ cls b = 3
  · have hS : sDiv a b mode = (sg (sgn a != sgn b), 0) := by unfold sDiv; rw [if_neg c4, if_neg c5, if_neg a3, if_neg b0, if_pos c3]
    rw [hS, decide_eq_true c3]
    refine Ev.congr (fun k => by rw [if_pos rfl]) ?_
    exact Ev.b (f := fun _ x => some (x, (0 : Int))) _ (Ev.const (ref_zero_ok _)) (Ev.now _)
  rw [decide_eq_false c3]
  have hS : sDiv a b mode = RND (sgn a != sgn b) (FX (spm a) (spm b) (spe a - spe b)) (FS (spm a) (spm b) (spe a - spe b) false) mode := by
    unfold sDiv; rw [if_neg c4, if_neg c5, if_neg a3, if_neg b0, if_neg c3]
  have ea := spe_bd a
  have eb := spe_bd b
  have sa := spm_lt a
  have sb := spm_lt b
  have zb : spm b ≠ 0 := fun h => b0 ((spm_zero b (by omega)).1 h)
  obtain ⟨A, hA, A1, A2⟩ := rbits_ev (spm a) (by omega)
  obtain ⟨B, hB, B1, B2⟩ := rbits_ev (spm b) (by omega)
  have a3 : A.length ≤ 53 := by rw [A2]; exact bl_le (n := 53) sa
  have b3 : B.length ≤ 53 := by rw [B2]; exact bl_le (n := 53) sb
  have R := rSigned_ev (sgn a != sgn b) A B (spe a - spe b) false mode (by omega) (by omega) (by omega) (by omega)
  have w : wrap64 (spe a - spe b) = spe a - spe b := w64 (by omega) (by omega)
  rw [A1, B1, ← hS] at R
  refine Ev.congr (fun k => by rw [if_neg (by simp)]) ?_
  refine Ev.b _ (ref_Split_ev a ha) ?_
  refine Ev.b _ (ref_Split_ev b hb) ?_
  dsimp only
  rw [w]
  refine Ev.b _ hA ?_
  refine Ev.b _ hB ?_
  exact Ev.b (f := fun _ x => some (x.1, x.2)) _ R (Ev.now _)
theorem rDiv_j1 (a b mode : Nat) (ha : U a) (hb : U b) (c4 : ¬ (cls a = 4 ∨ cls b = 4)) :
    Ev (fun k => flyballref06_Div.j1 k (a : Int) (b : Int) (mode : Int) (decide (cls a = 3 ∧ cls b = 3 ∨ cls a = 0 ∧ cls b = 0))) (pr (sDiv a b mode)) := by
  refine Ev.next ?_
  simp only [flyballref06_Div.j1]
  by_cases c5 : cls a = 3 ∧ cls b = 3 ∨ cls a = 0 ∧ cls b = 0
  · have hS : sDiv a b mode = (QN, 16) := by unfold sDiv; rw [if_neg c4, if_pos c5]
    rw [hS, decide_eq_true c5]
    exact Ev.all fun k => by rw [if_pos rfl]; rfl
  rw [decide_eq_false c5]
  refine Ev.congr (fun k => by rw [if_neg (by simp)]) ?_
  refine Ev.b _ (Ev.const (ref_neg_ok a)) ?_
  refine Ev.b _ (Ev.const (ref_neg_ok b)) ?_
  refine Ev.b _ (is3 a ha) ?_
  by_cases a3 : cls a = 3
  · have hS : sDiv a b mode = (sg (sgn a != sgn b) + INF, 0) := by unfold sDiv; rw [if_neg c4, if_neg c5, if_pos a3]
    rw [decide_eq_true a3, hS]
    refine Ev.congr (fun k => by rw [if_pos rfl]) ?_
    exact Ev.b (f := fun _ x => some (x, (0 : Int))) _ (Ev.const (ref_inf_ok _)) (Ev.now _)
  rw [decide_eq_false a3]
  refine Ev.congr (fun k => by rw [if_neg (by simp)]) ?_
  refine Ev.b _ (is0 b hb) ?_
  by_cases b0 : cls b = 0
  · have hS : sDiv a b mode = (sg (sgn a != sgn b) + INF, 8) := by unfold sDiv; rw [if_neg c4, if_neg c5, if_neg a3, if_pos b0]
    rw [decide_eq_true b0, hS]
    refine Ev.congr (fun k => by rw [if_pos rfl]) ?_
    exact Ev.b (f := fun _ x => some (x, (8 : Int))) _ (Ev.const (ref_inf_ok _)) (Ev.now _)
  rw [decide_eq_false b0]
  have J := rDiv_j2 a b mode ha hb c4 c5 a3 b0
  refine Ev.congr (fun k => by rw [if_neg (by simp)]) ?_
  refine Ev.b _ (is0 a ha) ?_
  by_cases a0 : cls a = 0
  · rw [decide_eq_true (.inl a0)] at J
    rw [decide_eq_true a0]
    exact Ev.congr (fun k => by rw [if_pos rfl]) J
  · have : decide (cls a = 0 ∨ cls b = 3) = decide (cls b = 3) := by rw [Bool.eq_iff_iff, decide_eq_true_iff, decide_eq_true_iff]; omega
    rw [this] at J
    rw [decide_eq_false a0]
    refine Ev.congr (fun k => by rw [if_neg (by simp)]) ?_
    exact Ev.b _ (is3 b hb) J
theorem rDiv_j0 (a b mode : Nat) (ha : U a) (hb : U b) :
    Ev (fun k => flyballref06_Div.j0 k (a : Int) (b : Int) (mode : Int) (decide (cls a = 4 ∨ cls b = 4))) (pr (sDiv a b mode)) := by
  refine Ev.next ?_
  simp only [flyballref06_Div.j0]
  by_cases c4 : cls a = 4 ∨ cls b = 4
  · have hS : sDiv a b mode = (QN, 0) := by unfold sDiv; rw [if_pos c4]
    rw [hS, decide_eq_true c4]
    exact Ev.all fun k => by rw [if_pos rfl]; rfl
  rw [decide_eq_false c4]
  have J := rDiv_j1 a b mode ha hb c4
  refine Ev.congr (fun k => by rw [if_neg (by simp)]) ?_
  refine Ev.b _ (is3 a ha) ?_
  by_cases a3 : cls a = 3
  · have a0 : ¬ cls a = 0 := by omega
    rw [decide_eq_true a3]
    refine Ev.congr (fun k => by rw [if_pos rfl]) ?_
    refine Ev.b _ (is3 b hb) ?_
    by_cases b0 : cls b = 3
    · rw [decide_eq_true (.inl ⟨a3, b0⟩)] at J
      rw [decide_eq_true b0]
      exact Ev.congr (fun k => by rw [if_pos rfl]) J
    · rw [decide_eq_false (by omega)] at J
      rw [decide_eq_false b0]
      refine Ev.congr (fun k => by rw [if_neg (by simp)]) ?_
      refine Ev.b _ (is0 a ha) ?_
      rw [decide_eq_false a0]
      exact Ev.congr (fun k => by rw [if_neg (by simp)]) J
  · rw [decide_eq_false a3]
    refine Ev.congr (fun k => by rw [if_neg (by simp)]) ?_
    refine Ev.b _ (is0 a ha) ?_
    by_cases a0 : cls a = 0
    · have : decide (cls a = 3 ∧ cls b = 3 ∨ cls a = 0 ∧ cls b = 0) = decide (cls b = 0) := by rw [Bool.eq_iff_iff, decide_eq_true_iff, decide_eq_true_iff]; omega
      rw [this] at J
      rw [decide_eq_true a0]
      refine Ev.congr (fun k => by rw [if_pos rfl]) ?_
      exact Ev.b _ (is0 b hb) J
    · rw [decide_eq_false (by omega)] at J
      rw [decide_eq_false a0]
      exact Ev.congr (fun k => by rw [if_neg (by simp)]) J
theorem refDiv_ev (a b mode : Nat) (ha : U a) (hb : U b) : Ev (fun k => flyballref06_Div.f k (a : Int) (b : Int) (mode : Int)) (pr (sDiv a b mode)) := by
  have J0 := rDiv_j0 a b mode ha hb
  unfold flyballref06_Div.f
  refine Ev.b _ (is4 a ha) ?_
  by_cases a4 : cls a = 4
  · rw [decide_eq_true (.inl a4)] at J0
    rw [decide_eq_true a4]
    exact Ev.congr (fun k => by rw [if_pos rfl]) J0
  · rw [decide_eq_false a4]
    rw [or4 a b a4] at J0
    refine Ev.congr (fun k => by rw [if_neg (by simp)]) ?_
    exact Ev.b _ (is4 b hb) J0
end Go.Proofs.Ytmadjhmecfbcmaa.M
end
section
namespace Go.Proofs.Ytmadjhmecfbcmaa.M
open Go.RowKit Go.Proofs.YtmadjhmecfbcmaaW.PrintWords Go.Proofs.YtmadjhmecfbcmaaW.PrintLast Go.Proofs.YtmadjhmecfbcmaaW.PrintMore Go.Proofs.Ytmadjhmecfbcmaa.F
def low (l : List Bool) (j : Nat) : Prop := ∀ i, i < j → l.getD i false = false
end Go.Proofs.Ytmadjhmecfbcmaa.M
end
section
namespace Go.Proofs.Ytmadjhmecfbcmaa.M
open Go.RowKit Go.Proofs.YtmadjhmecfbcmaaW.PrintWords Go.Proofs.YtmadjhmecfbcmaaW.PrintLast Go.Proofs.YtmadjhmecfbcmaaW.PrintMore Go.Proofs.Ytmadjhmecfbcmaa.F
theorem c1 : sAdd 4607182418800017408 4368491638549381120 0 = (4607182418800017408, 1) := by decide +kernel
theorem c2 : (sAdd 4607182418800017408 4368491638549381120 1).1 = 4607182418800017409 := by decide +kernel
theorem c3 : (sAdd 4607182418800017408 (ng 4607182418800017408) 0).1 = 0 := by decide +kernel
theorem c4' : (sAdd 4607182418800017408 (ng 4607182418800017408) 2).1 = 9223372036854775808 := by decide +kernel
theorem c5 : sDiv 13830554455654793216 0 0 = (18442240474082181120, 8) := by decide +kernel
theorem c6 : (sSqrt 4611686018427387904 0).1 = 4609047870845172685 := by decide +kernel
theorem c7 : sMul 0 9218868437227405312 0 = (QN, 16) := by decide +kernel
theorem c8 : sSum 0 0 [4607182418800017408, 4607182418800017408, 4607182418800017408] = 4613937818241073152 := by decide +kernel
theorem wf_u64 {x : Int} (h : (Lit.int .u64 x).wf = true) : ∃ a : Nat, x = a ∧ U a := by
  have h2 := (Bool.and_eq_true _ _).mp h
  have h0 : (0 : Int) ≤ x := of_decide_eq_true h2.1
  have h1 : x ≤ 18446744073709551615 := of_decide_eq_true h2.2
  exact ⟨x.toNat, by omega, by unfold U; omega⟩
theorem wf_u8 {x : Int} (h : (Lit.int .u8 x).wf = true) : ∃ a : Nat, x = a ∧ a < 256 := by
  have h2 := (Bool.and_eq_true _ _).mp h
  have h0 : (0 : Int) ≤ x := of_decide_eq_true h2.1
  have h1 : x ≤ 255 := of_decide_eq_true h2.2
  exact ⟨x.toNat, by omega, by omega⟩
theorem Ev.ex {α : Type} {g : Nat → Option α} {r : α} (h : Ev g r) : ∃ k, g k = some r := by
  obtain ⟨k, hk⟩ := h; exact ⟨k, hk k (Nat.le_refl _)⟩
instance (a : Nat) : Decidable (U a) := by unfold U; infer_instance
theorem w1 : Ev (fun k => soft_Add.f k 4607182418800017408 4368491638549381120 0) (4607182418800017408, 1) := by
  have := Add_ev 4607182418800017408 4368491638549381120 0 (by decide) (by decide)
  rw [c1] at this; exact this
theorem w2 : ∃ y, Ev (fun k => soft_Add.f k 4607182418800017408 4368491638549381120 1) (4607182418800017409, y) := by
  have := Add_ev 4607182418800017408 4368491638549381120 1 (by decide) (by decide)
  unfold pr at this
  rw [c2] at this; exact ⟨_, this⟩
theorem w3 : ∃ y, Ev (fun k => soft_Sub.f k 4607182418800017408 4607182418800017408 0) (0, y) := by
  have := Sub_ev 4607182418800017408 4607182418800017408 0 (by decide) (by decide)
  unfold pr at this
  rw [c3] at this; exact ⟨_, this⟩
theorem w4 : ∃ y, Ev (fun k => soft_Sub.f k 4607182418800017408 4607182418800017408 2) (9223372036854775808, y) := by
  have := Sub_ev 4607182418800017408 4607182418800017408 2 (by decide) (by decide)
  unfold pr at this
  rw [c4'] at this; exact ⟨_, this⟩
theorem w5 : Ev (fun k => soft_Div.f k 13830554455654793216 0 0) (18442240474082181120, 8) := by
  have := Div_ev 13830554455654793216 0 0 (by decide) (by decide)
  rw [c5] at this; exact this
theorem w6 : ∃ y, Ev (fun k => soft_Sqrt.f k 4611686018427387904 0) (4609047870845172685, y) := by
  have := Sqrt_ev 4611686018427387904 0 (by decide)
  unfold pr at this
  rw [c6] at this; exact ⟨_, this⟩
theorem w7 : Ev (fun k => soft_Mul.f k 0 9218868437227405312 0) (QN, 16) := by
  have := Mul_ev 0 9218868437227405312 0 (by decide) (by decide)
  rw [c7] at this; exact this
theorem w8 : Ev (fun k => soft_Sum.f k 0 [4607182418800017408, 4607182418800017408, 4607182418800017408]) 4613937818241073152 := by
  have := softSum_ev 0 [4607182418800017408, 4607182418800017408, 4607182418800017408] (by decide) (by intro x hx; simp at hx; subst hx; decide)
  rw [c8] at this; exact this
theorem w9 : Ev (fun k => pattern_Inf.f k false) 9218868437227405312 := Inf_ev false
theorem w10 : Ev (fun k => pattern_Inf.f k true) 18442240474082181120 := Inf_ev true
theorem works_ev : Ev (fun k => flyballlaw06_works.f k) true := by
  obtain ⟨y2, w2⟩ := w2
  obtain ⟨y3, w3⟩ := w3
  obtain ⟨y4, w4⟩ := w4
  obtain ⟨y6, w6⟩ := w6
  unfold flyballlaw06_works.f
  refine Ev.b _ w1 ?_
  refine Ev.b _ w2 ?_
  refine Ev.b _ w3 ?_
  refine Ev.b _ w4 ?_
  refine Ev.b _ w5 ?_
  refine Ev.b _ w6 ?_
  refine Ev.b _ w9 ?_
  refine Ev.b _ w7 ?_
  refine Ev.b _ w8 ?_
  dsimp only
  refine Ev.congr (fun k => by rw [if_pos rfl, if_pos rfl, if_pos rfl, if_pos rfl, if_pos rfl]) ?_
  refine Ev.b _ w10 ?_
  refine Ev.congr (fun k => by rw [if_pos rfl, if_pos rfl, if_pos rfl]) ?_
  refine Ev.b _ (Ev.const Quiet_ok) ?_
  exact Ev.congr (fun k => by rw [if_pos rfl, if_pos rfl, beq_self_eq_true]) (Ev.now _)
theorem SoftDivides : flyballlaw06_SoftDivides.Pure := by
  intro a0 a1 a2 h0 h1 h2
  obtain ⟨a, rfl, ha⟩ := wf_u64 h0
  obtain ⟨b, rfl, hb⟩ := wf_u64 h1
  obtain ⟨m, rfl, _⟩ := wf_u8 h2
  refine Ev.ex (r := true) ?_
  unfold flyballlaw06_SoftDivides.f
  refine Ev.b _ works_ev ?_
  refine Ev.congr (fun k => by rw [if_pos rfl]) ?_
  refine Ev.b _ (Div_ev a b m ha hb) ?_
  refine Ev.b _ (refDiv_ev a b m ha hb) ?_
  refine Ev.congr (fun k => by rw [if_pos rfl, beq_self_eq_true]) (Ev.now _)
end Go.Proofs.Ytmadjhmecfbcmaa.M
end
