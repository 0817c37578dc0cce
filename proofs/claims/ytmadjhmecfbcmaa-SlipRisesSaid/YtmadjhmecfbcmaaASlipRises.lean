/- The law SlipRises holds for every input: the row as it is given, with no condition. -/
import Derived.Test.YtmadjhmecfbcmaaASlipRises7
import Derived.Test.YtmadjhmecfbcmaaRows
import Derived.WalkKit
import Derived.ProofKit
import Derived.OpenShut
import Derived.ShutString
import Derived.ChangeOld
import Derived.Below
import Derived.SizedLaws
import Derived.Lib.SmallJoins
namespace Go.Proofs.Ytmadjhmecfbcmaa.slipRises
open Go.ChangeShapes Go.WideShapes Go.ChangeAt Go.RowKit Go.Joins
set_option linter.unusedVariables false
theorem own : ownKnob Try.prog.godebug = none := by kernel_rfl
theorem cellsS : Try.prog.cellsOf 43 = 3 := by kernel_rfl
theorem spanReads {H : Type} {enc : TypeId × Value → H} (W' : World) (b : Nat) (sp : Nat → Bool) (hd : Bool) (e : Bool) (x y : Int) (wx : (Lit.int .u64 x).wf = true) (wy : (Lit.int .u64 y).wf = true) :
    DataW.Trod enc Try.prog W' b sp hd 43 (.agg #[.bool e, .int .u64 x, .int .u64 y]) (.agg [.lit (.bool e), .lit (.int .u64 x), .lit (.int .u64 y)]) [] := by
  simpa using shut_agg3 (enc := enc) (w := W') (base := b) (spare := sp) (held := hd) (y0 := (.lit (.bool e), [])) (y1 := (.lit (.int .u64 x), [])) (y2 := (.lit (.int .u64 y), [])) Try.underlying43 (by kernel_rfl) cellsS ⟨1, by simp [DataW.trod, Try.underlying4]⟩ ⟨1, by simp [DataW.trod, Try.underlying23, wx]⟩ ⟨1, by simp [DataW.trod, Try.underlying23, wy]⟩
set_option maxRecDepth 100000 in
theorem lifted (os : Os) (started : os.Started) (H : Type) (enc : TypeId × Value → H) :
    ReturnsInHanded {} Try.checked os 15 .any (Rows.slipRisesSpec.pre6 enc Try.prog Try.f15 Rows.slipRisesRow.domain false) (Rows.slipRisesSpec.post enc Try.prog Try.f15 false true false false) := by
  refine returnsInHanded_of_change_sized (C := Try.checked) own started (by kernel_rfl) Try.func15
    (ChangeSpec.witness6 (enc := enc) (C := Try.checked) false ⟨#[], #[.int .u8 0, .agg #[.bool false, .int .u64 0, .int .u64 0], .agg #[.bool false, .int .u64 0, .int .u64 0], .agg #[.bool false, .int .u64 0, .int .u64 0], .agg #[.bool false, .int .u64 0, .int .u64 0], .int .u64 0, .int .u64 0, .int .u64 0], []⟩ 8 (by kernel_rfl) (by kernel_rfl) (by kernel_rfl) (by kernel_rfl)) ?_
  intro W base args ds gs before hval0 hW hcnd hsz0 _
  have hsz : (DataW.weightsEach Try.prog (Try.f15.params.toList ++ Rows.slipRisesSpec.plain.varTypes Try.prog) (ds ++ gs)).all (· ≤ reachBytes) = true := hsz0
  have hval : ∀ (j : Nat) t v, Try.f15.params[j]? = some t → args[j]? = some v → Value.okWide Try.prog W .any base t v := hval0
  have hW' := hW
  obtain ⟨p, q, hA0, hV, rfl, hfz, hnd⟩ := hW
  have hA : DataW.TrodAll enc Try.prog W 0 (fun _ => true) true Try.f15.params.toList args.toList ds p := hA0
  rw [Try.params15] at hA hval hsz
  obtain ⟨v0, vs0, d0, ds0, p0, q0, hargs, rfl, rfl, h0, r0⟩ := trodAll_cons hA
  obtain ⟨v1, vs1, d1, ds1, p1, q1, rfl, rfl, rfl, h1, r1⟩ := trodAll_cons r0
  obtain ⟨v2, vs2, d2, ds2, p2, q2, rfl, rfl, rfl, h2, r2⟩ := trodAll_cons r1
  obtain ⟨v3, vs3, d3, ds3, p3, q3, rfl, rfl, rfl, h3, r3⟩ := trodAll_cons r2
  obtain ⟨v4, vs4, d4, ds4, p4, q4, rfl, rfl, rfl, h4, r4⟩ := trodAll_cons r3
  obtain ⟨v5, vs5, d5, ds5, p5, q5, rfl, rfl, rfl, h5, r5⟩ := trodAll_cons r4
  obtain ⟨v6, vs6, d6, ds6, p6, q6, rfl, rfl, rfl, h6, r6⟩ := trodAll_cons r5
  obtain ⟨v7, vs7, d7, ds7, p7, q7, rfl, rfl, rfl, h7, r7⟩ := trodAll_cons r6
  obtain ⟨rfl, rfl, rfl⟩ := trodAll_nil r7
  obtain rfl : args = #[v0, v1, v2, v3, v4, v5, v6, v7] := by cases args; simp_all
  obtain ⟨rfl, rfl⟩ := trodVars_none hV
  obtain ⟨a0, rfl, rfl, rfl, w0⟩ := open_int Try.underlying54 (hval 0 54 v0 rfl rfl) h0
  obtain ⟨x1, y1, z1, yx1, yy1, yz1, m1, rfl, rfl, rfl, t1x, t1y, t1z⟩ := open_agg3 Try.underlying43 (by kernel_rfl) cellsS (hval 1 43 v1 rfl rfl) h1
  obtain ⟨e1, ex1, rfl⟩ := DataW.trod_bool Try.underlying4 t1x
  obtain ⟨a1, ey1, rfl, w1⟩ := DataW.trod_int Try.underlying23 t1y
  obtain ⟨b1, ez1, rfl, u1⟩ := DataW.trod_int Try.underlying23 t1z
  simp at ex1 ey1 ez1
  subst ex1 ey1 ez1
  obtain ⟨x2, y2, z2, yx2, yy2, yz2, m2, rfl, rfl, rfl, t2x, t2y, t2z⟩ := open_agg3 Try.underlying43 (by kernel_rfl) cellsS (hval 2 43 v2 rfl rfl) h2
  obtain ⟨e2, ex2, rfl⟩ := DataW.trod_bool Try.underlying4 t2x
  obtain ⟨a2, ey2, rfl, w2⟩ := DataW.trod_int Try.underlying23 t2y
  obtain ⟨b2, ez2, rfl, u2⟩ := DataW.trod_int Try.underlying23 t2z
  simp at ex2 ey2 ez2
  subst ex2 ey2 ez2
  obtain ⟨x3, y3, z3, yx3, yy3, yz3, m3, rfl, rfl, rfl, t3x, t3y, t3z⟩ := open_agg3 Try.underlying43 (by kernel_rfl) cellsS (hval 3 43 v3 rfl rfl) h3
  obtain ⟨e3, ex3, rfl⟩ := DataW.trod_bool Try.underlying4 t3x
  obtain ⟨a3, ey3, rfl, w3⟩ := DataW.trod_int Try.underlying23 t3y
  obtain ⟨b3, ez3, rfl, u3⟩ := DataW.trod_int Try.underlying23 t3z
  simp at ex3 ey3 ez3
  subst ex3 ey3 ez3
  obtain ⟨x4, y4, z4, yx4, yy4, yz4, m4, rfl, rfl, rfl, t4x, t4y, t4z⟩ := open_agg3 Try.underlying43 (by kernel_rfl) cellsS (hval 4 43 v4 rfl rfl) h4
  obtain ⟨e4, ex4, rfl⟩ := DataW.trod_bool Try.underlying4 t4x
  obtain ⟨a4, ey4, rfl, w4⟩ := DataW.trod_int Try.underlying23 t4y
  obtain ⟨b4, ez4, rfl, u4⟩ := DataW.trod_int Try.underlying23 t4z
  simp at ex4 ey4 ez4
  subst ex4 ey4 ez4
  obtain ⟨a5, rfl, rfl, rfl, w5⟩ := open_int Try.underlying23 (hval 5 23 v5 rfl rfl) h5
  obtain ⟨a6, rfl, rfl, rfl, w6⟩ := open_int Try.underlying23 (hval 6 23 v6 rfl rfl) h6
  obtain ⟨a7, rfl, rfl, rfl, w7⟩ := open_int Try.underlying23 (hval 7 23 v7 rfl rfl) h7
  clear hA0 hval0
  obtain ⟨k, hk⟩ := M.SlipRises a0 e1 a1 b1 e2 a2 b2 e3 a3 b3 e4 a4 b4 a5 a6 a7 w0 w1 u1 w2 u2 w3 u3 w4 u4 w5 w6 w7
  refine (F.flyballlaw19_SlipRises.calls k a0 e1 a1 b1 e2 a2 b2 e3 a3 b3 e4 a4 b4 a5 a6 a7 true W  hk rfl).mono fun e W' ⟨he, bel⟩ => ?_
  subst he
  exact ⟨_, rfl, _, _, _, [], _, [], hW', trodAll_mk1 (shut_bool Try.underlying4 _), (trodAll_cons_mk (shut_int Try.underlying54 w0) (trodAll_cons_mk (spanReads _ _ _ _ e1 a1 b1 w1 u1) (trodAll_cons_mk (spanReads _ _ _ _ e2 a2 b2 w2 u2) (trodAll_cons_mk (spanReads _ _ _ _ e3 a3 b3 w3 u3) (trodAll_cons_mk (spanReads _ _ _ _ e4 a4 b4 w4 u4) (trodAll_cons_mk (shut_int Try.underlying23 w5) (trodAll_cons_mk (shut_int Try.underlying23 w6) (trodAll_cons_mk (shut_int Try.underlying23 w7) trodAll_mk0)))))))), rfl, bel.frame _, fun h => by cases h⟩
theorem over : Rows.slipRisesRow.holds Try.pinned (OpenSpec.ofChange Rows.slipRisesSpec) :=
  OpenClaim.holds_of_wide 15 Try.f15 rfl rfl rfl rfl rfl rfl rfl ⟨rfl, rfl, rfl, rfl, rfl⟩ rfl rfl rfl rfl rfl (by kernel_rfl) Try.func15 (by kernel_rfl)
    (of_decide_eq_true (by kernel_rfl)) (by unfold Func.isWrapper; first | (rw [if_pos (by decide +kernel)]; kernel_rfl) | (rw [if_neg (by decide +kernel)]; exact ⟨rfl, rfl⟩))
    (fun os started H enc _ => lifted os started H enc)
theorem proved : Rows.SlipRisesSaid := over
end Go.Proofs.Ytmadjhmecfbcmaa.slipRises
namespace Go.Proofs.Ytmadjhmecfbcmaa
/-- The row, under a short name, for the claim. -/
theorem slipRises_holds : Rows.SlipRisesSaid := slipRises.proved
end Go.Proofs.Ytmadjhmecfbcmaa
