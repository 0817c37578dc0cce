/- The law SpanTests holds for every input: the row as it is given, with no condition. -/
import Derived.Test.YtmadjhmecfbcmaaASpanTests6
import Derived.Test.YtmadjhmecfbcmaaRows
import Derived.WalkKit
import Derived.ProofKit
import Derived.OpenShut
import Derived.ShutString
import Derived.ChangeOld
import Derived.Below
import Derived.SizedLaws
import Derived.Lib.SmallJoins
namespace Go.Proofs.Ytmadjhmecfbcmaa.spanTests
open Go.ChangeShapes Go.WideShapes Go.ChangeAt Go.RowKit Go.Joins
set_option linter.unusedVariables false
theorem own : ownKnob Try.prog.godebug = none := by kernel_rfl
theorem cellsS : Try.prog.cellsOf 43 = 3 := by kernel_rfl
theorem spanReads {H : Type} {enc : TypeId × Value → H} (W' : World) (b : Nat) (sp : Nat → Bool) (hd : Bool) (e : Bool) (x y : Int) (wx : (Lit.int .u64 x).wf = true) (wy : (Lit.int .u64 y).wf = true) :
    DataW.Trod enc Try.prog W' b sp hd 43 (.agg #[.bool e, .int .u64 x, .int .u64 y]) (.agg [.lit (.bool e), .lit (.int .u64 x), .lit (.int .u64 y)]) [] := by
  simpa using shut_agg3 (enc := enc) (w := W') (base := b) (spare := sp) (held := hd) (y0 := (.lit (.bool e), [])) (y1 := (.lit (.int .u64 x), [])) (y2 := (.lit (.int .u64 y), [])) Try.underlying43 (by kernel_rfl) cellsS ⟨1, by simp [DataW.trod, Try.underlying4]⟩ ⟨1, by simp [DataW.trod, Try.underlying23, wx]⟩ ⟨1, by simp [DataW.trod, Try.underlying23, wy]⟩
set_option maxRecDepth 100000 in
theorem lifted (os : Os) (started : os.Started) (H : Type) (enc : TypeId × Value → H) :
    ReturnsInHanded {} Try.checked os 11 .any (Rows.spanTestsSpec.pre6 enc Try.prog Try.f11 Rows.spanTestsRow.domain false) (Rows.spanTestsSpec.post enc Try.prog Try.f11 false true false false) := by
  refine returnsInHanded_of_change_sized (C := Try.checked) own started (by kernel_rfl) Try.func11
    (ChangeSpec.witness6 (enc := enc) (C := Try.checked) false ⟨#[], #[.int .u8 0, .agg #[.bool false, .int .u64 0, .int .u64 0], .agg #[.bool false, .int .u64 0, .int .u64 0]], []⟩ 8 (by kernel_rfl) (by kernel_rfl) (by kernel_rfl) (by kernel_rfl)) ?_
  intro W base args ds gs before hval0 hW hcnd hsz0 _
  have hsz : (DataW.weightsEach Try.prog (Try.f11.params.toList ++ Rows.spanTestsSpec.plain.varTypes Try.prog) (ds ++ gs)).all (· ≤ reachBytes) = true := hsz0
  have hval : ∀ (j : Nat) t v, Try.f11.params[j]? = some t → args[j]? = some v → Value.okWide Try.prog W .any base t v := hval0
  have hW' := hW
  obtain ⟨p, q, hA0, hV, rfl, hfz, hnd⟩ := hW
  have hA : DataW.TrodAll enc Try.prog W 0 (fun _ => true) true Try.f11.params.toList args.toList ds p := hA0
  rw [Try.params11] at hA hval hsz
  obtain ⟨v0, vs0, d0, ds0, p0, q0, hargs, rfl, rfl, h0, r0⟩ := trodAll_cons hA
  obtain ⟨v1, vs1, d1, ds1, p1, q1, rfl, rfl, rfl, h1, r1⟩ := trodAll_cons r0
  obtain ⟨v2, vs2, d2, ds2, p2, q2, rfl, rfl, rfl, h2, r2⟩ := trodAll_cons r1
  obtain ⟨rfl, rfl, rfl⟩ := trodAll_nil r2
  obtain rfl : args = #[v0, v1, v2] := by cases args; simp_all
  obtain ⟨rfl, rfl⟩ := trodVars_none hV
  obtain ⟨a0, rfl, rfl, rfl, w0⟩ := open_int Try.underlying54 (hval 0 54 v0 rfl rfl) h0
  obtain ⟨x1, y1, z1, yx1, yy1, yz1, m1, rfl, rfl, rfl, t1x, t1y, t1z⟩ := open_agg3 Try.underlying43 (by kernel_rfl) cellsS (hval 1 43 v1 rfl rfl) h1
  obtain ⟨e1, ex1, rfl⟩ := DataW.trod_bool Try.underlying4 t1x
  obtain ⟨a1, ey1, rfl, w1⟩ := DataW.trod_int Try.underlying23 t1y
  obtain ⟨b1, ez1, rfl, u1⟩ := DataW.trod_int Try.underlying23 t1z
  simp at ex1 ey1 ez1
  subst ex1 ey1 ez1
  obtain ⟨x2, y2, z2, yx2, yy2, yz2, m2, rfl, rfl, rfl, t2x, t2y, t2z⟩ := open_agg3 Try.underlying43 (by kernel_rfl) cellsS (hval 2 43 v2 rfl rfl) h2
  obtain ⟨e2, ex2, rfl⟩ := DataW.trod_bool Try.underlying4 t2x
  obtain ⟨a2, ey2, rfl, w2⟩ := DataW.trod_int Try.underlying23 t2y
  obtain ⟨b2, ez2, rfl, u2⟩ := DataW.trod_int Try.underlying23 t2z
  simp at ex2 ey2 ez2
  subst ex2 ey2 ez2
  clear hA0 hval0
  obtain ⟨k, hk⟩ := M.SpanTests a0 e1 a1 b1 e2 a2 b2 w0 w1 u1 w2 u2
  refine (F.flyballlaw16_SpanTests.calls k a0 e1 a1 b1 e2 a2 b2 true W  hk rfl).mono fun e W' ⟨he, bel⟩ => ?_
  subst he
  exact ⟨_, rfl, _, _, _, [], _, [], hW', trodAll_mk1 (shut_bool Try.underlying4 _), (trodAll_cons_mk (shut_int Try.underlying54 w0) (trodAll_cons_mk (spanReads _ _ _ _ e1 a1 b1 w1 u1) (trodAll_cons_mk (spanReads _ _ _ _ e2 a2 b2 w2 u2) trodAll_mk0))), rfl, bel.frame _, fun h => by cases h⟩
theorem over : Rows.spanTestsRow.holds Try.pinned (OpenSpec.ofChange Rows.spanTestsSpec) :=
  OpenClaim.holds_of_wide 11 Try.f11 rfl rfl rfl rfl rfl rfl rfl ⟨rfl, rfl, rfl, rfl, rfl⟩ rfl rfl rfl rfl rfl (by kernel_rfl) Try.func11 (by kernel_rfl)
    (of_decide_eq_true (by kernel_rfl)) (by unfold Func.isWrapper; first | (rw [if_pos (by decide +kernel)]; kernel_rfl) | (rw [if_neg (by decide +kernel)]; exact ⟨rfl, rfl⟩))
    (fun os started H enc _ => lifted os started H enc)
theorem proved : Rows.SpanTestsSaid := over
end Go.Proofs.Ytmadjhmecfbcmaa.spanTests
namespace Go.Proofs.Ytmadjhmecfbcmaa
/-- The row, under a short name, for the claim. -/
theorem spanTests_holds : Rows.SpanTestsSaid := spanTests.proved
end Go.Proofs.Ytmadjhmecfbcmaa
