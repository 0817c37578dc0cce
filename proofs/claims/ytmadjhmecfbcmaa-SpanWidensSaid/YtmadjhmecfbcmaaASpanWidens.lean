/- The law SpanWidens holds for every input: the row as it is given, with no condition. -/
import Derived.Test.YtmadjhmecfbcmaaASpanWidens6
import Derived.Test.YtmadjhmecfbcmaaRows
import Derived.WalkKit
import Derived.ProofKit
import Derived.OpenShut
import Derived.ShutString
import Derived.ChangeOld
import Derived.Below
import Derived.SizedLaws
import Derived.Lib.SmallJoins
namespace Go.Proofs.Ytmadjhmecfbcmaa.spanWidens
open Go.ChangeShapes Go.WideShapes Go.ChangeAt Go.RowKit Go.Joins
set_option linter.unusedVariables false
theorem own : ownKnob Try.prog.godebug = none := by kernel_rfl
theorem laidOut : laidOutB Try.prog = true := by kernel_rfl
theorem cellsS : Try.prog.cellsOf 43 = 3 := by kernel_rfl
theorem spanReads {H : Type} {enc : TypeId × Value → H} (W' : World) (b : Nat) (sp : Nat → Bool) (hd : Bool) (e : Bool) (x y : Int) (wx : (Lit.int .u64 x).wf = true) (wy : (Lit.int .u64 y).wf = true) :
    DataW.Trod enc Try.prog W' b sp hd 43 (.agg #[.bool e, .int .u64 x, .int .u64 y]) (.agg [.lit (.bool e), .lit (.int .u64 x), .lit (.int .u64 y)]) [] := by
  simpa using shut_agg3 (enc := enc) (w := W') (base := b) (spare := sp) (held := hd) (y0 := (.lit (.bool e), [])) (y1 := (.lit (.int .u64 x), [])) (y2 := (.lit (.int .u64 y), [])) Try.underlying43 (by kernel_rfl) cellsS ⟨1, by simp [DataW.trod, Try.underlying4]⟩ ⟨1, by simp [DataW.trod, Try.underlying23, wx]⟩ ⟨1, by simp [DataW.trod, Try.underlying23, wy]⟩
set_option maxRecDepth 100000 in
theorem lifted (os : Os) (started : os.Started) (H : Type) (enc : TypeId × Value → H) :
    ReturnsInHanded {} Try.checked os 13 .any (Rows.spanWidensSpec.pre6 enc Try.prog Try.f13 Rows.spanWidensRow.domain false) (Rows.spanWidensSpec.post enc Try.prog Try.f13 false true false false) := by
  refine returnsInHanded_of_change_sized (C := Try.checked) own started (by kernel_rfl) Try.func13
    (ChangeSpec.witness6 (enc := enc) (C := Try.checked) false ⟨#[], #[.agg #[.bool false, .int .u64 0, .int .u64 0], .agg #[.bool false, .int .u64 0, .int .u64 0], .slice none 0 0], []⟩ 8 (by kernel_rfl) (by kernel_rfl) (by kernel_rfl) (by kernel_rfl)) ?_
  intro W base args ds gs before hval0 hW hcnd hsz0 _
  have hsz : (DataW.weightsEach Try.prog (Try.f13.params.toList ++ Rows.spanWidensSpec.plain.varTypes Try.prog) (ds ++ gs)).all (· ≤ reachBytes) = true := hsz0
  have hval : ∀ (j : Nat) t v, Try.f13.params[j]? = some t → args[j]? = some v → Value.okWide Try.prog W .any base t v := hval0
  have hW' := hW
  obtain ⟨p, q, hA0, hV, rfl, hfz, hnd⟩ := hW
  have hA : DataW.TrodAll enc Try.prog W 0 (fun _ => true) true Try.f13.params.toList args.toList ds p := hA0
  rw [Try.params13] at hA hval hsz
  obtain ⟨v0, vs0, d0, ds0, p0, q0, hargs, rfl, rfl, h0, r0⟩ := trodAll_cons hA
  obtain ⟨v1, vs1, d1, ds1, p1, q1, rfl, rfl, rfl, h1, r1⟩ := trodAll_cons r0
  obtain ⟨v2, vs2, d2, ds2, p2, q2, rfl, rfl, rfl, h2, r2⟩ := trodAll_cons r1
  obtain ⟨rfl, rfl, rfl⟩ := trodAll_nil r2
  obtain rfl : args = #[v0, v1, v2] := by cases args; simp_all
  obtain ⟨rfl, rfl⟩ := trodVars_none hV
  obtain ⟨x0, y0, z0, yx0, yy0, yz0, m0, rfl, rfl, rfl, t0x, t0y, t0z⟩ := open_agg3 Try.underlying43 (by kernel_rfl) cellsS (hval 0 43 v0 rfl rfl) h0
  obtain ⟨e0, ex0, rfl⟩ := DataW.trod_bool Try.underlying4 t0x
  obtain ⟨a0, ey0, rfl, w0⟩ := DataW.trod_int Try.underlying23 t0y
  obtain ⟨b0, ez0, rfl, u0⟩ := DataW.trod_int Try.underlying23 t0z
  simp at ex0 ey0 ez0
  subst ex0 ey0 ez0
  obtain ⟨x1, y1, z1, yx1, yy1, yz1, m1, rfl, rfl, rfl, t1x, t1y, t1z⟩ := open_agg3 Try.underlying43 (by kernel_rfl) cellsS (hval 1 43 v1 rfl rfl) h1
  obtain ⟨e1, ex1, rfl⟩ := DataW.trod_bool Try.underlying4 t1x
  obtain ⟨a1, ey1, rfl, w1⟩ := DataW.trod_int Try.underlying23 t1y
  obtain ⟨b1, ez1, rfl, u1⟩ := DataW.trod_int Try.underlying23 t1z
  simp at ex1 ey1 ez1
  subst ex1 ey1 ez1
  obtain ⟨a2, len2, cap2, rfl⟩ := okWide_slice Try.underlying34 (hval 2 34 v2 rfl rfl)
  have k2 := h2
  have lt2 : ∀ x ∈ p2, x.block < W.heap.size := by obtain ⟨m, hm⟩ := k2; exact DataW.trod_lt m _ _ _ hm
  obtain ⟨g2, w2⟩ : ∃ zs : List Int, (a2 = none ∧ len2 = 0 ∧ cap2 = 0 ∧ zs = []) ∨ ∃ x, a2 = some x ∧ len2 ≤ cap2 ∧ cap2 ≤ maxLen ∧ zs.length = cap2 ∧ (∀ i, i < zs.length → W.cell? (x.add i) = some (.int .u64 (zs.getD i 0))) ∧ ∀ n ∈ zs, (Lit.int .u64 n).wf = true := by
    obtain ⟨fuel, hf⟩ := h2
    rcases open_ints Try.underlying34 Try.underlying23 (by kernel_rfl) hf with ⟨hcs, _⟩ | ⟨x, l, c, zs, hcs, _, hl, hm, hz, _, hcell, hwz⟩
    · simp [Value.cells] at hcs
      obtain ⟨rfl, rfl, rfl⟩ := hcs
      exact ⟨[], .inl ⟨rfl, rfl, rfl, rfl⟩⟩
    · simp [Value.cells] at hcs
      obtain ⟨rfl, rfl, rfl⟩ := hcs
      exact ⟨zs, .inr ⟨_, rfl, hl, hm, by simpa using hz, hcell, hwz⟩⟩
  obtain ⟨l2, rfl, hr2, hm2, hw2, hc2⟩ := Go.Proofs.YtmadjhmecfbcmaaW.PrintWords.ReadsInt.ofRowC w2
  clear hA0 hval0
  obtain ⟨k, hk⟩ := M.SpanWidens e0 a0 b0 e1 a1 b1 l2 w0 u0 w1 u1 hw2
  refine (F.flyballlaw16_SpanWidens.calls k e0 a0 b0 e1 a1 b1 _ _ l2 true W (Go.Proofs.YtmadjhmecfbcmaaW.PrintWords.Kd.C_of_reads (d := (0 : Int)) (h1 := fun _ => rfl) hr2) hc2 hk rfl).mono fun e W' ⟨he, bel⟩ => ?_
  subst he
  exact ⟨_, rfl, _, _, _, [], _, [], hW', trodAll_mk1 (shut_bool Try.underlying4 _), (trodAll_cons_mk (spanReads _ _ _ _ e0 a0 b0 w0 u0) (trodAll_cons_mk (spanReads _ _ _ _ e1 a1 b1 w1 u1) (trodAll_cons_mk (Below.trod laidOut (by kernel_rfl) (of_decide_eq_true (by kernel_rfl)) k2 bel lt2) trodAll_mk0))), rfl, bel.frame _, fun h => by cases h⟩
theorem over : Rows.spanWidensRow.holds Try.pinned (OpenSpec.ofChange Rows.spanWidensSpec) :=
  OpenClaim.holds_of_wide 13 Try.f13 rfl rfl rfl rfl rfl rfl rfl ⟨rfl, rfl, rfl, rfl, rfl⟩ rfl rfl rfl rfl rfl (by kernel_rfl) Try.func13 (by kernel_rfl)
    (of_decide_eq_true (by kernel_rfl)) (by unfold Func.isWrapper; first | (rw [if_pos (by decide +kernel)]; kernel_rfl) | (rw [if_neg (by decide +kernel)]; exact ⟨rfl, rfl⟩))
    (fun os started H enc _ => lifted os started H enc)
theorem proved : Rows.SpanWidensSaid := over
end Go.Proofs.Ytmadjhmecfbcmaa.spanWidens
namespace Go.Proofs.Ytmadjhmecfbcmaa
/-- The row, under a short name, for the claim. -/
theorem spanWidens_holds : Rows.SpanWidensSaid := spanWidens.proved
end Go.Proofs.Ytmadjhmecfbcmaa
