/- The walk of the law SpanTests and what it computes, part 2 of 6: no conditions. -/
import Derived.Test.YtmadjhmecfbcmaaASpanTests1
import Derived.Shelf.Small.Bits
import Derived.Shelf.Strconv.Itoa0
import Derived.Shelf.Bits.Mul64
import Derived.Test.YtmadjhmecfbcmaaProg
import Derived.Lib.BitFns
set_option linter.unusedVariables false
set_option linter.unusedSimpArgs false
section
namespace Go.Proofs
open Go.Shelf
def Try.lays134_ren : Go.Shelf.Ren := ⟨fun | 134 => 186 | 129 => 161 | n => n, fun | 53 => 22 | 3 => 3 | 4 => 4 | 46 => 126 | 5 => 5 | 9 => 9 | n => n, fun | n => n⟩
theorem Try.lays134 : Go.Proofs.Lays.n134 Try.prog Try.lays134_ren := {
 mixed := by kernel_rfl
 f129 := Try.func161.trans (congrArg some (by kernel_rfl))
 f134 := Try.func186.trans (congrArg some (by kernel_rfl))
 t3 := Try.underlying3
 a3 := Try.isAgg3
 z3 := Try.sizeOf3
 v3 := Try.zeroValue3
 t4 := Try.underlying4
 a4 := Try.isAgg4
 z4 := Try.sizeOf4
 v4 := Try.zeroValue4
 t5 := Try.underlying5
 a5 := Try.isAgg5
 z5 := Try.sizeOf5
 v5 := Try.zeroValue5
 t9 := Try.underlying9
 a9 := Try.isAgg9
 z9 := Try.sizeOf9
 v9 := Try.zeroValue9
 t46 := Try.underlying126
 a46 := Try.isAgg126
 z46 := Try.sizeOf126
 v46 := Try.zeroValue126
 t53 := Try.underlying22
 a53 := Try.isAgg22
 z53 := Try.sizeOf22
 v53 := Try.zeroValue22 }
theorem Try.bits_LeadingZeros64 (x : Int) (w : World) (h0 : 0 ≤ x) (h1 : x ≤ 18446744073709551615) :
  Calls Try.prog 186 #[.int .u64 x] w fun e w' => e = .returned (.int .i64 (64 - (Lib.bitLen x.toNat : Int))) ∧ w' = w := Any.bits_LeadingZeros64 Try.lays134 x w h0 h1
def Try.lays129_ren : Go.Shelf.Ren := ⟨fun | 129 => 161 | n => n, fun | 53 => 22 | 3 => 3 | 4 => 4 | 46 => 126 | 5 => 5 | 9 => 9 | n => n, fun | n => n⟩
theorem Try.lays129 : Go.Proofs.Lays.n129 Try.prog Try.lays129_ren := {
 mixed := by kernel_rfl
 f129 := Try.func161.trans (congrArg some (by kernel_rfl))
 t3 := Try.underlying3
 a3 := Try.isAgg3
 z3 := Try.sizeOf3
 v3 := Try.zeroValue3
 t4 := Try.underlying4
 a4 := Try.isAgg4
 z4 := Try.sizeOf4
 v4 := Try.zeroValue4
 t5 := Try.underlying5
 a5 := Try.isAgg5
 z5 := Try.sizeOf5
 v5 := Try.zeroValue5
 t9 := Try.underlying9
 a9 := Try.isAgg9
 z9 := Try.sizeOf9
 v9 := Try.zeroValue9
 t46 := Try.underlying126
 a46 := Try.isAgg126
 z46 := Try.sizeOf126
 v46 := Try.zeroValue126
 t53 := Try.underlying22
 a53 := Try.isAgg22
 z53 := Try.sizeOf22
 v53 := Try.zeroValue22 }
theorem Try.bits_Len64 (x : Int) (w : World) (h0 : 0 ≤ x) (h1 : x ≤ 18446744073709551615) :
  Calls Try.prog 161 #[.int .u64 x] w fun e w' => e = .returned (.int .i64 (Lib.bitLen x.toNat)) ∧ w' = w := Any.bits_Len64 Try.lays129 x w h0 h1
def Try.lays264_ren : Go.Shelf.Ren := ⟨fun | 264 => 160 | n => n, fun | 53 => 22 | 46 => 126 | n => n, fun | n => n⟩
theorem Try.lays264 : Go.Proofs.Lays.n264 Try.prog Try.lays264_ren := {
 mixed := by kernel_rfl
 f264 := Try.func160.trans (congrArg some (by kernel_rfl))
 t46 := Try.underlying126
 a46 := Try.isAgg126
 z46 := Try.sizeOf126
 v46 := Try.zeroValue126
 t53 := Try.underlying22
 a53 := Try.isAgg22
 z53 := Try.sizeOf22
 v53 := Try.zeroValue22 }
open Go.RowKit Go.Lib in
theorem Try.bits_Mul64 (x y : Nat) (hx : x < 18446744073709551616) (hy : y < 18446744073709551616) (w : World) :
    Calls Try.prog 160 #[.int .u64 x, .int .u64 y] w fun e w' => e = .returned (.tuple #[.int .u64 ((x * y / 18446744073709551616 : Nat) : Int), .int .u64 ((x * y % 18446744073709551616 : Nat) : Int)]) ∧ w' = w := Any.bits_Mul64 Try.lays264 x y hx hy w
end Go.Proofs
end
section
namespace Go.Proofs.Ytmadjhmecfbcmaa.F
open Go.RowKit Go.Proofs.YtmadjhmecfbcmaaW.PrintWords Go.Proofs.YtmadjhmecfbcmaaW.PrintLast Go.Proofs.YtmadjhmecfbcmaaW.PrintMore
set_option linter.unusedVariables false
structure S43 where
 f0 : Bool
 f1 : Int
 f2 : Int
def z43 : S43 := ⟨false, (0 : Int), (0 : Int)⟩
def k43 : Kd S43 := Kd.iso (Kd.pair Kd.bool (Kd.pair (Kd.int .u64) (Kd.int .u64))) (fun x : S43 => (x.f0, x.f1, x.f2))
def rd_T43 (xs : List S43) (i : Int) : S43 := xs.getD i.toNat z43
def pattern_Quiet.f  : Option (Int) := some 9221120237041090560
def pattern_Parts.f (a0 : Int) : Option (Bool × Int × Int) := some (((a0 / 9223372036854775808) == 1), wrap64 (Go.bits .and .u64 (a0 / 4503599627370496) 2047), Go.bits .and .u64 a0 4503599627370495)
mutual
def pattern_Class.j0 : Nat → Int → Int → Bool → Option (Int)
 | 0, _, _, _ => none
 | k + 1, x4, x5, p0 => if p0 = true then (some 3) else (if x4 = 2047 then (some 4) else (if x4 = 0 then (pattern_Class.j1 k x4 (x5 == 0)) else (pattern_Class.j1 k x4 false)))
def pattern_Class.j1 : Nat → Int → Bool → Option (Int)
 | 0, _, _ => none
 | k + 1, x4, q0 => if q0 = true then (some 0) else (if x4 = 0 then (some 1) else (some 2))
end
def pattern_Class.f (k : Nat) (a0 : Int) : Option (Int) := (pattern_Parts.f a0).bind fun p0 => (if p0.2.1 = 2047 then (pattern_Class.j0 k p0.2.1 p0.2.2 (p0.2.2 == 0)) else (pattern_Class.j0 k p0.2.1 p0.2.2 false))
def pattern_Split.f (k : Nat) (a0 : Int) : Option (Int × Int) := (pattern_Parts.f a0).bind fun p0 => ((pattern_Class.f k a0).bind fun q0 => (if q0 = 2 then (some (Go.bits .or .u64 4503599627370496 p0.2.2, wrap64 (p0.2.1 - 1075))) else (if q0 = 1 then (some (p0.2.2, (-1074))) else (some (0, 0)))))
def soft_of.f (k : Nat) (a0 : Int) : Option (Int × Int × Bool × Int × Int) := (pattern_Split.f k a0).bind fun p0 => ((pattern_Class.f k a0).bind fun q0 => (some (a0, q0, ((a0 / 9223372036854775808) == 1), p0.1, p0.2)))
def soft_either.f (a0_0 : Int) (a0_1 : Int) (a0_2 : Bool) (a0_3 : Int) (a0_4 : Int) (a1_0 : Int) (a1_1 : Int) (a1_2 : Bool) (a1_3 : Int) (a1_4 : Int) (a2 : Int) : Option (Bool) := if a0_1 = a2 then (some true) else (some (a1_1 == a2))
def soft_invalid.f  : Option (Int × Int) := (pattern_Quiet.f).bind fun p0 => (some (p0, 16))
def pattern_Make.j0 : Nat → Bool → Int → Int → Bool → Option (Int × Int)
 | 0, _, _, _, _ => none
 | k + 1, x0, x1, x2, p0 => if p0 = true then (some (0, 1)) else (if x0 = true then (some (Go.bits .or .u64 (Go.bits .or .u64 (IntKind.u64.wrap ((IntKind.u64.wrap (x1)) * 4503599627370496)) x2) 9223372036854775808, 0)) else (some (Go.bits .or .u64 (IntKind.u64.wrap ((IntKind.u64.wrap (x1)) * 4503599627370496)) x2, 0)))
def pattern_Make.f (k : Nat) (a0 : Bool) (a1 : Int) (a2 : Int) : Option (Int × Int) := if a1 < 0 then (pattern_Make.j0 k a0 a1 a2 true) else (if a1 > 2047 then (pattern_Make.j0 k a0 a1 a2 true) else (pattern_Make.j0 k a0 a1 a2 (decide (a2 > 4503599627370495))))
def soft_zero.f (k : Nat) (a0 : Bool) : Option (Int) := (pattern_Make.f k a0 0 0).bind fun p0 => (some p0.1)
def bits_Len64.f (a0 : Int) : Option Int := if 0 ≤ a0 ∧ a0 ≤ 18446744073709551615 then some (Lib.bitLen a0.toNat : Int) else none
def wide_U128_Len.f (a0_0 : Int) (a0_1 : Int) : Option (Int) := if a0_0 > 0 then ((bits_Len64.f a0_0).bind fun p0 => (some (wrap64 (64 + p0)))) else ((bits_Len64.f a0_1).bind fun q0 => (some q0))
def wide_U128_Shl.l0 : Nat → Int → Int → Int → Option (Int × Int)
 | 0, _, _, _ => none
 | k + 1, x1, p0, q0 => if x1 ≥ 64 then (if (q0 == 0) = true then (some (q0, 0)) else (wide_U128_Shl.l0 k (wrap64 (x1 - 64)) q0 0)) else (if x1 ≤ 0 then (some (p0, q0)) else (if 0 ≤ x1 then (if 0 ≤ (wrap64 (64 - x1)) then (some (Go.bits .or .u64 (shl .u64 p0 x1) (shr .u64 q0 (wrap64 (64 - x1))), shl .u64 q0 x1)) else (none)) else (none)))
def wide_U128_Shl.f (k : Nat) (a0_0 : Int) (a0_1 : Int) (a1 : Int) : Option (Int × Int) := wide_U128_Shl.l0 k a1 a0_0 a0_1
def wide_U128_Shr.l0 : Nat → Int → Bool → Int → Int → Option (Int × Int × Bool)
 | 0, _, _, _, _ => none
 | k + 1, x1, x6, p0, q0 => if x1 ≥ 64 then (if x6 = true then (if (p0 == 0) = true then (some (0, p0, true)) else (wide_U128_Shr.l0 k (wrap64 (x1 - 64)) true 0 p0)) else (if (p0 == 0) = true then (some (0, p0, (q0 != 0))) else (wide_U128_Shr.l0 k (wrap64 (x1 - 64)) (q0 != 0) 0 p0))) else (if x1 ≤ 0 then (some (p0, q0, x6)) else (if 0 ≤ x1 then (if 0 ≤ (wrap64 (64 - x1)) then (if x6 = true then (some (shr .u64 p0 x1, Go.bits .or .u64 (shr .u64 q0 x1) (shl .u64 p0 (wrap64 (64 - x1))), true)) else (some (shr .u64 p0 x1, Go.bits .or .u64 (shr .u64 q0 x1) (shl .u64 p0 (wrap64 (64 - x1))), ((shl .u64 q0 (wrap64 (64 - x1))) != 0)))) else (none)) else (none)))
def wide_U128_Shr.f (k : Nat) (a0_0 : Int) (a0_1 : Int) (a1 : Int) : Option (Int × Int × Bool) := wide_U128_Shr.l0 k a1 false a0_0 a0_1
def round_number_away.f (a0_0 : Bool) (a0_1 : Int) (a0_2 : Int) (a0_3 : Int) (a0_4 : Bool) (a1 : Int) : Option (Bool) := if a1 = 1 then (if a0_0 = true then (if a1 = 2 then (some a0_0) else (some false)) else (some true)) else (if a1 = 2 then (some a0_0) else (some false))
def round_number_towards.f (a0_0 : Bool) (a0_1 : Int) (a0_2 : Int) (a0_3 : Int) (a0_4 : Bool) (a1 : Int) : Option (Bool) := if a1 = 1 then (if a0_0 = true then (some true) else (if a1 = 2 then (some (!a0_0)) else (some false))) else (if a1 = 2 then (some (!a0_0)) else (some false))
def round_number_up.f (a0_0 : Bool) (a0_1 : Int) (a0_2 : Int) (a0_3 : Int) (a0_4 : Bool) (a1 : Int) (a2 : Bool) (a3 : Bool) (a4 : Bool) : Option (Bool) := (round_number_away.f a0_0 a0_1 a0_2 a0_3 a0_4 a1).bind fun p0 => (if p0 = true then (if a3 = true then (some true) else (some a4)) else ((round_number_towards.f a0_0 a0_1 a0_2 a0_3 a0_4 a1).bind fun q0 => (if q0 = true then (some false) else (if a3 = true then (if a4 = true then (some true) else (some a2)) else (some false)))))
def pattern_Inf.f (k : Nat) (a0 : Bool) : Option (Int) := (pattern_Make.f k a0 2047 0).bind fun p0 => (some p0.1)
def round_number_over.f (k : Nat) (a0_0 : Bool) (a0_1 : Int) (a0_2 : Int) (a0_3 : Int) (a0_4 : Bool) (a1 : Int) : Option (Int × Int) := (pattern_Inf.f k a0_0).bind fun p0 => ((round_number_towards.f a0_0 a0_1 a0_2 a0_3 a0_4 a1).bind fun q0 => (if q0 = true then (some (IntKind.u64.wrap (p0 - 1), 5)) else (some (p0, 5))))
mutual
def round_number_float.j0 : Nat → Int → Int → Int → Bool → Bool → Bool → Int → Int → Int → Bool → Int → Int → Option (Int × Int)
 | 0, _, _, _, _, _, _, _, _, _, _, _, _ => none
 | k + 1, x1, x6, x7, x9, p0, q0, u0, v0, y0, z0, e0, f0 => (round_number_up.f q0 u0 v0 y0 z0 x1 ((Go.bits .and .u64 f0 1) == 1) x9 p0).bind fun g0 => (if g0 = true then (round_number_float.j1 k x1 x6 x7 x9 p0 (IntKind.u64.wrap (f0 + 1)) q0 u0 v0 y0 z0) else (round_number_float.j1 k x1 x6 x7 x9 p0 f0 q0 u0 v0 y0 z0))
def round_number_float.j1 : Nat → Int → Int → Int → Bool → Bool → Int → Bool → Int → Int → Int → Bool → Option (Int × Int)
 | 0, _, _, _, _, _, _, _, _, _, _, _ => none
 | k + 1, x1, x6, x7, x9, p0, h0, q0, u0, v0, y0, z0 => if h0 = 9007199254740992 then (round_number_float.j2 k x1 x6 (wrap64 (x7 + 1)) x9 p0 (h0 / 2) q0 u0 v0 y0 z0) else (round_number_float.j2 k x1 x6 x7 x9 p0 h0 q0 u0 v0 y0 z0)
def round_number_float.j2 : Nat → Int → Int → Int → Bool → Bool → Int → Bool → Int → Int → Int → Bool → Option (Int × Int)
 | 0, _, _, _, _, _, _, _, _, _, _, _ => none
 | k + 1, x1, x6, x7, x9, p0, h0, q0, u0, v0, y0, z0 => if x7 > 971 then ((round_number_over.f k q0 u0 v0 y0 z0 x1).bind fun i0 => (some (i0.1, i0.2))) else (if x9 = true then (round_number_float.j3 k x6 x7 h0 0 true q0 u0 v0 y0 z0) else (round_number_float.j3 k x6 x7 h0 0 p0 q0 u0 v0 y0 z0))
def round_number_float.j3 : Nat → Int → Int → Int → Int → Bool → Bool → Int → Int → Int → Bool → Option (Int × Int)
 | 0, _, _, _, _, _, _, _, _, _, _ => none
 | k + 1, x6, x7, h0, p1, q1, q0, u0, v0, y0, z0 => if q1 = true then (if (wrap64 (x6 + y0)) ≤ (-1022) then (if (h0 / 4503599627370496) = 1 then ((pattern_Make.f k q0 (wrap64 ((wrap64 (x7 - (-1074))) + 1)) (Go.bits .and .u64 h0 4503599627370495)).bind fun u1 => (some (u1.1, Go.bits .or .u8 1 2))) else ((pattern_Make.f k q0 0 (Go.bits .and .u64 h0 4503599627370495)).bind fun v1 => (some (v1.1, Go.bits .or .u8 1 2)))) else (if (h0 / 4503599627370496) = 1 then ((pattern_Make.f k q0 (wrap64 ((wrap64 (x7 - (-1074))) + 1)) (Go.bits .and .u64 h0 4503599627370495)).bind fun y1 => (some (y1.1, 1))) else ((pattern_Make.f k q0 0 (Go.bits .and .u64 h0 4503599627370495)).bind fun z1 => (some (z1.1, 1))))) else (if (h0 / 4503599627370496) = 1 then ((pattern_Make.f k q0 (wrap64 ((wrap64 (x7 - (-1074))) + 1)) (Go.bits .and .u64 h0 4503599627370495)).bind fun e1 => (some (e1.1, p1))) else ((pattern_Make.f k q0 0 (Go.bits .and .u64 h0 4503599627370495)).bind fun f1 => (some (f1.1, p1))))
end
def round_number_float.f (k : Nat) (a0_0 : Bool) (a0_1 : Int) (a0_2 : Int) (a0_3 : Int) (a0_4 : Bool) (a1 : Int) : Option (Int × Int) := (wide_U128_Len.f a0_1 a0_2).bind fun p0 => (if (wrap64 ((mx (wrap64 ((wrap64 (p0 - 53)) + a0_3)) (-1074)) - a0_3)) > 0 then ((wide_U128_Shr.f k a0_1 a0_2 (wrap64 ((wrap64 ((mx (wrap64 ((wrap64 (p0 - 53)) + a0_3)) (-1074)) - a0_3)) - 1))).bind fun q0 => (if a0_4 = true then ((wide_U128_Shr.f k q0.1 q0.2.1 1).bind fun u0 => (round_number_float.j0 k a1 p0 (mx (wrap64 ((wrap64 (p0 - 53)) + a0_3)) (-1074)) ((Go.bits .and .u64 q0.2.1 1) == 1) true a0_0 a0_1 a0_2 a0_3 a0_4 u0.1 u0.2.1)) else ((wide_U128_Shr.f k q0.1 q0.2.1 1).bind fun v0 => (round_number_float.j0 k a1 p0 (mx (wrap64 ((wrap64 (p0 - 53)) + a0_3)) (-1074)) ((Go.bits .and .u64 q0.2.1 1) == 1) q0.2.2 a0_0 a0_1 a0_2 a0_3 a0_4 v0.1 v0.2.1)))) else ((wide_U128_Shl.f k a0_1 a0_2 (wrap64 (-(wrap64 ((mx (wrap64 ((wrap64 (p0 - 53)) + a0_3)) (-1074)) - a0_3))))).bind fun y0 => (round_number_float.j0 k a1 p0 (mx (wrap64 ((wrap64 (p0 - 53)) + a0_3)) (-1074)) false a0_4 a0_0 a0_1 a0_2 a0_3 a0_4 y0.1 y0.2)))
def round_Round.f (k : Nat) (a0 : Bool) (a1_0 : Int) (a1_1 : Int) (a2 : Int) (a3 : Bool) (a4 : Int) : Option (Int × Int) := (wide_U128_Len.f a1_0 a1_1).bind fun p0 => (if p0 = 0 then ((pattern_Make.f k a0 0 0).bind fun q0 => (some (q0.1, 0))) else (if a3 = true then ((round_number_float.f k a0 a1_0 a1_1 (mn (mx a2 (-5000)) 5000) (decide (p0 > 53)) a4).bind fun u0 => (some (u0.1, u0.2))) else ((round_number_float.f k a0 a1_0 a1_1 (mn (mx a2 (-5000)) 5000) false a4).bind fun v0 => (some (v0.1, v0.2)))))
def wide_U128_Add.f (a0_0 : Int) (a0_1 : Int) (a1_0 : Int) (a1_1 : Int) : Option (Int × Int × Int) :=
 if 0 ≤ a0_0 ∧ 0 ≤ a0_1 ∧ 0 ≤ a1_0 ∧ 0 ≤ a1_1 ∧ a0_1 < 18446744073709551616 ∧ a1_1 < 18446744073709551616 then
  some ((a0_0 + a1_0 + (a0_1 + a1_1) / 18446744073709551616) % 18446744073709551616, (a0_1 + a1_1) % 18446744073709551616, (a0_0 + a1_0 + (a0_1 + a1_1) / 18446744073709551616) / 18446744073709551616)
 else none
def wide_U128_Sub.f (a0_0 : Int) (a0_1 : Int) (a1_0 : Int) (a1_1 : Int) : Option (Int × Int × Int) :=
 if 0 ≤ a0_0 ∧ 0 ≤ a0_1 ∧ 0 ≤ a1_0 ∧ 0 ≤ a1_1 ∧ a0_0 < 18446744073709551616 ∧ a0_1 < 18446744073709551616 ∧ a1_0 < 18446744073709551616 ∧ a1_1 < 18446744073709551616 then
  some ((a0_0 - a1_0 - (if a0_1 < a1_1 then 1 else 0)) % 18446744073709551616, (a0_1 - a1_1) % 18446744073709551616, if a0_0 < a1_0 + (if a0_1 < a1_1 then 1 else 0) then 1 else 0)
 else none
def soft_num_add.f (k : Nat) (a0_0 : Int) (a0_1 : Int) (a0_2 : Bool) (a0_3 : Int) (a0_4 : Int) (a1_0 : Int) (a1_1 : Int) (a1_2 : Bool) (a1_3 : Int) (a1_4 : Int) (a2 : Int) : Option (Int × Int) := (wide_U128_Shl.f k 0 a0_3 70).bind fun p0 => ((wide_U128_Shl.f k 0 a1_3 70).bind fun q0 => ((wide_U128_Shr.f k q0.1 q0.2 (wrap64 (a0_4 - a1_4))).bind fun u0 => (if (a0_2 == a1_2) = true then ((wide_U128_Add.f p0.1 p0.2 u0.1 u0.2.1).bind fun v0 => ((round_Round.f k a0_2 v0.1 v0.2.1 (wrap64 (a0_4 - 70)) u0.2.2 a2).bind fun y0 => (some (y0.1, y0.2)))) else ((wide_U128_Sub.f p0.1 p0.2 u0.1 u0.2.1).bind fun z0 => (if (z0.1 == 0 && (z0.2.1 == 0)) = true then ((soft_zero.f k (a2 == 2)).bind fun e0 => (some (e0, 0))) else (if u0.2.2 = true then ((wide_U128_Sub.f z0.1 z0.2.1 0 1).bind fun f0 => ((round_Round.f k a0_2 f0.1 f0.2.1 (wrap64 (a0_4 - 70)) u0.2.2 a2).bind fun g0 => (some (g0.1, g0.2)))) else ((round_Round.f k a0_2 z0.1 z0.2.1 (wrap64 (a0_4 - 70)) u0.2.2 a2).bind fun h0 => (some (h0.1, h0.2)))))))))
mutual
def soft_Add.j0 : Nat → Int → Int → Int → Bool → Int → Int → Bool → Int → Int → Int → Int → Bool → Int → Int → Option (Int × Int)
 | 0, _, _, _, _, _, _, _, _, _, _, _, _, _, _ => none
 | k + 1, x0, x1, x2, p0, q0, u0, v0, y0, z0, e0, f0, g0, h0, i0 => if p0 = true then ((soft_invalid.f).bind fun p1 => (some (p1.1, p1.2))) else (if u0 = 3 then (some (x0, 0)) else (if f0 = 3 then (some (x1, 0)) else (if y0 = 0 then (if h0 = 0 then (soft_Add.j1 k x0 x1 x2 (v0 == g0) q0 u0 v0 y0 z0 e0 f0 g0 h0 i0) else (soft_Add.j1 k x0 x1 x2 false q0 u0 v0 y0 z0 e0 f0 g0 h0 i0)) else (soft_Add.j1 k x0 x1 x2 false q0 u0 v0 y0 z0 e0 f0 g0 h0 i0))))
def soft_Add.j1 : Nat → Int → Int → Int → Bool → Int → Int → Bool → Int → Int → Int → Int → Bool → Int → Int → Option (Int × Int)
 | 0, _, _, _, _, _, _, _, _, _, _, _, _, _, _ => none
 | k + 1, x0, x1, x2, q1, q0, u0, v0, y0, z0, e0, f0, g0, h0, i0 => if q1 = true then (some (x0, 0)) else (if y0 = 0 then (soft_Add.j2 k x0 x1 x2 (h0 == 0) q0 u0 v0 y0 z0 e0 f0 g0 h0 i0) else (soft_Add.j2 k x0 x1 x2 false q0 u0 v0 y0 z0 e0 f0 g0 h0 i0))
def soft_Add.j2 : Nat → Int → Int → Int → Bool → Int → Int → Bool → Int → Int → Int → Int → Bool → Int → Int → Option (Int × Int)
 | 0, _, _, _, _, _, _, _, _, _, _, _, _, _, _ => none
 | k + 1, x0, x1, x2, u1, q0, u0, v0, y0, z0, e0, f0, g0, h0, i0 => if u1 = true then ((soft_zero.f k (x2 == 2)).bind fun v1 => (some (v1, 0))) else (if y0 = 0 then (some (x1, 0)) else (if h0 = 0 then (some (x0, 0)) else (if z0 < i0 then ((soft_num_add.f k e0 f0 g0 h0 i0 q0 u0 v0 y0 z0 x2).bind fun y1 => (some (y1.1, y1.2))) else (if z0 = i0 then (if y0 < h0 then ((soft_num_add.f k e0 f0 g0 h0 i0 q0 u0 v0 y0 z0 x2).bind fun z1 => (some (z1.1, z1.2))) else ((soft_num_add.f k q0 u0 v0 y0 z0 e0 f0 g0 h0 i0 x2).bind fun e1 => (some (e1.1, e1.2)))) else ((soft_num_add.f k q0 u0 v0 y0 z0 e0 f0 g0 h0 i0 x2).bind fun f1 => (some (f1.1, f1.2)))))))
end
def soft_Add.f (k : Nat) (a0 : Int) (a1 : Int) (a2 : Int) : Option (Int × Int) := (soft_of.f k a0).bind fun p0 => ((soft_of.f k a1).bind fun q0 => ((soft_either.f p0.1 p0.2.1 p0.2.2.1 p0.2.2.2.1 p0.2.2.2.2 q0.1 q0.2.1 q0.2.2.1 q0.2.2.2.1 q0.2.2.2.2 4).bind fun u0 => (if u0 = true then ((pattern_Quiet.f).bind fun v0 => (some (v0, 0))) else (if p0.2.1 = 3 then (if q0.2.1 = 3 then (soft_Add.j0 k a0 a1 a2 (p0.2.2.1 != q0.2.2.1) p0.1 p0.2.1 p0.2.2.1 p0.2.2.2.1 p0.2.2.2.2 q0.1 q0.2.1 q0.2.2.1 q0.2.2.2.1 q0.2.2.2.2) else (soft_Add.j0 k a0 a1 a2 false p0.1 p0.2.1 p0.2.2.1 p0.2.2.2.1 p0.2.2.2.2 q0.1 q0.2.1 q0.2.2.1 q0.2.2.2.1 q0.2.2.2.2)) else (soft_Add.j0 k a0 a1 a2 false p0.1 p0.2.1 p0.2.2.1 p0.2.2.2.1 p0.2.2.2.2 q0.1 q0.2.1 q0.2.2.1 q0.2.2.2.1 q0.2.2.2.2)))))
def pattern_nan.f (k : Nat) (a0 : Int) : Option (Bool) := (pattern_Class.f k a0).bind fun p0 => (some (p0 == 4))
def pattern_Neg.f (k : Nat) (a0 : Int) : Option (Int) := (pattern_nan.f k a0).bind fun p0 => (if p0 = true then (some a0) else (some (Go.bits .xor .u64 a0 9223372036854775808)))
def soft_Sub.f (k : Nat) (a0 : Int) (a1 : Int) (a2 : Int) : Option (Int × Int) := (pattern_Neg.f k a1).bind fun p0 => ((soft_Add.f k a0 p0 a2).bind fun q0 => (some (q0.1, q0.2)))
def bits_Mul64.f (a0 : Int) (a1 : Int) : Option (Int × Int) :=
 if 0 ≤ a0 ∧ 0 ≤ a1 ∧ a0 < 18446744073709551616 ∧ a1 < 18446744073709551616 then some (a0 * a1 / 18446744073709551616, a0 * a1 % 18446744073709551616) else none
def wide_Mul.f (a0 : Int) (a1 : Int) : Option (Int × Int) := (bits_Mul64.f a0 a1).bind fun p0 => (some (p0.1, p0.2))
def soft_Mul.j0 : Nat → Int → Bool → Bool → Int → Int → Bool → Int → Int → Int → Int → Bool → Int → Int → Option (Int × Int)
 | 0, _, _, _, _, _, _, _, _, _, _, _, _, _ => none
 | k + 1, x2, p0, q0, u0, v0, y0, z0, e0, f0, g0, h0, i0, p1 => if q0 = true then ((soft_invalid.f).bind fun q1 => (some (q1.1, q1.2))) else ((soft_either.f u0 v0 y0 z0 e0 f0 g0 h0 i0 p1 3).bind fun u1 => (if u1 = true then ((pattern_Inf.f k p0).bind fun v1 => (some (v1, 0))) else ((wide_Mul.f z0 i0).bind fun y1 => ((round_Round.f k p0 y1.1 y1.2 (wrap64 (e0 + p1)) false x2).bind fun z1 => (some (z1.1, z1.2))))))
def soft_Mul.f (k : Nat) (a0 : Int) (a1 : Int) (a2 : Int) : Option (Int × Int) := (soft_of.f k a0).bind fun p0 => ((soft_of.f k a1).bind fun q0 => ((soft_either.f p0.1 p0.2.1 p0.2.2.1 p0.2.2.2.1 p0.2.2.2.2 q0.1 q0.2.1 q0.2.2.1 q0.2.2.2.1 q0.2.2.2.2 4).bind fun u0 => (if u0 = true then ((pattern_Quiet.f).bind fun v0 => (some (v0, 0))) else ((soft_either.f p0.1 p0.2.1 p0.2.2.1 p0.2.2.2.1 p0.2.2.2.2 q0.1 q0.2.1 q0.2.2.1 q0.2.2.2.1 q0.2.2.2.2 3).bind fun y0 => (if y0 = true then ((soft_either.f p0.1 p0.2.1 p0.2.2.1 p0.2.2.2.1 p0.2.2.2.2 q0.1 q0.2.1 q0.2.2.1 q0.2.2.2.1 q0.2.2.2.2 0).bind fun z0 => (soft_Mul.j0 k a2 (p0.2.2.1 != q0.2.2.1) z0 p0.1 p0.2.1 p0.2.2.1 p0.2.2.2.1 p0.2.2.2.2 q0.1 q0.2.1 q0.2.2.1 q0.2.2.2.1 q0.2.2.2.2)) else (soft_Mul.j0 k a2 (p0.2.2.1 != q0.2.2.1) false p0.1 p0.2.1 p0.2.2.1 p0.2.2.2.1 p0.2.2.2.2 q0.1 q0.2.1 q0.2.2.1 q0.2.2.2.1 q0.2.2.2.2))))))
def bits_LeadingZeros64.f (a0 : Int) : Option Int := if 0 ≤ a0 ∧ a0 ≤ 18446744073709551615 then some (64 - (Lib.bitLen a0.toNat : Int)) else none
mutual
def bits_Div64q.j2 : Nat → Int → Int → Int → Int → Int → Int → Int → Int → Option (Int × Int)
 | 0, _, _, _, _, _, _, _, _ => none
 | k + 1, x2, x8, x9, p0, q0, u0, v0, y0 => if x9 = 0 then (none) else (bits_Div64q.l1 k x2 x8 x9 p0 v0 y0 (IntKind.u64.wrap ((IntKind.u64.wrap ((IntKind.u64.wrap ((IntKind.u64.wrap (q0 * 4294967296)) + u0)) - (IntKind.u64.wrap (y0 * x2)))) - (IntKind.u64.wrap ((IntKind.u64.wrap (Int.tdiv (IntKind.u64.wrap ((IntKind.u64.wrap ((IntKind.u64.wrap (q0 * 4294967296)) + u0)) - (IntKind.u64.wrap (y0 * x2)))) x9)) * x9)))) (IntKind.u64.wrap ((IntKind.u64.wrap ((IntKind.u64.wrap (q0 * 4294967296)) + u0)) - (IntKind.u64.wrap (y0 * x2)))) (IntKind.u64.wrap (Int.tdiv (IntKind.u64.wrap ((IntKind.u64.wrap ((IntKind.u64.wrap (q0 * 4294967296)) + u0)) - (IntKind.u64.wrap (y0 * x2)))) x9)))
def bits_Div64q.l1 : Nat → Int → Int → Int → Int → Int → Int → Int → Int → Int → Option (Int × Int)
 | 0, _, _, _, _, _, _, _, _, _ => none
 | k + 1, x2, x8, x9, p0, v0, y0, z0, e0, f0 => if f0 ≥ 4294967296 then (bits_Div64q.j4 k x2 x8 x9 p0 v0 y0 z0 e0 f0 true) else (bits_Div64q.j4 k x2 x8 x9 p0 v0 y0 z0 e0 f0 (decide ((IntKind.u64.wrap (f0 * p0)) > (IntKind.u64.wrap ((IntKind.u64.wrap (4294967296 * z0)) + v0)))))
def bits_Div64q.j4 : Nat → Int → Int → Int → Int → Int → Int → Int → Int → Int → Bool → Option (Int × Int)
 | 0, _, _, _, _, _, _, _, _, _, _ => none
 | k + 1, x2, x8, x9, p0, v0, y0, z0, e0, f0, g0 => if g0 = true then (if (IntKind.u64.wrap (z0 + x9)) ≥ 4294967296 then (if 0 ≤ x8 then (some (IntKind.u64.wrap ((IntKind.u64.wrap (y0 * 4294967296)) + (IntKind.u64.wrap (f0 - 1))), shr .u64 (IntKind.u64.wrap ((IntKind.u64.wrap ((IntKind.u64.wrap (e0 * 4294967296)) + v0)) - (IntKind.u64.wrap ((IntKind.u64.wrap (f0 - 1)) * x2)))) x8)) else (none)) else (bits_Div64q.l1 k x2 x8 x9 p0 v0 y0 (IntKind.u64.wrap (z0 + x9)) e0 (IntKind.u64.wrap (f0 - 1)))) else (if 0 ≤ x8 then (some (IntKind.u64.wrap ((IntKind.u64.wrap (y0 * 4294967296)) + f0), shr .u64 (IntKind.u64.wrap ((IntKind.u64.wrap ((IntKind.u64.wrap (e0 * 4294967296)) + v0)) - (IntKind.u64.wrap (f0 * x2)))) x8)) else (none))
def bits_Div64q.l0 : Nat → Int → Int → Int → Int → Int → Int → Int → Int → Int → Option (Int × Int)
 | 0, _, _, _, _, _, _, _, _, _ => none
 | k + 1, x2, x8, x9, p0, q0, u0, v0, y0, z0 => if y0 ≥ 4294967296 then (bits_Div64q.j1 k x2 x8 x9 p0 q0 u0 v0 y0 z0 true) else (bits_Div64q.j1 k x2 x8 x9 p0 q0 u0 v0 y0 z0 (decide ((IntKind.u64.wrap (y0 * p0)) > (IntKind.u64.wrap ((IntKind.u64.wrap (4294967296 * z0)) + u0)))))
def bits_Div64q.j1 : Nat → Int → Int → Int → Int → Int → Int → Int → Int → Int → Bool → Option (Int × Int)
 | 0, _, _, _, _, _, _, _, _, _, _ => none
 | k + 1, x2, x8, x9, p0, q0, u0, v0, y0, z0, h0 => if h0 = true then (if (IntKind.u64.wrap (z0 + x9)) ≥ 4294967296 then (bits_Div64q.j2 k x2 x8 x9 p0 q0 u0 v0 (IntKind.u64.wrap (y0 - 1))) else (bits_Div64q.l0 k x2 x8 x9 p0 q0 u0 v0 (IntKind.u64.wrap (y0 - 1)) (IntKind.u64.wrap (z0 + x9)))) else (bits_Div64q.j2 k x2 x8 x9 p0 q0 u0 v0 y0)
end
def bits_Div64q.f (k : Nat) (a0 : Int) (a1 : Int) (a2 : Int) : Option (Int × Int) := if a0 = 0 then (if a2 = 0 then (none) else (some (IntKind.u64.wrap (Int.tdiv a1 a2), Int.tmod a1 a2))) else ((bits_LeadingZeros64.f a2).bind fun p0 => (if 0 ≤ (IntKind.u64.wrap (p0)) then (if 0 ≤ (IntKind.u64.wrap (64 - (IntKind.u64.wrap (p0)))) then (if ((shl .u64 a2 (IntKind.u64.wrap (p0))) / 4294967296) = 0 then (none) else (bits_Div64q.l0 k (shl .u64 a2 (IntKind.u64.wrap (p0))) (IntKind.u64.wrap (p0)) ((shl .u64 a2 (IntKind.u64.wrap (p0))) / 4294967296) (Go.bits .and .u64 (shl .u64 a2 (IntKind.u64.wrap (p0))) 4294967295) (Go.bits .or .u64 (shl .u64 a0 (IntKind.u64.wrap (p0))) (shr .u64 a1 (IntKind.u64.wrap (64 - (IntKind.u64.wrap (p0)))))) ((shl .u64 a1 (IntKind.u64.wrap (p0))) / 4294967296) (Go.bits .and .u64 (shl .u64 a1 (IntKind.u64.wrap (p0))) 4294967295) (IntKind.u64.wrap (Int.tdiv (Go.bits .or .u64 (shl .u64 a0 (IntKind.u64.wrap (p0))) (shr .u64 a1 (IntKind.u64.wrap (64 - (IntKind.u64.wrap (p0)))))) ((shl .u64 a2 (IntKind.u64.wrap (p0))) / 4294967296))) (IntKind.u64.wrap ((Go.bits .or .u64 (shl .u64 a0 (IntKind.u64.wrap (p0))) (shr .u64 a1 (IntKind.u64.wrap (64 - (IntKind.u64.wrap (p0)))))) - (IntKind.u64.wrap ((IntKind.u64.wrap (Int.tdiv (Go.bits .or .u64 (shl .u64 a0 (IntKind.u64.wrap (p0))) (shr .u64 a1 (IntKind.u64.wrap (64 - (IntKind.u64.wrap (p0)))))) ((shl .u64 a2 (IntKind.u64.wrap (p0))) / 4294967296))) * ((shl .u64 a2 (IntKind.u64.wrap (p0))) / 4294967296))))))) else (none)) else (none)))
def bits_Div64.f (a0 : Int) (a1 : Int) (a2 : Int) : Option (Int × Int) :=
 if 0 ≤ a0 ∧ 0 ≤ a1 ∧ a1 < 18446744073709551616 ∧ a0 < a2 ∧ a2 < 18446744073709551616 then
  some ((a0 * 18446744073709551616 + a1) / a2, (a0 * 18446744073709551616 + a1) % a2) else none
def wide_U128_Div.f (a0_0 : Int) (a0_1 : Int) (a1 : Int) : Option (Int × Int × Int) := if a1 = 0 then (some (0, 0, 0)) else ((bits_Div64.f 0 a0_0 a1).bind fun p0 => ((bits_Div64.f p0.2 a0_1 a1).bind fun q0 => (some (p0.1, q0.1, q0.2))))
mutual
def soft_Div.j0 : Nat → Int → Bool → Bool → Int → Int → Bool → Int → Int → Int → Int → Bool → Int → Int → Option (Int × Int)
 | 0, _, _, _, _, _, _, _, _, _, _, _, _, _ => none
 | k + 1, x2, p0, q0, u0, v0, y0, z0, e0, f0, g0, h0, i0, p1 => if q0 = true then ((soft_invalid.f).bind fun q1 => (some (q1.1, q1.2))) else (if v0 = 3 then ((pattern_Inf.f k p0).bind fun u1 => (some (u1, 0))) else (if g0 = 0 then ((pattern_Inf.f k p0).bind fun v1 => (some (v1, 8))) else (if v0 = 0 then (soft_Div.j1 k x2 p0 (v0 == 0) u0 v0 y0 z0 e0 f0 g0 h0 i0 p1) else (soft_Div.j1 k x2 p0 (g0 == 3) u0 v0 y0 z0 e0 f0 g0 h0 i0 p1))))
def soft_Div.j1 : Nat → Int → Bool → Bool → Int → Int → Bool → Int → Int → Int → Int → Bool → Int → Int → Option (Int × Int)
 | 0, _, _, _, _, _, _, _, _, _, _, _, _, _ => none
 | k + 1, x2, p0, y1, u0, v0, y0, z0, e0, f0, g0, h0, i0, p1 => if y1 = true then ((soft_zero.f k p0).bind fun z1 => (some (z1, 0))) else ((wide_U128_Len.f 0 z0).bind fun e1 => (if 0 ≤ (wrap64 (64 - e1)) then ((wide_U128_Div.f (shl .u64 z0 (wrap64 (64 - e1))) 0 i0).bind fun f1 => ((round_Round.f k p0 f1.1 f1.2.1 (wrap64 ((wrap64 ((wrap64 (e0 - (wrap64 (64 - e1)))) - 64)) - p1)) (f1.2.2 != 0) x2).bind fun g1 => (some (g1.1, g1.2)))) else (none)))
end
def soft_Div.f (k : Nat) (a0 : Int) (a1 : Int) (a2 : Int) : Option (Int × Int) := (soft_of.f k a0).bind fun p0 => ((soft_of.f k a1).bind fun q0 => ((soft_either.f p0.1 p0.2.1 p0.2.2.1 p0.2.2.2.1 p0.2.2.2.2 q0.1 q0.2.1 q0.2.2.1 q0.2.2.2.1 q0.2.2.2.2 4).bind fun u0 => (if u0 = true then ((pattern_Quiet.f).bind fun v0 => (some (v0, 0))) else (if p0.2.1 = q0.2.1 then (if p0.2.1 = 3 then (soft_Div.j0 k a2 (p0.2.2.1 != q0.2.2.1) true p0.1 p0.2.1 p0.2.2.1 p0.2.2.2.1 p0.2.2.2.2 q0.1 q0.2.1 q0.2.2.1 q0.2.2.2.1 q0.2.2.2.2) else (soft_Div.j0 k a2 (p0.2.2.1 != q0.2.2.1) (p0.2.1 == 0) p0.1 p0.2.1 p0.2.2.1 p0.2.2.2.1 p0.2.2.2.2 q0.1 q0.2.1 q0.2.2.1 q0.2.2.2.1 q0.2.2.2.2)) else (soft_Div.j0 k a2 (p0.2.2.1 != q0.2.2.1) false p0.1 p0.2.1 p0.2.2.1 p0.2.2.2.1 p0.2.2.2.2 q0.1 q0.2.1 q0.2.2.1 q0.2.2.2.1 q0.2.2.2.2)))))
def flyballref04_Parts.f (a0 : Int) : Option (Bool × Int × Int) := some (((IntKind.u64.wrap (Int.tdiv a0 9223372036854775808)) == 1), wrap64 (Int.tmod (IntKind.u64.wrap (Int.tdiv a0 4503599627370496)) 2048), Int.tmod a0 4503599627370496)
mutual
def flyballref04_Class.j0 : Nat → Int → Int → Bool → Option (Int)
 | 0, _, _, _ => none
 | k + 1, x4, x5, p0 => if p0 = true then (some 3) else (if x4 = 2047 then (some 4) else (if x4 = 0 then (flyballref04_Class.j1 k x4 (x5 == 0)) else (flyballref04_Class.j1 k x4 false)))
def flyballref04_Class.j1 : Nat → Int → Bool → Option (Int)
 | 0, _, _ => none
 | k + 1, x4, q0 => if q0 = true then (some 0) else (if x4 = 0 then (some 1) else (some 2))
end
def flyballref04_Class.f (k : Nat) (a0 : Int) : Option (Int) := (flyballref04_Parts.f a0).bind fun p0 => (if p0.2.1 = 2047 then (flyballref04_Class.j0 k p0.2.1 p0.2.2 (p0.2.2 == 0)) else (flyballref04_Class.j0 k p0.2.1 p0.2.2 false))
def flyballref06_is.f (k : Nat) (a0 : Int) (a1 : Int) : Option (Bool) := (flyballref04_Class.f k a0).bind fun p0 => (some (p0 == a1))
def flyballref06_neg.f (a0 : Int) : Option (Bool) := some ((a0 / 9223372036854775808) == 1)
def flyballref04_Split.f (k : Nat) (a0 : Int) : Option (Int × Int) := (flyballref04_Parts.f a0).bind fun p0 => ((flyballref04_Class.f k a0).bind fun q0 => (if q0 = 2 then (some (IntKind.u64.wrap (4503599627370496 + p0.2.2), wrap64 (p0.2.1 - 1075))) else (if q0 = 1 then (some (p0.2.2, (-1074))) else (some (0, 0)))))
def flyballref01_Shl.l0 : Nat → List Bool → Int → List Bool → Int → Option (List Bool)
 | 0, _, _, _, _ => none
 | k + 1, x0, x1, x5, x6 => if x6 < x1 then (if x5.length < 140737488355328 then (flyballref01_Shl.l0 k x0 x1 (x5 ++ [false]) (wrap64 (x6 + 1))) else (none)) else (if x5.length + x0.length < 140737488355328 then (some (x5 ++ x0)) else (none))
def flyballref01_Shl.f (k : Nat) (l0 : List Bool) (a1 : Int) : Option (List Bool) := flyballref01_Shl.l0 k l0 a1 ([] : List Bool) 0
def flyballref01_Len.l0 : Nat → List Bool → Int → Option (Int)
 | 0, _, _ => none
 | k + 1, x0, x3 => if x3 > 0 then (if 0 ≤ (wrap64 (x3 - 1)) then (if (wrap64 (x3 - 1)) < (x0.length : Int) then (if (rdOf false x0 (wrap64 (x3 - 1)) = true) then (some x3) else (flyballref01_Len.l0 k x0 (wrap64 (x3 - 1)))) else (none)) else (none)) else (some x3)
def flyballref01_Len.f (k : Nat) (l0 : List Bool) : Option (Int) := flyballref01_Len.l0 k l0 (l0.length : Int)
mutual
def flyballref01_Of.l0 : Nat → List Int → List Bool → Int → Option (List Bool)
 | 0, _, _, _ => none
 | k + 1, x0, x3, x4 => if x4 < (x0.length : Int) then (flyballref01_Of.l1 k x0 x3 x4 0) else (some x3)
def flyballref01_Of.l1 : Nat → List Int → List Bool → Int → Int → Option (List Bool)
 | 0, _, _, _, _ => none
 | k + 1, x0, x3, x4, x5 => if x5 < 64 then (if 0 ≤ x4 then (if x4 < (x0.length : Int) then (if 0 ≤ (IntKind.u64.wrap (x5)) then (if x3.length < 140737488355328 then (flyballref01_Of.l1 k x0 (x3 ++ [((Go.bits .and .u64 (shr .u64 (rd x0 x4) (IntKind.u64.wrap (x5))) 1) == 1)]) x4 (wrap64 (x5 + 1))) else (none)) else (none)) else (none)) else (none)) else (flyballref01_Of.l0 k x0 x3 (wrap64 (x4 + 1)))
end
def flyballref01_Of.f (k : Nat) (l0 : List Int) : Option (List Bool) := flyballref01_Of.l0 k l0 ([] : List Bool) 0
def flyballref06_bits.f (k : Nat) (a0 : Int) : Option (List Bool) := (flyballref01_Of.f k (([a0] : List Int))).bind fun p0 => ((flyballref01_Len.f k p0).bind fun q0 => (if 0 ≤ q0 then (if q0 ≤ (p0.length : Int) then (some (p0.take (q0 : Int).toNat)) else (none)) else (none)))
def flyballref01_bit.f (l0 : List Bool) (a1 : Int) : Option (Bool) := if a1 ≥ 0 then (if a1 < (l0.length : Int) then (if 0 ≤ a1 then (some (rdOf false l0 a1)) else (none)) else (some false)) else (some false)
mutual
def flyballref01_Add.l0 : Nat → List Bool → List Bool → List Bool → Bool → Int → Option (List Bool)
 | 0, _, _, _, _, _ => none
 | k + 1, x0, x1, x5, x6, x7 => if x7 < (x0.length : Int) then (flyballref01_Add.j1 k x0 x1 x5 x6 x7 true) else (if x7 < (x1.length : Int) then (flyballref01_Add.j1 k x0 x1 x5 x6 x7 true) else (flyballref01_Add.j1 k x0 x1 x5 x6 x7 x6))
def flyballref01_Add.j1 : Nat → List Bool → List Bool → List Bool → Bool → Int → Bool → Option (List Bool)
 | 0, _, _, _, _, _, _ => none
 | k + 1, x0, x1, x5, x6, x7, p0 => if p0 = true then ((flyballref01_bit.f x0 x7).bind fun q0 => ((flyballref01_bit.f x1 x7).bind fun u0 => (if x5.length < 140737488355328 then ((some (x5 ++ [((q0 != u0) != x6)] : List Bool)).bind fun v0 => (if q0 = true then (if u0 = true then (flyballref01_Add.l0 k x0 x1 v0 true (wrap64 (x7 + 1))) else (if x6 = true then (flyballref01_Add.l0 k x0 x1 v0 true (wrap64 (x7 + 1))) else (flyballref01_Add.l0 k x0 x1 v0 false (wrap64 (x7 + 1))))) else (if u0 = true then (flyballref01_Add.l0 k x0 x1 v0 x6 (wrap64 (x7 + 1))) else (flyballref01_Add.l0 k x0 x1 v0 false (wrap64 (x7 + 1)))))) else (none)))) else (some x5)
end
def flyballref01_Add.f (k : Nat) (l0 : List Bool) (l1 : List Bool) : Option (List Bool) := flyballref01_Add.l0 k l0 l1 ([] : List Bool) false 0
def flyballref01_Cmp.l0 : Nat → List Bool → List Bool → Int → Option (Int)
 | 0, _, _, _ => none
 | k + 1, x0, x1, x5 => if x5 ≥ 0 then ((flyballref01_bit.f x0 x5).bind fun p0 => ((flyballref01_bit.f x1 x5).bind fun q0 => (if (p0 != q0) = true then (if p0 = true then (some 1) else (some (-1))) else (flyballref01_Cmp.l0 k x0 x1 (wrap64 (x5 - 1)))))) else (some 0)
def flyballref01_Cmp.f (k : Nat) (l0 : List Bool) (l1 : List Bool) : Option (Int) := flyballref01_Cmp.l0 k l0 l1 (wrap64 ((mx (l0.length : Int) (l1.length : Int)) - 1))
def flyballref04_Make.f (a0 : Bool) (a1 : Int) (a2 : Int) : Option (Int) := if a0 = true then (some (IntKind.u64.wrap ((IntKind.u64.wrap ((IntKind.u64.wrap ((IntKind.u64.wrap (a1)) * 4503599627370496)) + a2)) + 9223372036854775808))) else (some (IntKind.u64.wrap ((IntKind.u64.wrap ((IntKind.u64.wrap (a1)) * 4503599627370496)) + a2)))
def flyballref04_Of.j0 : Nat → Int → Bool → Option (Int)
 | 0, _, _ => none
 | k + 1, x0, p0 => if p0 = true then ((flyballref04_Make.f true (wrap64 (Int.tdiv (wrap64 (-x0)) 4503599627370496)) (IntKind.u64.wrap (Int.tmod (wrap64 (-x0)) 4503599627370496))).bind fun q0 => (some q0)) else ((flyballref04_Make.f false (wrap64 (Int.tdiv x0 4503599627370496)) (IntKind.u64.wrap (Int.tmod x0 4503599627370496))).bind fun u0 => (some u0))
def flyballref04_Of.f (k : Nat) (a0 : Int) (a1 : Bool) : Option (Int) := if a0 < 0 then (flyballref04_Of.j0 k a0 true) else (if a0 = 0 then (flyballref04_Of.j0 k a0 a1) else (flyballref04_Of.j0 k a0 false))
def flyballref05_split.f (k : Nat) (a0 : Int) : Option (List Bool × Int) := if (a0 / 4503599627370496) = 0 then ((flyballref01_Of.f k (([IntKind.u64.wrap (Go.bits .and .i64 a0 4503599627370495)] : List Int))).bind fun p0 => (some (p0, (-1074)))) else ((flyballref01_Of.f k (([IntKind.u64.wrap ((IntKind.u64.wrap (Go.bits .and .i64 a0 4503599627370495)) + 4503599627370496)] : List Int))).bind fun q0 => (some (q0, wrap64 ((a0 / 4503599627370496) - 1075))))
def flyballref01_Mul.l0 : Nat → List Bool → List Bool → List Bool → Int → Option (List Bool)
 | 0, _, _, _, _ => none
 | k + 1, x0, x1, x5, x6 => if x6 < (x1.length : Int) then (if 0 ≤ x6 then (if rdOf false x1 x6 = true then ((flyballref01_Shl.f k x0 x6).bind fun p0 => ((flyballref01_Add.f k x5 p0).bind fun q0 => (flyballref01_Mul.l0 k x0 x1 q0 (wrap64 (x6 + 1))))) else (flyballref01_Mul.l0 k x0 x1 x5 (wrap64 (x6 + 1)))) else (none)) else (some x5)
def flyballref01_Mul.f (k : Nat) (l0 : List Bool) (l1 : List Bool) : Option (List Bool) := flyballref01_Mul.l0 k l0 l1 ([] : List Bool) 0
def flyballref05_cmp.f (k : Nat) (l0_0 : List Bool) (l0_1 : List Bool) (a0_2 : Int) (a0_3 : Bool) (l1 : List Bool) (a2 : Int) : Option (Int) := (flyballref01_Shl.f k l0_0 (wrap64 (a0_2 - (mn a0_2 a2)))).bind fun p0 => ((flyballref01_Mul.f k l1 l0_1).bind fun q0 => ((flyballref01_Shl.f k q0 (wrap64 (a2 - (mn a0_2 a2)))).bind fun u0 => ((flyballref01_Cmp.f k p0 u0).bind fun v0 => (if v0 = 0 then (if a0_3 = true then (some 1) else (some v0)) else (some v0)))))
def flyballref05_floor.l0 : Nat → Int → Int → List Bool → List Bool → Int → Bool → Option (Int)
 | 0, _, _, _, _, _, _ => none
 | k + 1, x3, x4, p0, q0, u0, v0 => if x3 < x4 then ((flyballref05_split.f k (wrap64 (x4 - (wrap64 (Int.tdiv (wrap64 (x4 - x3)) 2))))).bind fun y0 => ((flyballref05_cmp.f k p0 q0 u0 v0 y0.1 y0.2).bind fun z0 => (if z0 ≥ 0 then (flyballref05_floor.l0 k (wrap64 (x4 - (wrap64 (Int.tdiv (wrap64 (x4 - x3)) 2)))) x4 p0 q0 u0 v0) else (flyballref05_floor.l0 k x3 (wrap64 ((wrap64 (x4 - (wrap64 (Int.tdiv (wrap64 (x4 - x3)) 2)))) - 1)) p0 q0 u0 v0)))) else (some x3)
def flyballref05_floor.f (k : Nat) (l0_0 : List Bool) (l0_1 : List Bool) (a0_2 : Int) (a0_3 : Bool) : Option (Int) := flyballref05_floor.l0 k 0 9218868437227405312 l0_0 l0_1 a0_2 a0_3
mutual
def flyballref05_Magnitude.j0 : Nat → Int → Int → Int → Bool → List Bool → List Bool → List Bool → Int → Bool → Option (Int × Int)
 | 0, _, _, _, _, _, _, _, _, _ => none
 | k + 1, x1, x6, x7, p0, q0, u0, v0, y0, z0 => if x1 = 1 then (flyballref05_Magnitude.j1 k x1 x6 x7 (!p0)) else (if x1 = 2 then (flyballref05_Magnitude.j1 k x1 x6 x7 false) else ((flyballref05_split.f k x7).bind fun e0 => (if x7 > 9218868437227405311 then ((flyballref05_split.f k 9218868437227405311).bind fun f0 => ((flyballref01_Add.f k f0.1 q0).bind fun g0 => ((flyballref01_Shl.f k g0 1).bind fun h0 => ((flyballref01_Add.f k h0 q0).bind fun i0 => ((flyballref05_cmp.f k u0 v0 y0 z0 i0 (wrap64 (f0.2 - 1))).bind fun p1 => (if p1 > 0 then (flyballref05_Magnitude.j1 k x1 x6 x7 true) else (if p1 = 0 then (flyballref05_Magnitude.j1 k x1 x6 x7 ((Int.tmod x7 2) == 1)) else (flyballref05_Magnitude.j1 k x1 x6 x7 false)))))))) else ((flyballref01_Shl.f k e0.1 1).bind fun q1 => ((flyballref01_Add.f k q1 q0).bind fun u1 => ((flyballref05_cmp.f k u0 v0 y0 z0 u1 (wrap64 (e0.2 - 1))).bind fun v1 => (if v1 > 0 then (flyballref05_Magnitude.j1 k x1 x6 x7 true) else (if v1 = 0 then (flyballref05_Magnitude.j1 k x1 x6 x7 ((Int.tmod x7 2) == 1)) else (flyballref05_Magnitude.j1 k x1 x6 x7 false)))))))))
def flyballref05_Magnitude.j1 : Nat → Int → Int → Int → Bool → Option (Int × Int)
 | 0, _, _, _, _ => none
 | k + 1, x1, x6, x7, y1 => if x7 ≤ 9218868437227405311 then (flyballref05_Magnitude.j2 k x1 x6 x7 y1) else (flyballref05_Magnitude.j2 k x1 x6 x7 false)
def flyballref05_Magnitude.j2 : Nat → Int → Int → Int → Bool → Option (Int × Int)
 | 0, _, _, _, _ => none
 | k + 1, x1, x6, x7, z1 => if z1 = true then (flyballref05_Magnitude.j3 k x1 x6 (wrap64 (x7 + 1))) else (flyballref05_Magnitude.j3 k x1 x6 x7)
def flyballref05_Magnitude.j3 : Nat → Int → Int → Int → Option (Int × Int)
 | 0, _, _, _ => none
 | k + 1, x1, x6, x7 => if x7 > 9218868437227405311 then (if x1 = 2 then (some (9218868437227405311, Go.bits .or .u8 (Go.bits .or .u8 x6 4) 1)) else (some (9218868437227405312, Go.bits .or .u8 (Go.bits .or .u8 x6 4) 1))) else (some (x7, x6))
end
def flyballref05_Magnitude.f (k : Nat) (l0_0 : List Bool) (l0_1 : List Bool) (a0_2 : Int) (a0_3 : Bool) (a1 : Int) : Option (Int × Int) := (flyballref05_floor.f k l0_0 l0_1 a0_2 a0_3).bind fun p0 => ((flyballref05_split.f k p0).bind fun q0 => ((flyballref05_cmp.f k l0_0 l0_1 a0_2 a0_3 q0.1 q0.2).bind fun u0 => ((flyballref01_Of.f k (([1] : List Int))).bind fun v0 => (if u0 = 0 then (flyballref05_Magnitude.j0 k a1 0 p0 (u0 == 0) v0 l0_0 l0_1 a0_2 a0_3) else ((flyballref05_cmp.f k l0_0 l0_1 a0_2 a0_3 v0 (-1022)).bind fun y0 => (if y0 < 0 then (flyballref05_Magnitude.j0 k a1 (Go.bits .or .u8 (Go.bits .or .u8 0 1) 2) p0 (u0 == 0) v0 l0_0 l0_1 a0_2 a0_3) else (flyballref05_Magnitude.j0 k a1 (Go.bits .or .u8 0 1) p0 (u0 == 0) v0 l0_0 l0_1 a0_2 a0_3)))))))
mutual
def flyballref05_Signed.j0 : Nat → Bool → Int → Int → Bool → List Bool → List Bool → Int → Bool → Option (Int × Int)
 | 0, _, _, _, _, _, _, _, _ => none
 | k + 1, x0, x2, x8, p0, q0, u0, v0, y0 => if p0 = true then (flyballref05_Signed.j1 k x0 2 q0 u0 v0 y0) else (if x0 = true then (if x2 = 2 then (flyballref05_Signed.j1 k x0 1 q0 u0 v0 y0) else (flyballref05_Signed.j1 k x0 x8 q0 u0 v0 y0)) else (flyballref05_Signed.j1 k x0 x8 q0 u0 v0 y0))
def flyballref05_Signed.j1 : Nat → Bool → Int → List Bool → List Bool → Int → Bool → Option (Int × Int)
 | 0, _, _, _, _, _, _ => none
 | k + 1, x0, x8, q0, u0, v0, y0 => (flyballref05_Magnitude.f k q0 u0 v0 y0 x8).bind fun z0 => (if x0 = true then ((flyballref04_Of.f k (wrap64 (-z0.1)) true).bind fun e0 => (some (e0, z0.2))) else ((flyballref04_Of.f k z0.1 false).bind fun f0 => (some (f0, z0.2))))
end
def flyballref05_Signed.f (k : Nat) (a0 : Bool) (l1_0 : List Bool) (l1_1 : List Bool) (a1_2 : Int) (a1_3 : Bool) (a2 : Int) : Option (Int × Int) := if a0 = true then (flyballref05_Signed.j0 k a0 a2 a2 (a2 == 1) l1_0 l1_1 a1_2 a1_3) else (flyballref05_Signed.j0 k a0 a2 a2 false l1_0 l1_1 a1_2 a1_3)
def flyballref05_Round.f (k : Nat) (a0 : Bool) (l1 : List Bool) (a2 : Int) (a3 : Bool) (a4 : Int) : Option (Int × Int) := (flyballref01_Len.f k l1).bind fun p0 => (if p0 = 0 then ((flyballref04_Of.f k 0 a0).bind fun q0 => (some (q0, 0))) else (if 0 ≤ p0 then (if p0 ≤ (l1.length : Int) then ((some (([true] : List Bool) : List Bool)).bind fun u0 => (if a3 = true then ((flyballref05_Signed.f k a0 (l1.take (p0 : Int).toNat) u0 (mn (mx a2 (-5000)) 5000) (decide (p0 ≥ 54)) a4).bind fun v0 => (some (v0.1, v0.2))) else ((flyballref05_Signed.f k a0 (l1.take (p0 : Int).toNat) u0 (mn (mx a2 (-5000)) 5000) false a4).bind fun y0 => (some (y0.1, y0.2))))) else (none)) else (none)))
def flyballref06_inf.f (a0 : Bool) : Option (Int) := (flyballref04_Make.f a0 2047 0).bind fun p0 => (some p0)
mutual
def flyballref06_Mul.j0 : Nat → Int → Int → Int → Bool → Option (Int × Int)
 | 0, _, _, _, _ => none
 | k + 1, x0, x1, x2, p0 => if p0 = true then (some (9221120237041090560, 0)) else ((flyballref06_is.f k x0 3).bind fun q0 => (if q0 = true then ((flyballref06_is.f k x1 0).bind fun u0 => (if u0 = true then (flyballref06_Mul.j1 k x0 x1 x2 true) else ((flyballref06_is.f k x0 0).bind fun v0 => (if v0 = true then ((flyballref06_is.f k x1 3).bind fun y0 => (flyballref06_Mul.j1 k x0 x1 x2 y0)) else (flyballref06_Mul.j1 k x0 x1 x2 false))))) else ((flyballref06_is.f k x0 0).bind fun z0 => (if z0 = true then ((flyballref06_is.f k x1 3).bind fun e0 => (flyballref06_Mul.j1 k x0 x1 x2 e0)) else (flyballref06_Mul.j1 k x0 x1 x2 false)))))
def flyballref06_Mul.j1 : Nat → Int → Int → Int → Bool → Option (Int × Int)
 | 0, _, _, _, _ => none
 | k + 1, x0, x1, x2, f0 => if f0 = true then (some (9221120237041090560, 16)) else ((flyballref06_neg.f x0).bind fun g0 => ((flyballref06_neg.f x1).bind fun h0 => ((flyballref06_is.f k x0 3).bind fun i0 => (if i0 = true then (flyballref06_Mul.j2 k x0 x1 x2 (g0 != h0) true) else ((flyballref06_is.f k x1 3).bind fun p1 => (flyballref06_Mul.j2 k x0 x1 x2 (g0 != h0) p1))))))
def flyballref06_Mul.j2 : Nat → Int → Int → Int → Bool → Bool → Option (Int × Int)
 | 0, _, _, _, _, _ => none
 | k + 1, x0, x1, x2, x8, q1 => if q1 = true then ((flyballref06_inf.f x8).bind fun u1 => (some (u1, 0))) else ((flyballref04_Split.f k x0).bind fun v1 => ((flyballref04_Split.f k x1).bind fun y1 => ((flyballref06_bits.f k v1.1).bind fun z1 => ((flyballref06_bits.f k y1.1).bind fun e1 => ((flyballref01_Mul.f k z1 e1).bind fun f1 => ((flyballref05_Round.f k x8 f1 (wrap64 (v1.2 + y1.2)) false x2).bind fun g1 => (some (g1.1, g1.2))))))))
end
def pattern_key.f (a0 : Int) : Option (Int) := if (a0 / 9223372036854775808) = 1 then (some (wrap64 (-(wrap64 (Go.bits .andNot .u64 a0 9223372036854775808))))) else (some (wrap64 (Go.bits .andNot .u64 a0 9223372036854775808)))
def pattern_Cmp.j0 : Nat → Int → Int → Bool → Option (Int × Bool)
 | 0, _, _, _ => none
 | k + 1, x0, x1, p0 => if p0 = true then (some (0, false)) else ((pattern_key.f x0).bind fun q0 => ((pattern_key.f x1).bind fun u0 => (if q0 < u0 then (some ((-1), true)) else (if q0 > u0 then (some (1, true)) else (some (0, true))))))
def pattern_Cmp.f (k : Nat) (a0 : Int) (a1 : Int) : Option (Int × Bool) := (pattern_nan.f k a0).bind fun p0 => (if p0 = true then (pattern_Cmp.j0 k a0 a1 true) else ((pattern_nan.f k a1).bind fun q0 => (pattern_Cmp.j0 k a0 a1 q0)))
def pattern_Less.f (k : Nat) (a0 : Int) (a1 : Int) : Option (Bool) := (pattern_Cmp.f k a0 a1).bind fun p0 => (if p0.2 = true then (some (decide (p0.1 < 0))) else (some false))
def span_ninf.f (k : Nat)  : Option (Int) := (pattern_Inf.f k true).bind fun p0 => (some p0)
def span_inf.f (k : Nat)  : Option (Int) := (pattern_Inf.f k false).bind fun p0 => (some p0)
def span_atMost.f (k : Nat) (a0 : Int) (a1 : Int) : Option (Bool) := (pattern_Cmp.f k a0 a1).bind fun p0 => (if p0.2 = true then (some (decide (p0.1 ≤ 0))) else (some false))
def span_none.f  : Option (Bool × Int × Int) := some (true, 0, 0)
def span_norm.f (k : Nat) (a0_0 : Bool) (a0_1 : Int) (a0_2 : Int) : Option (Bool × Int × Int) := if a0_0 = true then ((span_none.f).bind fun p0 => (some (p0.1, p0.2.1, p0.2.2))) else ((span_atMost.f k a0_1 a0_2).bind fun q0 => (if q0 = true then ((span_inf.f k).bind fun u0 => (if a0_1 = u0 then ((span_none.f).bind fun v0 => (some (v0.1, v0.2.1, v0.2.2))) else ((span_ninf.f k).bind fun y0 => (if a0_2 = y0 then ((span_none.f).bind fun z0 => (some (z0.1, z0.2.1, z0.2.2))) else ((pattern_Class.f k a0_1).bind fun c1 => ((pattern_Class.f k a0_2).bind fun c2 => (some (a0_0, (if c1 = 0 then 0 else a0_1), (if c2 = 0 then 0 else a0_2))))))))) else ((span_none.f).bind fun e0 => (some (e0.1, e0.2.1, e0.2.2)))))
def span_Make.f (k : Nat) (a0 : Int) (a1 : Int) : Option (Bool × Int × Int) := (span_norm.f k false a0 a1).bind fun p0 => (some (p0.1, p0.2.1, p0.2.2))
def span_Point.f (k : Nat) (a0 : Int) : Option (Bool × Int × Int) := (span_Make.f k a0 a0).bind fun p0 => (some (p0.1, p0.2.1, p0.2.2))
def span_All.f (k : Nat)  : Option (Bool × Int × Int) := (span_ninf.f k).bind fun p0 => ((span_inf.f k).bind fun q0 => ((span_Make.f k p0 q0).bind fun u0 => (some (u0.1, u0.2.1, u0.2.2))))
def span_Inside.f (k : Nat) (a0_0 : Bool) (a0_1 : Int) (a0_2 : Int) (a1_0 : Bool) (a1_1 : Int) (a1_2 : Int) : Option (Bool) := (span_norm.f k a0_0 a0_1 a0_2).bind fun p0 => ((span_norm.f k a1_0 a1_1 a1_2).bind fun q0 => (if p0.1 = true then (some true) else (if q0.1 = true then (some false) else ((span_atMost.f k q0.2.1 p0.2.1).bind fun u0 => (if u0 = true then ((span_atMost.f k p0.2.2 q0.2.2).bind fun v0 => (some v0)) else (some false))))))
def span_Has.f (k : Nat) (a0_0 : Bool) (a0_1 : Int) (a0_2 : Int) (a1 : Int) : Option (Bool) := (pattern_Class.f k a1).bind fun p0 => (if p0 = 3 then (some false) else ((span_Point.f k a1).bind fun q0 => (if q0.1 = true then (some false) else ((span_Point.f k a1).bind fun u0 => ((span_Inside.f k u0.1 u0.2.1 u0.2.2 a0_0 a0_1 a0_2).bind fun v0 => (some v0))))))
def pattern_Min.f (k : Nat) (l0 : List Int) : Option Int :=
 match l0 with
 | [x, y] => (pattern_nan.f k x).bind fun t => if t = true then none else (pattern_Less.f k x x).bind fun _ => (pattern_nan.f k y).bind fun u => if u = true then none else (pattern_Less.f k y x).bind fun b => some (if b = true then y else x)
 | _ => none
def pattern_Max.f (k : Nat) (l0 : List Int) : Option Int :=
 match l0 with
 | [x, y] => (pattern_nan.f k x).bind fun t => if t = true then none else (pattern_Less.f k x x).bind fun _ => (pattern_nan.f k y).bind fun u => if u = true then none else (pattern_Less.f k x y).bind fun b => some (if b = true then y else x)
 | _ => none
def span_Join.l0 : Nat → List (S43) → Int → Int → Bool → Int → Int → Option (Bool × Int × Int)
 | 0, _, _, _, _, _, _ => none
 | k + 1, x7, x8, x9, p0, q0, u0 => if x9 < x8 then (if 0 ≤ x9 then (if x9 < (x7.length : Int) then ((span_norm.f k ((rd_T43 x7 x9).f0) ((rd_T43 x7 x9).f1) ((rd_T43 x7 x9).f2)).bind fun v0 => (if v0.1 = true then (span_Join.l0 k x7 x8 (wrap64 (x9 + 1)) p0 q0 u0) else (if p0 = true then (span_Join.l0 k x7 x8 (wrap64 (x9 + 1)) v0.1 v0.2.1 v0.2.2) else ((pattern_Min.f k (([q0, v0.2.1] : List Int))).bind fun y0 => ((pattern_Max.f k (([u0, v0.2.2] : List Int))).bind fun z0 => ((span_Make.f k y0 z0).bind fun e0 => (span_Join.l0 k x7 x8 (wrap64 (x9 + 1)) e0.1 e0.2.1 e0.2.2))))))) else (none)) else (none)) else (some (p0, q0, u0))
def span_Join.f (k : Nat) (l0 : List (S43)) : Option (Bool × Int × Int) := (span_none.f).bind fun p0 => (span_Join.l0 k l0 (l0.length : Int) 0 p0.1 p0.2.1 p0.2.2)
def span_Meet.j0 : Nat → Bool → Bool → Int → Int → Bool → Int → Int → Option (Bool × Int × Int)
 | 0, _, _, _, _, _, _, _ => none
 | k + 1, p0, q0, u0, v0, y0, z0, e0 => if p0 = true then ((span_none.f).bind fun f0 => (some (f0.1, f0.2.1, f0.2.2))) else ((pattern_Max.f k (([u0, z0] : List Int))).bind fun g0 => ((pattern_Min.f k (([v0, e0] : List Int))).bind fun h0 => ((span_Make.f k g0 h0).bind fun i0 => (some (i0.1, i0.2.1, i0.2.2)))))
def span_Meet.f (k : Nat) (a0_0 : Bool) (a0_1 : Int) (a0_2 : Int) (a1_0 : Bool) (a1_1 : Int) (a1_2 : Int) : Option (Bool × Int × Int) := (span_norm.f k a0_0 a0_1 a0_2).bind fun p0 => ((span_norm.f k a1_0 a1_1 a1_2).bind fun q0 => (if p0.1 = true then (span_Meet.j0 k true p0.1 p0.2.1 p0.2.2 q0.1 q0.2.1 q0.2.2) else (span_Meet.j0 k q0.1 p0.1 p0.2.1 p0.2.2 q0.1 q0.2.1 q0.2.2)))
def span_Neg.f (k : Nat) (a0_0 : Bool) (a0_1 : Int) (a0_2 : Int) : Option (Bool × Int × Int) := (span_norm.f k a0_0 a0_1 a0_2).bind fun p0 => (if p0.1 = true then (some (p0.1, p0.2.1, p0.2.2)) else ((pattern_Neg.f k p0.2.2).bind fun q0 => ((pattern_Neg.f k p0.2.1).bind fun u0 => ((span_Make.f k q0 u0).bind fun v0 => (some (v0.1, v0.2.1, v0.2.2))))))
def span_Abs.j0 : Nat → Bool → Bool → Int → Int → Option (Bool × Int × Int)
 | 0, _, _, _, _ => none
 | k + 1, x5, p0, q0, u0 => if x5 = true then (some (p0, q0, u0)) else ((span_atMost.f k u0 0).bind fun v0 => (if v0 = true then ((span_Neg.f k p0 q0 u0).bind fun y0 => (some (y0.1, y0.2.1, y0.2.2))) else ((pattern_Neg.f k q0).bind fun z0 => ((pattern_Max.f k (([z0, u0] : List Int))).bind fun e0 => ((span_Make.f k 0 e0).bind fun f0 => (some (f0.1, f0.2.1, f0.2.2)))))))
def span_Abs.f (k : Nat) (a0_0 : Bool) (a0_1 : Int) (a0_2 : Int) : Option (Bool × Int × Int) := (span_norm.f k a0_0 a0_1 a0_2).bind fun p0 => (if p0.1 = true then (span_Abs.j0 k p0.1 p0.1 p0.2.1 p0.2.2) else ((span_atMost.f k 0 p0.2.1).bind fun q0 => (span_Abs.j0 k q0 p0.1 p0.2.1 p0.2.2)))
def span_Most.f (k : Nat) (a0_0 : Bool) (a0_1 : Int) (a0_2 : Int) : Option (Int) := (span_Abs.f k a0_0 a0_1 a0_2).bind fun p0 => (some p0.2.2)
def pattern_Next.j0 : Nat → Int → Bool → Option (Int)
 | 0, _, _ => none
 | k + 1, x0, x3 => if x3 = true then (some x0) else ((pattern_key.f x0).bind fun p0 => (if p0 = 0 then (some 1) else (if (x0 / 9223372036854775808) = 1 then (some (IntKind.u64.wrap (x0 - 1))) else (some (IntKind.u64.wrap (x0 + 1))))))
def pattern_Next.f (k : Nat) (a0 : Int) : Option (Int) := (pattern_nan.f k a0).bind fun p0 => (if p0 = true then (pattern_Next.j0 k a0 p0) else ((pattern_Inf.f k false).bind fun q0 => (pattern_Next.j0 k a0 (a0 == q0))))
def pattern_Prev.f (k : Nat) (a0 : Int) : Option (Int) := (pattern_Neg.f k a0).bind fun p0 => ((pattern_Next.f k p0).bind fun q0 => ((pattern_Neg.f k q0).bind fun u0 => (some u0)))
mutual
def span_side.j1 : Nat → Int → Bool → Bool → Int → Int → Option (Bool × Int × Int)
 | 0, _, _, _, _, _ => none
 | k + 1, x1, x2, p0, q0, u0 => if x2 = true then ((span_inf.f k).bind fun v0 => ((span_Make.f k x1 v0).bind fun y0 => ((span_Meet.f k p0 q0 u0 y0.1 y0.2.1 y0.2.2).bind fun z0 => (some (z0.1, z0.2.1, z0.2.2))))) else ((span_ninf.f k).bind fun e0 => ((span_Make.f k e0 x1).bind fun f0 => ((span_Meet.f k p0 q0 u0 f0.1 f0.2.1 f0.2.2).bind fun g0 => (some (g0.1, g0.2.1, g0.2.2)))))
def span_side.j0 : Nat → Int → Bool → Bool → Bool → Bool → Bool → Int → Int → Option (Bool × Int × Int)
 | 0, _, _, _, _, _, _, _, _ => none
 | k + 1, x1, x2, x3, x9, h0, p0, q0, u0 => if h0 = true then ((pattern_Next.f k x1).bind fun i0 => (span_side.j1 k i0 x2 p0 q0 u0)) else (if x3 = true then (if x9 = true then ((pattern_Prev.f k x1).bind fun p1 => (span_side.j1 k p1 x2 p0 q0 u0)) else (span_side.j1 k x1 x2 p0 q0 u0)) else (span_side.j1 k x1 x2 p0 q0 u0))
end
def span_side.f (k : Nat) (a0_0 : Bool) (a0_1 : Int) (a0_2 : Int) (a1 : Int) (a2 : Bool) (a3 : Bool) : Option (Bool × Int × Int) := (pattern_Class.f k a1).bind fun p0 => (if a2 = true then (if a3 = true then (span_side.j0 k a1 a2 a3 (p0 != 3) (p0 != 3) a0_0 a0_1 a0_2) else (span_side.j0 k a1 a2 a3 (p0 != 3) false a0_0 a0_1 a0_2)) else (span_side.j0 k a1 a2 a3 (p0 != 3) false a0_0 a0_1 a0_2))
def span_without.f (k : Nat) (a0_0 : Bool) (a0_1 : Int) (a0_2 : Int) (a1_0 : Bool) (a1_1 : Int) (a1_2 : Int) : Option (Bool × Int × Int) := if a1_1 = a1_2 then (if a0_1 = a1_1 then ((span_side.f k a0_0 a0_1 a0_2 a1_1 true true).bind fun p0 => (if p0.2.2 = a1_1 then (if p0.1 = true then (some (p0.1, p0.2.1, p0.2.2)) else ((span_side.f k p0.1 p0.2.1 p0.2.2 a1_1 false true).bind fun q0 => (some (q0.1, q0.2.1, q0.2.2)))) else (some (p0.1, p0.2.1, p0.2.2)))) else (if a0_2 = a1_1 then (if a0_0 = true then (some (a0_0, a0_1, a0_2)) else ((span_side.f k a0_0 a0_1 a0_2 a1_1 false true).bind fun u0 => (some (u0.1, u0.2.1, u0.2.2)))) else (some (a0_0, a0_1, a0_2)))) else (some (a0_0, a0_1, a0_2))
mutual
def span_Test.j0 : Nat → Int → Bool → Bool → Int → Int → Bool → Int → Int → Option (Bool × Int × Int × Bool × Int × Int)
 | 0, _, _, _, _, _, _, _, _ => none
 | k + 1, x0, p0, q0, u0, v0, y0, z0, e0 => if p0 = true then ((span_none.f).bind fun f0 => ((span_none.f).bind fun g0 => (some (f0.1, f0.2.1, f0.2.2, g0.1, g0.2.1, g0.2.2)))) else (if x0 = 9 then (span_Test.j1 k x0 true q0 u0 v0 y0 z0 e0 q0 u0 v0 y0 z0 e0) else (span_Test.j1 k x0 (x0 == 13) q0 u0 v0 y0 z0 e0 q0 u0 v0 y0 z0 e0))
def span_Test.j1 : Nat → Int → Bool → Bool → Int → Int → Bool → Int → Int → Bool → Int → Int → Bool → Int → Int → Option (Bool × Int × Int × Bool × Int × Int)
 | 0, _, _, _, _, _, _, _, _, _, _, _, _, _, _ => none
 | k + 1, x0, h0, q0, u0, v0, y0, z0, e0, i0, p1, q1, u1, v1, y1 => if x0 = 9 then (span_Test.j2 k h0 x0 (x0 == 9) q0 u0 v0 y0 z0 e0 i0 p1 q1 u1 v1 y1) else (span_Test.j2 k h0 x0 (x0 == 10) q0 u0 v0 y0 z0 e0 i0 p1 q1 u1 v1 y1)
def span_Test.j4 : Nat → Bool → Int → Int → Bool → Int → Int → Option (Bool × Int × Int × Bool × Int × Int)
 | 0, _, _, _, _, _, _ => none
 | k + 1, i0, p1, q1, u1, v1, y1 => if i0 = true then (span_Test.j5 k true i0 p1 q1 u1 v1 y1) else (span_Test.j5 k u1 i0 p1 q1 u1 v1 y1)
def span_Test.j5 : Nat → Bool → Bool → Int → Int → Bool → Int → Int → Option (Bool × Int × Int × Bool × Int × Int)
 | 0, _, _, _, _, _, _, _ => none
 | k + 1, z1, i0, p1, q1, u1, v1, y1 => if z1 = true then ((span_none.f).bind fun e1 => ((span_none.f).bind fun f1 => (some (e1.1, e1.2.1, e1.2.2, f1.1, f1.2.1, f1.2.2)))) else (some (i0, p1, q1, u1, v1, y1))
def span_Test.j2 : Nat → Bool → Int → Bool → Bool → Int → Int → Bool → Int → Int → Bool → Int → Int → Bool → Int → Int → Option (Bool × Int × Int × Bool × Int × Int)
 | 0, _, _, _, _, _, _, _, _, _, _, _, _, _, _, _ => none
 | k + 1, h0, g1, h1, q0, u0, v0, y0, z0, e0, i0, p1, q1, u1, v1, y1 => if h1 = true then ((span_side.f k q0 u0 v0 e0 false h0).bind fun i1 => ((span_side.f k y0 z0 e0 u0 true h0).bind fun p2 => (span_Test.j4 k i1.1 i1.2.1 i1.2.2 p2.1 p2.2.1 p2.2.2))) else (if g1 = 13 then (span_Test.j3 k h0 g1 (g1 == 13) q0 u0 v0 y0 z0 e0 i0 p1 q1 u1 v1 y1) else (span_Test.j3 k h0 g1 (g1 == 14) q0 u0 v0 y0 z0 e0 i0 p1 q1 u1 v1 y1))
def span_Test.j3 : Nat → Bool → Int → Bool → Bool → Int → Int → Bool → Int → Int → Bool → Int → Int → Bool → Int → Int → Option (Bool × Int × Int × Bool × Int × Int)
 | 0, _, _, _, _, _, _, _, _, _, _, _, _, _, _, _ => none
 | k + 1, h0, g1, q2, q0, u0, v0, y0, z0, e0, i0, p1, q1, u1, v1, y1 => if q2 = true then ((span_side.f k q0 u0 v0 z0 true h0).bind fun u2 => ((span_side.f k y0 z0 e0 v0 false h0).bind fun v2 => (span_Test.j4 k u2.1 u2.2.1 u2.2.2 v2.1 v2.2.1 v2.2.2))) else (if g1 = 11 then ((span_Meet.f k q0 u0 v0 y0 z0 e0).bind fun y2 => (span_Test.j4 k y2.1 y2.2.1 y2.2.2 y2.1 y2.2.1 y2.2.2)) else (if g1 = 12 then ((span_without.f k q0 u0 v0 y0 z0 e0).bind fun z2 => ((span_without.f k y0 z0 e0 q0 u0 v0).bind fun e2 => (span_Test.j4 k z2.1 z2.2.1 z2.2.2 e2.1 e2.2.1 e2.2.2))) else (span_Test.j4 k i0 p1 q1 u1 v1 y1)))
end
def span_Test.f (k : Nat) (a0 : Int) (a1_0 : Bool) (a1_1 : Int) (a1_2 : Int) (a2_0 : Bool) (a2_1 : Int) (a2_2 : Int) : Option (Bool × Int × Int × Bool × Int × Int) := (span_norm.f k a1_0 a1_1 a1_2).bind fun p0 => ((span_norm.f k a2_0 a2_1 a2_2).bind fun q0 => (if p0.1 = true then (span_Test.j0 k a0 true p0.1 p0.2.1 p0.2.2 q0.1 q0.2.1 q0.2.2) else (span_Test.j0 k a0 q0.1 p0.1 p0.2.1 p0.2.2 q0.1 q0.2.1 q0.2.2)))
def span_outer.f (k : Nat) (a0 : Int) (a1 : Int) : Option (Bool × Int × Int) := (span_inf.f k).bind fun p0 => (if a0 = p0 then ((pattern_Prev.f k a0).bind fun q0 => ((span_Make.f k q0 a1).bind fun u0 => (some (u0.1, u0.2.1, u0.2.2)))) else ((span_ninf.f k).bind fun v0 => (if a1 = v0 then ((pattern_Next.f k a1).bind fun y0 => ((span_Make.f k a0 y0).bind fun z0 => (some (z0.1, z0.2.1, z0.2.2)))) else ((span_Make.f k a0 a1).bind fun e0 => (some (e0.1, e0.2.1, e0.2.2))))))
def span_zero.f (k : Nat) (a0 : Int) : Option (Bool) := (pattern_Class.f k a0).bind fun p0 => (some (p0 == 0))
def span_Mul_1.f (k : Nat) (a0 : Int) (a1 : Int) (a2 : Int) : Option (Int) := (span_zero.f k a0).bind fun p0 => (if p0 = true then (some 0) else ((span_zero.f k a1).bind fun q0 => (if q0 = true then (some 0) else ((soft_Mul.f k a0 a1 a2).bind fun u0 => (some u0.1)))))
mutual
def span_Mul_corners.l0 : Nat → List Int → Int → Int → Bool → Int → Int → Bool → Int → Int → Option (Bool × Int × Int)
 | 0, _, _, _, _, _, _, _, _, _ => none
 | k + 1, p0, q0, u0, v0, y0, z0, e0, f0, g0 => if u0 < q0 then (if 0 ≤ u0 then (if u0 < (p0.length : Int) then ((some (([y0, z0] : List Int) : List Int)).bind fun h0 => (span_Mul_corners.l1 k (rd p0 u0) p0 q0 u0 h0 (h0.length : Int) 0 v0 y0 z0 e0 f0 g0)) else (none)) else (none)) else (some (e0, f0, g0))
def span_Mul_corners.l1 : Nat → Int → List Int → Int → Int → List Int → Int → Int → Bool → Int → Int → Bool → Int → Int → Option (Bool × Int × Int)
 | 0, _, _, _, _, _, _, _, _, _, _, _, _, _ => none
 | k + 1, x9, p0, q0, u0, i0, j0, p1, v0, y0, z0, e0, f0, g0 => if p1 < j0 then (if 0 ≤ p1 then (if p1 < (i0.length : Int) then ((span_Mul_1.f k x9 (rd i0 p1) 2).bind fun q1 => ((span_Mul_1.f k x9 (rd i0 p1) 1).bind fun u1 => ((span_outer.f k q1 u1).bind fun v1 => ((span_Join.f k (([(⟨e0, f0, g0⟩ : S43), (⟨v1.1, v1.2.1, v1.2.2⟩ : S43)] : List (S43)))).bind fun y1 => (span_Mul_corners.l1 k x9 p0 q0 u0 i0 j0 (wrap64 (p1 + 1)) v0 y0 z0 y1.1 y1.2.1 y1.2.2))))) else (none)) else (none)) else (span_Mul_corners.l0 k p0 q0 (wrap64 (u0 + 1)) v0 y0 z0 e0 f0 g0)
end
def span_Mul_corners.f (k : Nat) (a0_0 : Bool) (a0_1 : Int) (a0_2 : Int) (a1_0 : Bool) (a1_1 : Int) (a1_2 : Int) (a2 : Int) : Option (Bool × Int × Int) := (span_none.f).bind fun p0 => ((some (([a0_1, a0_2] : List Int) : List Int)).bind fun q0 => (span_Mul_corners.l0 k q0 (q0.length : Int) 0 a1_0 a1_1 a1_2 p0.1 p0.2.1 p0.2.2))
def span_Mul.j0 : Nat → Bool → Bool → Int → Int → Bool → Int → Int → Option (Bool × Int × Int)
 | 0, _, _, _, _, _, _, _ => none
 | k + 1, p0, q0, u0, v0, y0, z0, e0 => if p0 = true then ((span_none.f).bind fun f0 => (some (f0.1, f0.2.1, f0.2.2))) else ((span_Mul_corners.f k q0 u0 v0 y0 z0 e0 0).bind fun g0 => (some (g0.1, g0.2.1, g0.2.2)))
def span_Mul.f (k : Nat) (a0_0 : Bool) (a0_1 : Int) (a0_2 : Int) (a1_0 : Bool) (a1_1 : Int) (a1_2 : Int) : Option (Bool × Int × Int) := (span_norm.f k a0_0 a0_1 a0_2).bind fun p0 => ((span_norm.f k a1_0 a1_1 a1_2).bind fun q0 => (if p0.1 = true then (span_Mul.j0 k true p0.1 p0.2.1 p0.2.2 q0.1 q0.2.1 q0.2.2) else (span_Mul.j0 k q0.1 p0.1 p0.2.1 p0.2.2 q0.1 q0.2.1 q0.2.2)))
mutual
def span_above_1.j0 : Nat → Int → Int → Int → Bool → Bool → Option (Int)
 | 0, _, _, _, _, _ => none
 | k + 1, x0, x1, x2, x7, p0 => if p0 = true then (some 0) else (if x7 = true then (span_above_1.j1 k x0 x1 x2 x7) else ((span_zero.f k x1).bind fun q0 => (span_above_1.j1 k x0 x1 x2 q0)))
def span_above_1.j1 : Nat → Int → Int → Int → Bool → Option (Int)
 | 0, _, _, _, _ => none
 | k + 1, x0, x1, x2, u0 => if u0 = true then ((pattern_Inf.f k ((x0 / 9223372036854775808) == 1)).bind fun v0 => (some v0)) else ((soft_Div.f k x0 x1 x2).bind fun y0 => (some y0.1))
end
def span_above_1.f (k : Nat) (a0 : Int) (a1 : Int) (a2 : Int) : Option (Int) := (pattern_Class.f k a1).bind fun p0 => ((span_zero.f k a0).bind fun q0 => (if q0 = true then (span_above_1.j0 k a0 a1 a2 (p0 == 3) q0) else (if p0 = 3 then ((pattern_Class.f k a0).bind fun u0 => (span_above_1.j0 k a0 a1 a2 (p0 == 3) (u0 != 3))) else (span_above_1.j0 k a0 a1 a2 (p0 == 3) false))))
mutual
def span_above_corners.l0 : Nat → List Int → Int → Int → Bool → Int → Int → Bool → Int → Int → Option (Bool × Int × Int)
 | 0, _, _, _, _, _, _, _, _, _ => none
 | k + 1, p0, q0, u0, v0, y0, z0, e0, f0, g0 => if u0 < q0 then (if 0 ≤ u0 then (if u0 < (p0.length : Int) then ((some (([y0, z0] : List Int) : List Int)).bind fun h0 => (span_above_corners.l1 k (rd p0 u0) p0 q0 u0 h0 (h0.length : Int) 0 v0 y0 z0 e0 f0 g0)) else (none)) else (none)) else (some (e0, f0, g0))
def span_above_corners.l1 : Nat → Int → List Int → Int → Int → List Int → Int → Int → Bool → Int → Int → Bool → Int → Int → Option (Bool × Int × Int)
 | 0, _, _, _, _, _, _, _, _, _, _, _, _, _ => none
 | k + 1, x9, p0, q0, u0, i0, j0, p1, v0, y0, z0, e0, f0, g0 => if p1 < j0 then (if 0 ≤ p1 then (if p1 < (i0.length : Int) then ((span_above_1.f k x9 (rd i0 p1) 2).bind fun q1 => ((span_above_1.f k x9 (rd i0 p1) 1).bind fun u1 => ((span_outer.f k q1 u1).bind fun v1 => ((span_Join.f k (([(⟨e0, f0, g0⟩ : S43), (⟨v1.1, v1.2.1, v1.2.2⟩ : S43)] : List (S43)))).bind fun y1 => (span_above_corners.l1 k x9 p0 q0 u0 i0 j0 (wrap64 (p1 + 1)) v0 y0 z0 y1.1 y1.2.1 y1.2.2))))) else (none)) else (none)) else (span_above_corners.l0 k p0 q0 (wrap64 (u0 + 1)) v0 y0 z0 e0 f0 g0)
end
def span_above_corners.f (k : Nat) (a0_0 : Bool) (a0_1 : Int) (a0_2 : Int) (a1_0 : Bool) (a1_1 : Int) (a1_2 : Int) (a2 : Int) : Option (Bool × Int × Int) := (span_none.f).bind fun p0 => ((some (([a0_1, a0_2] : List Int) : List Int)).bind fun q0 => (span_above_corners.l0 k q0 (q0.length : Int) 0 a1_0 a1_1 a1_2 p0.1 p0.2.1 p0.2.2))
def span_above.f (k : Nat) (a0_0 : Bool) (a0_1 : Int) (a0_2 : Int) (a1_0 : Bool) (a1_1 : Int) (a1_2 : Int) : Option (Bool × Int × Int) := (span_above_corners.f k a0_0 a0_1 a0_2 a1_0 a1_1 a1_2 0).bind fun p0 => (some (p0.1, p0.2.1, p0.2.2))
mutual
def span_Div.j0 : Nat → Bool → Bool → Int → Int → Bool → Int → Int → Option (Bool × Int × Int)
 | 0, _, _, _, _, _, _, _ => none
 | k + 1, p0, q0, u0, v0, y0, z0, e0 => if p0 = true then ((span_none.f).bind fun f0 => (some (f0.1, f0.2.1, f0.2.2))) else ((span_none.f).bind fun g0 => ((span_atMost.f k e0 0).bind fun h0 => (if h0 = true then (span_Div.j1 k q0 u0 v0 y0 z0 e0 g0.1 g0.2.1 g0.2.2) else ((span_inf.f k).bind fun i0 => ((span_Make.f k 0 i0).bind fun p1 => ((span_Meet.f k y0 z0 e0 p1.1 p1.2.1 p1.2.2).bind fun q1 => ((span_above.f k q0 u0 v0 q1.1 q1.2.1 q1.2.2).bind fun u1 => (span_Div.j1 k q0 u0 v0 y0 z0 e0 u1.1 u1.2.1 u1.2.2))))))))
def span_Div.j1 : Nat → Bool → Int → Int → Bool → Int → Int → Bool → Int → Int → Option (Bool × Int × Int)
 | 0, _, _, _, _, _, _, _, _, _ => none
 | k + 1, q0, u0, v0, y0, z0, e0, v1, y1, z1 => (span_atMost.f k 0 z0).bind fun e1 => (if e1 = true then (some (v1, y1, z1)) else ((span_ninf.f k).bind fun f1 => ((span_Make.f k f1 0).bind fun g1 => ((span_Meet.f k y0 z0 e0 g1.1 g1.2.1 g1.2.2).bind fun h1 => ((span_Neg.f k h1.1 h1.2.1 h1.2.2).bind fun i1 => ((span_above.f k q0 u0 v0 i1.1 i1.2.1 i1.2.2).bind fun p2 => ((span_Neg.f k p2.1 p2.2.1 p2.2.2).bind fun q2 => ((span_Join.f k (([(⟨v1, y1, z1⟩ : S43), (⟨q2.1, q2.2.1, q2.2.2⟩ : S43)] : List (S43)))).bind fun u2 => (some (u2.1, u2.2.1, u2.2.2))))))))))
end
def span_Div.f (k : Nat) (a0_0 : Bool) (a0_1 : Int) (a0_2 : Int) (a1_0 : Bool) (a1_1 : Int) (a1_2 : Int) : Option (Bool × Int × Int) := (span_norm.f k a0_0 a0_1 a0_2).bind fun p0 => ((span_norm.f k a1_0 a1_1 a1_2).bind fun q0 => (if p0.1 = true then (span_Div.j0 k true p0.1 p0.2.1 p0.2.2 q0.1 q0.2.1 q0.2.2) else (span_Div.j0 k q0.1 p0.1 p0.2.1 p0.2.2 q0.1 q0.2.1 q0.2.2)))
def flyballlaw16_works.f (k : Nat)  : Option (Bool) := (span_Make.f k 4607182418800017408 4611686018427387904).bind fun p0 => ((span_Make.f k 13837309855095848960 4616189618054758400).bind fun q0 => ((span_Mul.f k p0.1 p0.2.1 p0.2.2 q0.1 q0.2.1 q0.2.2).bind fun u0 => ((span_Point.f k 4607182418800017408).bind fun v0 => ((span_Make.f k 13830554455654793216 4611686018427387904).bind fun y0 => ((span_Div.f k v0.1 v0.2.1 v0.2.2 y0.1 y0.2.1 y0.2.2).bind fun z0 => ((span_Point.f k 0).bind fun e0 => ((span_Make.f k 13830554455654793216 4611686018427387904).bind fun f0 => ((span_Div.f k e0.1 e0.2.1 e0.2.2 f0.1 f0.2.1 f0.2.2).bind fun g0 => ((span_Point.f k 4607182418800017408).bind fun h0 => ((span_Make.f k 0 4616189618054758400).bind fun i0 => ((span_Div.f k h0.1 h0.2.1 h0.2.2 i0.1 i0.2.1 i0.2.2).bind fun j0 => ((span_Make.f k 0 4616189618054758400).bind fun p1 => ((span_Make.f k 4607182418800017408 4611686018427387904).bind fun q1 => ((span_Test.f k 9 p1.1 p1.2.1 p1.2.2 q1.1 q1.2.1 q1.2.2).bind fun u1 => ((span_Make.f k 13841813454723219456 4620693217682128896).bind fun v1 => (if (u0.1 == v1.1 && (u0.2.1 == v1.2.1 && (u0.2.2 == v1.2.2))) = true then ((span_All.f k).bind fun y1 => (if (z0.1 == y1.1 && (z0.2.1 == y1.2.1 && (z0.2.2 == y1.2.2))) = true then ((span_Point.f k 0).bind fun z1 => (if (g0.1 == z1.1 && (g0.2.1 == z1.2.1 && (g0.2.2 == z1.2.2))) = true then ((pattern_Inf.f k false).bind fun e1 => ((span_Make.f k 4598175219545276416 e1).bind fun f1 => (if (j0.1 == f1.1 && (j0.2.1 == f1.2.1 && (j0.2.2 == f1.2.2))) = true then ((span_Make.f k 0 4611686018427387903).bind fun g1 => (if (u1.1 == g1.1 && (u1.2.1 == g1.2.1 && (u1.2.2.1 == g1.2.2))) = true then ((span_Make.f k 4607182418800017408 4611686018427387904).bind fun h1 => (if (u1.2.2.2.1 == h1.1 && (u1.2.2.2.2.1 == h1.2.1 && (u1.2.2.2.2.2 == h1.2.2))) = true then ((span_Make.f k 4611686018427387904 4607182418800017408).bind fun i1 => (if i1.1 = true then ((span_Has.f k u1.1 u1.2.1 u1.2.2.1 4607182418800017408).bind fun j1 => (if j1 = true then ((span_Make.f k 0 4616189618054758400).bind fun p2 => ((span_Inside.f k u1.2.2.2.1 u1.2.2.2.2.1 u1.2.2.2.2.2 p2.1 p2.2.1 p2.2.2).bind fun q2 => (if q2 = true then ((span_Join.f k (([(⟨u1.1, u1.2.1, u1.2.2.1⟩ : S43), (⟨u1.2.2.2.1, u1.2.2.2.2.1, u1.2.2.2.2.2⟩ : S43)] : List (S43)))).bind fun u2 => ((span_Make.f k 0 4611686018427387904).bind fun v2 => (if (u2.1 == v2.1 && (u2.2.1 == v2.2.1 && (u2.2.2 == v2.2.2))) = true then ((span_Meet.f k u1.1 u1.2.1 u1.2.2.1 u1.2.2.2.1 u1.2.2.2.2.1 u1.2.2.2.2.2).bind fun y2 => ((span_Make.f k 4607182418800017408 4611686018427387903).bind fun z2 => (if (y2.1 == z2.1 && (y2.2.1 == z2.2.1 && (y2.2.2 == z2.2.2))) = true then ((span_Neg.f k u1.2.2.2.1 u1.2.2.2.2.1 u1.2.2.2.2.2).bind fun e2 => ((span_Most.f k e2.1 e2.2.1 e2.2.2).bind fun f2 => (if f2 = 4611686018427387904 then ((span_Make.f k 13830554455654793216 0).bind fun g2 => ((span_Abs.f k g2.1 g2.2.1 g2.2.2).bind fun h2 => ((span_Make.f k 0 4607182418800017408).bind fun i2 => (some (h2.1 == i2.1 && (h2.2.1 == i2.2.1 && (h2.2.2 == i2.2.2))))))) else (some false)))) else (some false)))) else (some false)))) else (some false)))) else (some false))) else (some false))) else (some false))) else (some false))) else (some false)))) else (some false))) else (some false))) else (some false)))))))))))))))))
def flyballref04_Key.f (a0 : Int) : Option (Int) := (flyballref04_Parts.f a0).bind fun p0 => (if p0.1 = true then (some (wrap64 (-(wrap64 ((wrap64 (p0.2.1 * 4503599627370496)) + (wrap64 (p0.2.2))))))) else (some (wrap64 ((wrap64 (p0.2.1 * 4503599627370496)) + (wrap64 (p0.2.2))))))
def flyballref04_Cmp.j0 : Nat → Int → Int → Bool → Option (Int × Bool)
 | 0, _, _, _ => none
 | k + 1, x0, x1, p0 => if p0 = true then (some (0, false)) else ((flyballref04_Key.f x0).bind fun q0 => ((flyballref04_Key.f x1).bind fun u0 => (if q0 < u0 then (some ((-1), true)) else (if q0 > u0 then (some (1, true)) else (some (0, true))))))
def flyballref04_Cmp.f (k : Nat) (a0 : Int) (a1 : Int) : Option (Int × Bool) := (flyballref04_Class.f k a0).bind fun p0 => (if p0 = 4 then (flyballref04_Cmp.j0 k a0 a1 true) else ((flyballref04_Class.f k a1).bind fun q0 => (flyballref04_Cmp.j0 k a0 a1 (q0 == 4))))
def flyballref16_le.f (k : Nat) (a0 : Int) (a1 : Int) : Option (Bool) := (flyballref04_Cmp.f k a0 a1).bind fun p0 => (if p0.2 = true then (some (decide (p0.1 ≤ 0))) else (some false))
def flyballref16_Norm.j0 : Nat → Bool → Bool → Int → Int → Option (Bool × Int × Int)
 | 0, _, _, _, _ => none
 | k + 1, p0, q0, u0, v0 => if p0 = true then (some (true, 0, 0)) else (if u0 = 9223372036854775808 then (if v0 = 9223372036854775808 then (some (q0, 0, 0)) else (some (q0, 0, v0))) else (if v0 = 9223372036854775808 then (some (q0, u0, 0)) else (some (q0, u0, v0))))
def flyballref16_Norm.f (k : Nat) (a0_0 : Bool) (a0_1 : Int) (a0_2 : Int) : Option (Bool × Int × Int) := (flyballref16_le.f k a0_1 a0_2).bind fun p0 => (if a0_0 = true then (flyballref16_Norm.j0 k true a0_0 a0_1 a0_2) else (if p0 = true then (if a0_1 = 9218868437227405312 then (flyballref16_Norm.j0 k true a0_0 a0_1 a0_2) else (flyballref16_Norm.j0 k (a0_2 == 18442240474082181120) a0_0 a0_1 a0_2)) else (flyballref16_Norm.j0 k true a0_0 a0_1 a0_2)))
def flyballref04_Finite.f (k : Nat) (a0 : Int) : Option (Bool) := (flyballref04_Class.f k a0).bind fun p0 => (if p0 = 3 then (some false) else (some (p0 != 4)))
mutual
def flyballref16_Meet.j0 : Nat → Bool → Bool → Int → Int → Bool → Int → Int → Option (Bool × Int × Int)
 | 0, _, _, _, _, _, _, _ => none
 | k + 1, p0, q0, u0, v0, y0, z0, e0 => if p0 = true then (some (true, 0, 0)) else ((flyballref16_le.f k u0 z0).bind fun f0 => (if f0 = true then (flyballref16_Meet.j1 k q0 z0 v0 y0 z0 e0) else (flyballref16_Meet.j1 k q0 u0 v0 y0 z0 e0)))
def flyballref16_Meet.j1 : Nat → Bool → Int → Int → Bool → Int → Int → Option (Bool × Int × Int)
 | 0, _, _, _, _, _, _ => none
 | k + 1, q0, u0, v0, y0, z0, e0 => (flyballref16_le.f k e0 v0).bind fun g0 => (if g0 = true then ((flyballref16_Norm.f k q0 u0 e0).bind fun h0 => (some (h0.1, h0.2.1, h0.2.2))) else ((flyballref16_Norm.f k q0 u0 v0).bind fun i0 => (some (i0.1, i0.2.1, i0.2.2))))
end
def flyballref16_Meet.f (k : Nat) (a0_0 : Bool) (a0_1 : Int) (a0_2 : Int) (a1_0 : Bool) (a1_1 : Int) (a1_2 : Int) : Option (Bool × Int × Int) := (flyballref16_Norm.f k a0_0 a0_1 a0_2).bind fun p0 => ((flyballref16_Norm.f k a1_0 a1_1 a1_2).bind fun q0 => (if p0.1 = true then (flyballref16_Meet.j0 k true p0.1 p0.2.1 p0.2.2 q0.1 q0.2.1 q0.2.2) else (flyballref16_Meet.j0 k q0.1 p0.1 p0.2.1 p0.2.2 q0.1 q0.2.1 q0.2.2)))
def flyballref04_Prev.j0 : Nat → Int → Bool → Option (Int)
 | 0, _, _ => none
 | k + 1, x0, p0 => if p0 = true then (some x0) else ((flyballref04_Key.f x0).bind fun q0 => ((flyballref04_Key.f x0).bind fun u0 => ((flyballref04_Of.f k (wrap64 (q0 - 1)) (decide (u0 ≤ 0))).bind fun v0 => (some v0))))
def flyballref04_Prev.f (k : Nat) (a0 : Int) : Option (Int) := (flyballref04_Class.f k a0).bind fun p0 => (if p0 = 4 then (flyballref04_Prev.j0 k a0 true) else ((flyballref04_Key.f a0).bind fun q0 => (flyballref04_Prev.j0 k a0 (q0 == (-9218868437227405312)))))
def flyballref16_below.j0 : Nat → Int → Bool → Bool → Int → Int → Option (Bool × Int × Int)
 | 0, _, _, _, _, _ => none
 | k + 1, x1, p0, q0, u0, v0 => if p0 = true then ((flyballref04_Prev.f k x1).bind fun y0 => ((flyballref16_Meet.f k q0 u0 v0 false 18442240474082181120 y0).bind fun z0 => (some (z0.1, z0.2.1, z0.2.2)))) else ((flyballref16_Meet.f k q0 u0 v0 false 18442240474082181120 x1).bind fun e0 => (some (e0.1, e0.2.1, e0.2.2)))
def flyballref16_below.f (k : Nat) (a0_0 : Bool) (a0_1 : Int) (a0_2 : Int) (a1 : Int) (a2 : Bool) : Option (Bool × Int × Int) := if a2 = true then ((flyballref04_Finite.f k a1).bind fun p0 => (flyballref16_below.j0 k a1 p0 a0_0 a0_1 a0_2)) else (flyballref16_below.j0 k a1 false a0_0 a0_1 a0_2)
def flyballref04_Next.j0 : Nat → Int → Bool → Option (Int)
 | 0, _, _ => none
 | k + 1, x0, p0 => if p0 = true then (some x0) else ((flyballref04_Key.f x0).bind fun q0 => ((flyballref04_Key.f x0).bind fun u0 => ((flyballref04_Of.f k (wrap64 (q0 + 1)) (decide (u0 < 0))).bind fun v0 => (some v0))))
def flyballref04_Next.f (k : Nat) (a0 : Int) : Option (Int) := (flyballref04_Class.f k a0).bind fun p0 => (if p0 = 4 then (flyballref04_Next.j0 k a0 true) else ((flyballref04_Key.f a0).bind fun q0 => (flyballref04_Next.j0 k a0 (q0 == 9218868437227405312))))
def flyballref16_from.j0 : Nat → Int → Bool → Bool → Int → Int → Option (Bool × Int × Int)
 | 0, _, _, _, _, _ => none
 | k + 1, x1, p0, q0, u0, v0 => if p0 = true then ((flyballref04_Next.f k x1).bind fun y0 => ((flyballref16_Meet.f k q0 u0 v0 false y0 9218868437227405312).bind fun z0 => (some (z0.1, z0.2.1, z0.2.2)))) else ((flyballref16_Meet.f k q0 u0 v0 false x1 9218868437227405312).bind fun e0 => (some (e0.1, e0.2.1, e0.2.2)))
def flyballref16_from.f (k : Nat) (a0_0 : Bool) (a0_1 : Int) (a0_2 : Int) (a1 : Int) (a2 : Bool) : Option (Bool × Int × Int) := if a2 = true then ((flyballref04_Finite.f k a1).bind fun p0 => (flyballref16_from.j0 k a1 p0 a0_0 a0_1 a0_2)) else (flyballref16_from.j0 k a1 false a0_0 a0_1 a0_2)
def flyballref16_without.j0 : Nat → Int → Bool → Bool → Int → Int → Option (Bool × Int × Int)
 | 0, _, _, _, _, _ => none
 | k + 1, x1, p0, q0, u0, v0 => if p0 = true then (some (true, 0, 0)) else (if u0 = x1 then ((flyballref16_from.f k q0 u0 v0 x1 true).bind fun y0 => (some (y0.1, y0.2.1, y0.2.2))) else (if v0 = x1 then ((flyballref16_below.f k q0 u0 v0 x1 true).bind fun z0 => (some (z0.1, z0.2.1, z0.2.2))) else (some (q0, u0, v0))))
def flyballref16_without.f (k : Nat) (a0_0 : Bool) (a0_1 : Int) (a0_2 : Int) (a1 : Int) : Option (Bool × Int × Int) := if a0_1 = a1 then (flyballref16_without.j0 k a1 (a0_2 == a1) a0_0 a0_1 a0_2) else (flyballref16_without.j0 k a1 false a0_0 a0_1 a0_2)
mutual
def flyballref16_Test.j0 : Nat → Int → Bool → Bool → Int → Int → Bool → Int → Int → Bool → Int → Int → Option (Bool × Int × Int × Bool × Int × Int)
 | 0, _, _, _, _, _, _, _, _, _, _, _ => none
 | k + 1, x0, p0, q0, u0, v0, y0, z0, e0, f0, g0, h0 => if p0 = true then (some (f0, g0, h0, f0, g0, h0)) else (if x0 = 9 then (flyballref16_Test.j1 k x0 x0 (x0 == 9) q0 u0 v0 y0 z0 e0 f0 g0 h0 q0 u0 v0 y0 z0 e0) else (flyballref16_Test.j1 k x0 x0 (x0 == 10) q0 u0 v0 y0 z0 e0 f0 g0 h0 q0 u0 v0 y0 z0 e0))
def flyballref16_Test.j1 : Nat → Int → Int → Bool → Bool → Int → Int → Bool → Int → Int → Bool → Int → Int → Bool → Int → Int → Bool → Int → Int → Option (Bool × Int × Int × Bool × Int × Int)
 | 0, _, _, _, _, _, _, _, _, _, _, _, _, _, _, _, _, _, _ => none
 | k + 1, x0, i0, p1, q0, u0, v0, y0, z0, e0, f0, g0, h0, q1, u1, v1, y1, z1, e1 => if p1 = true then ((flyballref16_below.f k q0 u0 v0 e0 (x0 == 9)).bind fun f1 => ((flyballref16_from.f k y0 z0 e0 u0 (x0 == 9)).bind fun g1 => (if f1.1 = true then (some (f0, g0, h0, f0, g0, h0)) else (if g1.1 = true then (some (f0, g0, h0, f0, g0, h0)) else (some (f1.1, f1.2.1, f1.2.2, g1.1, g1.2.1, g1.2.2)))))) else (if i0 = 13 then (flyballref16_Test.j2 k x0 i0 (i0 == 13) q0 u0 v0 y0 z0 e0 f0 g0 h0 q1 u1 v1 y1 z1 e1) else (flyballref16_Test.j2 k x0 i0 (i0 == 14) q0 u0 v0 y0 z0 e0 f0 g0 h0 q1 u1 v1 y1 z1 e1))
def flyballref16_Test.j2 : Nat → Int → Int → Bool → Bool → Int → Int → Bool → Int → Int → Bool → Int → Int → Bool → Int → Int → Bool → Int → Int → Option (Bool × Int × Int × Bool × Int × Int)
 | 0, _, _, _, _, _, _, _, _, _, _, _, _, _, _, _, _, _, _ => none
 | k + 1, x0, i0, h1, q0, u0, v0, y0, z0, e0, f0, g0, h0, q1, u1, v1, y1, z1, e1 => if h1 = true then ((flyballref16_from.f k q0 u0 v0 z0 (x0 == 13)).bind fun i1 => ((flyballref16_below.f k y0 z0 e0 v0 (x0 == 13)).bind fun p2 => (if i1.1 = true then (some (f0, g0, h0, f0, g0, h0)) else (if p2.1 = true then (some (f0, g0, h0, f0, g0, h0)) else (some (i1.1, i1.2.1, i1.2.2, p2.1, p2.2.1, p2.2.2)))))) else (if i0 = 11 then ((flyballref16_Meet.f k q0 u0 v0 y0 z0 e0).bind fun q2 => (if q2.1 = true then (some (f0, g0, h0, f0, g0, h0)) else (some (q2.1, q2.2.1, q2.2.2, q2.1, q2.2.1, q2.2.2)))) else (if i0 = 12 then (if z0 = e0 then ((flyballref16_without.f k q0 u0 v0 z0).bind fun u2 => (flyballref16_Test.j3 k q0 u0 v0 y0 z0 e0 f0 g0 h0 u2.1 u2.2.1 u2.2.2 y1 z1 e1)) else (flyballref16_Test.j3 k q0 u0 v0 y0 z0 e0 f0 g0 h0 q1 u1 v1 y1 z1 e1)) else (if q1 = true then (some (f0, g0, h0, f0, g0, h0)) else (if y1 = true then (some (f0, g0, h0, f0, g0, h0)) else (some (q1, u1, v1, y1, z1, e1))))))
def flyballref16_Test.j3 : Nat → Bool → Int → Int → Bool → Int → Int → Bool → Int → Int → Bool → Int → Int → Bool → Int → Int → Option (Bool × Int × Int × Bool × Int × Int)
 | 0, _, _, _, _, _, _, _, _, _, _, _, _, _, _, _ => none
 | k + 1, q0, u0, v0, y0, z0, e0, f0, g0, h0, q1, u1, v1, y1, z1, e1 => if u0 = v0 then ((flyballref16_without.f k y0 z0 e0 u0).bind fun v2 => (if q1 = true then (some (f0, g0, h0, f0, g0, h0)) else (if v2.1 = true then (some (f0, g0, h0, f0, g0, h0)) else (some (q1, u1, v1, v2.1, v2.2.1, v2.2.2))))) else (if q1 = true then (some (f0, g0, h0, f0, g0, h0)) else (if y1 = true then (some (f0, g0, h0, f0, g0, h0)) else (some (q1, u1, v1, y1, z1, e1))))
end
def flyballref16_Test.f (k : Nat) (a0 : Int) (a1_0 : Bool) (a1_1 : Int) (a1_2 : Int) (a2_0 : Bool) (a2_1 : Int) (a2_2 : Int) : Option (Bool × Int × Int × Bool × Int × Int) := (flyballref16_Norm.f k a1_0 a1_1 a1_2).bind fun p0 => ((flyballref16_Norm.f k a2_0 a2_1 a2_2).bind fun q0 => (if p0.1 = true then (flyballref16_Test.j0 k a0 true p0.1 p0.2.1 p0.2.2 q0.1 q0.2.1 q0.2.2 true 0 0) else (flyballref16_Test.j0 k a0 q0.1 p0.1 p0.2.1 p0.2.2 q0.1 q0.2.1 q0.2.2 true 0 0)))
def flyballlaw16_SpanTests.f (k : Nat) (a0 : Int) (a1_0 : Bool) (a1_1 : Int) (a1_2 : Int) (a2_0 : Bool) (a2_1 : Int) (a2_2 : Int) : Option (Bool) := (flyballlaw16_works.f k).bind fun p0 => (if p0 = true then ((span_Test.f k a0 a1_0 a1_1 a1_2 a2_0 a2_1 a2_2).bind fun q0 => ((flyballref16_Test.f k a0 a1_0 a1_1 a1_2 a2_0 a2_1 a2_2).bind fun u0 => (if (q0.1 == u0.1 && (q0.2.1 == u0.2.1 && (q0.2.2.1 == u0.2.2.1))) = true then (some (q0.2.2.2.1 == u0.2.2.2.1 && (q0.2.2.2.2.1 == u0.2.2.2.2.1 && (q0.2.2.2.2.2 == u0.2.2.2.2.2)))) else (some false)))) else (some false))
end Go.Proofs.Ytmadjhmecfbcmaa.F
end
section
namespace Go.Proofs.Ytmadjhmecfbcmaa.F
open Go.RowKit Go.Proofs.YtmadjhmecfbcmaaW.PrintWords Go.Proofs.YtmadjhmecfbcmaaW.PrintLast Go.Proofs.YtmadjhmecfbcmaaW.PrintMore
attribute [local go_sem] max2_int min2_int max_two min_two max_three min_three max_four min_four
set_option linter.unusedVariables false
set_option linter.unusedSimpArgs false
def errW : Option Int → Value
 | none => .nilIface
 | some c => .iface 0 (.int .i64 c)
theorem errW_none : errW none = .nilIface := rfl
theorem errW_some (c : Int) : errW (some c) = .iface 0 (.int .i64 c) := rfl
theorem k43_open {w : World} {x : S43} {cs : List Value} (h : k43.K w x cs) : cs = [.bool x.f0, .int .u64 x.f1, .int .u64 x.f2] := by
 obtain ⟨_, _, rfl, rfl, ⟨_, _, rfl, rfl, rfl⟩⟩ := h
 exact rfl
theorem k43_mkM (w : World) (base : Nat) (ok : Nat → Prop) (x : S43)  : k43.M w base ok x [.bool x.f0, .int .u64 x.f1, .int .u64 x.f2] := ⟨[.bool x.f0], [.int .u64 x.f1, .int .u64 x.f2], rfl, rfl, ⟨[.int .u64 x.f1], [.int .u64 x.f2], rfl, rfl, rfl⟩⟩
theorem at_T43 {w : World} {A : Option Addr} {n : Nat} {xs : List S43} (h : Kd.C k43 w A n xs) (i : Int) (h0 : 0 ≤ i) (h1 : i < n) : ∃ ad , A = some ad ∧ w.cell? (ad.add (i.toNat * 3)) = some (.bool (rd_T43 xs i).f0) ∧ w.cell? ⟨(ad.add (i.toNat * 3)).block, (ad.add (i.toNat * 3)).off + 1, none⟩ = some (.int .u64 (rd_T43 xs i).f1) ∧ w.cell? ⟨(ad.add (i.toNat * 3)).block, (ad.add (i.toNat * 3)).off + 2, none⟩ = some (.int .u64 (rd_T43 xs i).f2) := by
 obtain ⟨ad, c, e, _, hK, hc0⟩ := Kd.C_get h z43 i h0 h1
 have hc : ∀ j u, c[j]? = some u → w.cell? (ad.add (i.toNat * 3 + j)) = some u := hc0
 obtain rfl := k43_open hK
 exact ⟨ad, e, hc 0 _ rfl, by rw [← add_field _ _ 1 (by omega)]; exact hc 1 _ rfl, by rw [← add_field _ _ 2 (by omega)]; exact hc 2 _ rfl⟩
end Go.Proofs.Ytmadjhmecfbcmaa.F
end
section
namespace Go.Proofs.Ytmadjhmecfbcmaa.F
open Go.RowKit Go.Proofs.YtmadjhmecfbcmaaW.PrintWords Go.Proofs.YtmadjhmecfbcmaaW.PrintLast Go.Proofs.YtmadjhmecfbcmaaW.PrintMore
section
variable {P : Program} {ops : Array Oper} {Q : Exit → Act → World → Prop} {rest : List Oper} {o : Oper} {a : Act} {w w' w1 W W' : World} {g n : Nat} {ob : Obj} {t : TypeId}
theorem gtc (f : FuncId) {as_ : Array Operand} {ts : Array TypeId} (_ho : o.op = .call { callee := .value (.func f), args := as_, argTypes := ts }) (h : wpList P ops Q (o :: rest) a W) : wpList P ops Q (o :: rest) a W := h
theorem gtd (N : Tmp) (_hN : o.dst = some N) (h : wpList P ops Q (o :: rest) a W) : wpList P ops Q (o :: rest) a W := h
theorem zkb (h : Aside0 (w.heap[g]? = some ob)) (hb : Below w'.heap.size w' w1) (k : Below w.heap.size w w' := by (first | exact Below.refl _ _ | (repeat (first | exact Below.refl _ _ | (with_reducible first | apply pw_below_drewN | apply below_drew1 | apply below_alloc))))) : Aside0 (w1.heap[g]? = some ob) := ⟨blk_below (blk_below h.out k) hb⟩
theorem zkq (h : Aside0 (w.heap[g]? = some ob)) (k : Below w.heap.size w w' := by (first | exact Below.refl _ _ | (repeat (first | exact Below.refl _ _ | (with_reducible first | apply pw_below_drewN | apply below_drew1 | apply below_alloc))))) : w'.heap[g]? = some ob := blk_below h.out k
theorem zkB (h : Aside0 (Below w.heap.size w W)) (hb : Below W'.heap.size W' w1) (k : Below W.heap.size W W' := by (first | exact Below.refl _ _ | (repeat (first | exact Below.refl _ _ | (with_reducible first | apply pw_below_drewN | apply below_drew1 | apply below_alloc))))) : Aside0 (Below w.heap.size w w1) := ⟨below_step (below_step h.out k) hb⟩
theorem zkl (h : Aside0 (w.heap[g]? = some ob)) (hg : n = w'.heap.size) (k : Below w.heap.size w w' := by (first | exact Below.refl _ _ | (repeat (first | exact Below.refl _ _ | (with_reducible first | apply pw_below_drewN | apply below_drew1 | apply below_alloc))))) : Aside0 (g ≠ n) := ⟨by rw [hg]; exact Nat.ne_of_lt (blk_lt (zkq h k))⟩
theorem zkr (h : Aside0 (w.heap[g]? = some ob)) (hg : n = w'.heap.size) (k : Below w.heap.size w w' := by (first | exact Below.refl _ _ | (repeat (first | exact Below.refl _ _ | (with_reducible first | apply pw_below_drewN | apply below_drew1 | apply below_alloc))))) : Aside0 (n ≠ g) := ⟨(zkl h hg k).out.symm⟩
theorem zkz (h : Aside0 (Below w.heap.size w W)) (hg : n = W'.heap.size) (k : Below W.heap.size W W' := by (first | exact Below.refl _ _ | (repeat (first | exact Below.refl _ _ | (with_reducible first | apply pw_below_drewN | apply below_drew1 | apply below_alloc))))) : Aside0 (w.heap.size ≤ n) := ⟨by rw [hg]; exact below_size (below_step h.out k)⟩
theorem zkL (hg : n = w.heap.size) (h : w.heap[g]? = some ob) : Aside0 (g ≠ n) := ⟨by rw [hg]; exact Nat.ne_of_lt (blk_lt h)⟩
theorem zkZ (hg : n = W.heap.size) (h : Below w.heap.size w W) : Aside0 (w.heap.size ≤ n) := ⟨by rw [hg]; exact below_size h⟩
variable {v0 v1 v2 v3 v4 v5 v6 v7 v8 v9 v10 : Value} {l : List Value}
theorem zc0 (h : Aside0 (w.heap[g]? = some (.cells (v0 :: l).toArray t (0, 0)))) : w.cell? ⟨g, 0, none⟩ = some v0 := (blk_cell h.out 0).trans rfl
theorem zc1 (h : Aside0 (w.heap[g]? = some (.cells (v0 :: v1 :: l).toArray t (0, 0)))) : w.cell? ⟨g, 1, none⟩ = some v1 := (blk_cell h.out 1).trans rfl
theorem zc2 (h : Aside0 (w.heap[g]? = some (.cells (v0 :: v1 :: v2 :: l).toArray t (0, 0)))) : w.cell? ⟨g, 2, none⟩ = some v2 := (blk_cell h.out 2).trans rfl
theorem zc3 (h : Aside0 (w.heap[g]? = some (.cells (v0 :: v1 :: v2 :: v3 :: l).toArray t (0, 0)))) : w.cell? ⟨g, 3, none⟩ = some v3 := (blk_cell h.out 3).trans rfl
theorem zc4 (h : Aside0 (w.heap[g]? = some (.cells (v0 :: v1 :: v2 :: v3 :: v4 :: l).toArray t (0, 0)))) : w.cell? ⟨g, 4, none⟩ = some v4 := (blk_cell h.out 4).trans rfl
theorem ze2 (h : Aside0 (w.heap[g]? = some (.cells (v0 :: v1 :: l).toArray t (0, 0)))) : w.cell? ⟨g, 0, none⟩ = some v0 ∧ w.cell? ⟨g, 1, none⟩ = some v1 := ⟨zc0 h, zc1 h⟩
theorem zk3 {R : Prop} (h : Aside0 (w.heap[g]? = some (.cells (v0 :: v1 :: v2 :: l).toArray t (0, 0)))) (r : R) : w.cell? ⟨g, 0, none⟩ = some v0 ∧ w.cell? ⟨g, 1, none⟩ = some v1 ∧ w.cell? ⟨g, 2, none⟩ = some v2 ∧ R := ⟨zc0 h, zc1 h, zc2 h, r⟩
theorem ze3 (h : Aside0 (w.heap[g]? = some (.cells (v0 :: v1 :: v2 :: l).toArray t (0, 0)))) : w.cell? ⟨g, 0, none⟩ = some v0 ∧ w.cell? ⟨g, 1, none⟩ = some v1 ∧ w.cell? ⟨g, 2, none⟩ = some v2 := ⟨zc0 h, zc1 h, zc2 h⟩
theorem zk5 {R : Prop} (h : Aside0 (w.heap[g]? = some (.cells (v0 :: v1 :: v2 :: v3 :: v4 :: l).toArray t (0, 0)))) (r : R) : w.cell? ⟨g, 0, none⟩ = some v0 ∧ w.cell? ⟨g, 1, none⟩ = some v1 ∧ w.cell? ⟨g, 2, none⟩ = some v2 ∧ w.cell? ⟨g, 3, none⟩ = some v3 ∧ w.cell? ⟨g, 4, none⟩ = some v4 ∧ R := ⟨zc0 h, zc1 h, zc2 h, zc3 h, zc4 h, r⟩
theorem ze5 (h : Aside0 (w.heap[g]? = some (.cells (v0 :: v1 :: v2 :: v3 :: v4 :: l).toArray t (0, 0)))) : w.cell? ⟨g, 0, none⟩ = some v0 ∧ w.cell? ⟨g, 1, none⟩ = some v1 ∧ w.cell? ⟨g, 2, none⟩ = some v2 ∧ w.cell? ⟨g, 3, none⟩ = some v3 ∧ w.cell? ⟨g, 4, none⟩ = some v4 := ⟨zc0 h, zc1 h, zc2 h, zc3 h, zc4 h⟩
theorem zff {g' j j' : Nat} {u v : Value} (h : Aside0 (g ≠ g')) (e : w.cell? ⟨g, j, none⟩ = some v) : (w.setCell ⟨g', j', none⟩ u).cell? ⟨g, j, none⟩ = some v := (cell_far (p := ⟨g', j', none⟩) h.out _).trans e
theorem zfz (h : Aside0 (w.heap[g]? = some (.cells l.toArray t (0, 0)))) (i : Nat) : w.frozen? ⟨g, i, none⟩ = false := blk_frozen h.out i
theorem zkf {p : Addr} (h : w.heap[g]? = some ob) (hp : g ≠ p.block) (u : Value) : (w.setCell p u).heap[g]? = some ob := (Below.heap_setCell w p u g hp).trans h
theorem zks {x y : Nat} (h : Aside0 (x ≠ y)) : Aside0 (y ≠ x) := ⟨h.out.symm⟩
theorem zt1 {x0 y0 : Nat} {p : Prop} (h0 : Aside0 (x0 ≠ y0)) (k : x0 ≠ y0 → y0 ≠ x0 → p) : p := k h0.out h0.out.symm
theorem zt2 {x0 y0 x1 y1 : Nat} {p : Prop} (h0 : Aside0 (x0 ≠ y0)) (h1 : Aside0 (x1 ≠ y1)) (k : x0 ≠ y0 → y0 ≠ x0 → x1 ≠ y1 → y1 ≠ x1 → p) : p := k h0.out h0.out.symm h1.out h1.out.symm
theorem zt3 {x0 y0 x1 y1 x2 y2 : Nat} {p : Prop} (h0 : Aside0 (x0 ≠ y0)) (h1 : Aside0 (x1 ≠ y1)) (h2 : Aside0 (x2 ≠ y2)) (k : x0 ≠ y0 → y0 ≠ x0 → x1 ≠ y1 → y1 ≠ x1 → x2 ≠ y2 → y2 ≠ x2 → p) : p := k h0.out h0.out.symm h1.out h1.out.symm h2.out h2.out.symm
theorem zt4 {x0 y0 x1 y1 x2 y2 x3 y3 : Nat} {p : Prop} (h0 : Aside0 (x0 ≠ y0)) (h1 : Aside0 (x1 ≠ y1)) (h2 : Aside0 (x2 ≠ y2)) (h3 : Aside0 (x3 ≠ y3)) (k : x0 ≠ y0 → y0 ≠ x0 → x1 ≠ y1 → y1 ≠ x1 → x2 ≠ y2 → y2 ≠ x2 → x3 ≠ y3 → y3 ≠ x3 → p) : p := k h0.out h0.out.symm h1.out h1.out.symm h2.out h2.out.symm h3.out h3.out.symm
theorem zt5 {x0 y0 x1 y1 x2 y2 x3 y3 x4 y4 : Nat} {p : Prop} (h0 : Aside0 (x0 ≠ y0)) (h1 : Aside0 (x1 ≠ y1)) (h2 : Aside0 (x2 ≠ y2)) (h3 : Aside0 (x3 ≠ y3)) (h4 : Aside0 (x4 ≠ y4)) (k : x0 ≠ y0 → y0 ≠ x0 → x1 ≠ y1 → y1 ≠ x1 → x2 ≠ y2 → y2 ≠ x2 → x3 ≠ y3 → y3 ≠ x3 → x4 ≠ y4 → y4 ≠ x4 → p) : p := k h0.out h0.out.symm h1.out h1.out.symm h2.out h2.out.symm h3.out h3.out.symm h4.out h4.out.symm
theorem zt6 {x0 y0 x1 y1 x2 y2 x3 y3 x4 y4 x5 y5 : Nat} {p : Prop} (h0 : Aside0 (x0 ≠ y0)) (h1 : Aside0 (x1 ≠ y1)) (h2 : Aside0 (x2 ≠ y2)) (h3 : Aside0 (x3 ≠ y3)) (h4 : Aside0 (x4 ≠ y4)) (h5 : Aside0 (x5 ≠ y5)) (k : x0 ≠ y0 → y0 ≠ x0 → x1 ≠ y1 → y1 ≠ x1 → x2 ≠ y2 → y2 ≠ x2 → x3 ≠ y3 → y3 ≠ x3 → x4 ≠ y4 → y4 ≠ x4 → x5 ≠ y5 → y5 ≠ x5 → p) : p := k h0.out h0.out.symm h1.out h1.out.symm h2.out h2.out.symm h3.out h3.out.symm h4.out h4.out.symm h5.out h5.out.symm
theorem zt7 {x0 y0 x1 y1 x2 y2 x3 y3 x4 y4 x5 y5 x6 y6 : Nat} {p : Prop} (h0 : Aside0 (x0 ≠ y0)) (h1 : Aside0 (x1 ≠ y1)) (h2 : Aside0 (x2 ≠ y2)) (h3 : Aside0 (x3 ≠ y3)) (h4 : Aside0 (x4 ≠ y4)) (h5 : Aside0 (x5 ≠ y5)) (h6 : Aside0 (x6 ≠ y6)) (k : x0 ≠ y0 → y0 ≠ x0 → x1 ≠ y1 → y1 ≠ x1 → x2 ≠ y2 → y2 ≠ x2 → x3 ≠ y3 → y3 ≠ x3 → x4 ≠ y4 → y4 ≠ x4 → x5 ≠ y5 → y5 ≠ x5 → x6 ≠ y6 → y6 ≠ x6 → p) : p := k h0.out h0.out.symm h1.out h1.out.symm h2.out h2.out.symm h3.out h3.out.symm h4.out h4.out.symm h5.out h5.out.symm h6.out h6.out.symm
theorem zt8 {x0 y0 x1 y1 x2 y2 x3 y3 x4 y4 x5 y5 x6 y6 x7 y7 : Nat} {p : Prop} (h0 : Aside0 (x0 ≠ y0)) (h1 : Aside0 (x1 ≠ y1)) (h2 : Aside0 (x2 ≠ y2)) (h3 : Aside0 (x3 ≠ y3)) (h4 : Aside0 (x4 ≠ y4)) (h5 : Aside0 (x5 ≠ y5)) (h6 : Aside0 (x6 ≠ y6)) (h7 : Aside0 (x7 ≠ y7)) (k : x0 ≠ y0 → y0 ≠ x0 → x1 ≠ y1 → y1 ≠ x1 → x2 ≠ y2 → y2 ≠ x2 → x3 ≠ y3 → y3 ≠ x3 → x4 ≠ y4 → y4 ≠ x4 → x5 ≠ y5 → y5 ≠ x5 → x6 ≠ y6 → y6 ≠ x6 → x7 ≠ y7 → y7 ≠ x7 → p) : p := k h0.out h0.out.symm h1.out h1.out.symm h2.out h2.out.symm h3.out h3.out.symm h4.out h4.out.symm h5.out h5.out.symm h6.out h6.out.symm h7.out h7.out.symm
theorem zu2 {p : Prop} (h : Aside0 (w.heap[g]? = some (.cells (v0 :: v1 :: l).toArray t (0, 0)))) (k : w.cell? ⟨g, 0, none⟩ = some v0 → w.cell? ⟨g, 1, none⟩ = some v1 → w.frozen? ⟨g, 0, none⟩ = false → w.frozen? ⟨g, 1, none⟩ = false → p) : p := k (zc0 h) (zc1 h) (blk_frozen h.out 0) (blk_frozen h.out 1)
theorem zu3 {p : Prop} (h : Aside0 (w.heap[g]? = some (.cells (v0 :: v1 :: v2 :: l).toArray t (0, 0)))) (k : w.cell? ⟨g, 0, none⟩ = some v0 → w.cell? ⟨g, 1, none⟩ = some v1 → w.cell? ⟨g, 2, none⟩ = some v2 → w.frozen? ⟨g, 0, none⟩ = false → w.frozen? ⟨g, 1, none⟩ = false → w.frozen? ⟨g, 2, none⟩ = false → p) : p := k (zc0 h) (zc1 h) (zc2 h) (blk_frozen h.out 0) (blk_frozen h.out 1) (blk_frozen h.out 2)
theorem zu5 {p : Prop} (h : Aside0 (w.heap[g]? = some (.cells (v0 :: v1 :: v2 :: v3 :: v4 :: l).toArray t (0, 0)))) (k : w.cell? ⟨g, 0, none⟩ = some v0 → w.cell? ⟨g, 1, none⟩ = some v1 → w.cell? ⟨g, 2, none⟩ = some v2 → w.cell? ⟨g, 3, none⟩ = some v3 → w.cell? ⟨g, 4, none⟩ = some v4 → w.frozen? ⟨g, 0, none⟩ = false → w.frozen? ⟨g, 1, none⟩ = false → w.frozen? ⟨g, 2, none⟩ = false → w.frozen? ⟨g, 3, none⟩ = false → w.frozen? ⟨g, 4, none⟩ = false → p) : p := k (zc0 h) (zc1 h) (zc2 h) (zc3 h) (zc4 h) (blk_frozen h.out 0) (blk_frozen h.out 1) (blk_frozen h.out 2) (blk_frozen h.out 3) (blk_frozen h.out 4)
theorem zRW {p q : Prop} (h : q) (k : q → p := by intro h_; (with_reducible repeat (first | apply Kd.R_alloc | apply Kd.R_drewN | apply Kd.R_drew)); exact h_) : p := k h
theorem zbn1 {g1 : Nat} {o1 : Obj} {p : Prop} (HB : Aside0 (Below w.heap.size w W)) (h1 : Aside0 (W.heap[g1]? = some o1)) (hg : n = W'.heap.size) (hb : Below W'.heap.size W' w1) (hbox : w1.heap[n]? = some ob) (k : Below W.heap.size W W' := by (first | exact Below.refl _ _ | (repeat (first | exact Below.refl _ _ | (with_reducible first | apply pw_below_drewN | apply below_drew1 | apply below_alloc))))) (c : Aside0 (w.heap.size ≤ n) → Aside0 (g1 ≠ n) → Aside0 (w1.heap[g1]? = some o1) → Aside0 (Below w.heap.size w w1) → Aside0 (w1.heap[n]? = some ob) → p) : p := c (zkz HB hg k) (zkl h1 hg k) (zkb h1 hb k) (zkB HB hb k) ⟨hbox⟩
theorem zbn2 {g1 g2 : Nat} {o1 o2 : Obj} {p : Prop} (HB : Aside0 (Below w.heap.size w W)) (h1 : Aside0 (W.heap[g1]? = some o1)) (h2 : Aside0 (W.heap[g2]? = some o2)) (hg : n = W'.heap.size) (hb : Below W'.heap.size W' w1) (hbox : w1.heap[n]? = some ob) (k : Below W.heap.size W W' := by (first | exact Below.refl _ _ | (repeat (first | exact Below.refl _ _ | (with_reducible first | apply pw_below_drewN | apply below_drew1 | apply below_alloc))))) (c : Aside0 (w.heap.size ≤ n) → Aside0 (g1 ≠ n) → Aside0 (g2 ≠ n) → Aside0 (w1.heap[g1]? = some o1) → Aside0 (w1.heap[g2]? = some o2) → Aside0 (Below w.heap.size w w1) → Aside0 (w1.heap[n]? = some ob) → p) : p := c (zkz HB hg k) (zkl h1 hg k) (zkl h2 hg k) (zkb h1 hb k) (zkb h2 hb k) (zkB HB hb k) ⟨hbox⟩
theorem zcn2 {g1 g2 : Nat} {o1 o2 : Obj} {p : Prop} (HB : Aside0 (Below w.heap.size w W)) (h1 : Aside0 (W.heap[g1]? = some o1)) (h2 : Aside0 (W.heap[g2]? = some o2)) (hb : Below W'.heap.size W' w1) (k : Below W.heap.size W W' := by (first | exact Below.refl _ _ | (repeat (first | exact Below.refl _ _ | (with_reducible first | apply pw_below_drewN | apply below_drew1 | apply below_alloc))))) (c : Aside0 (w1.heap[g1]? = some o1) → Aside0 (w1.heap[g2]? = some o2) → Aside0 (Below w.heap.size w w1) → p) : p := c (zkb h1 hb k) (zkb h2 hb k) (zkB HB hb k)
theorem zbn3 {g1 g2 g3 : Nat} {o1 o2 o3 : Obj} {p : Prop} (HB : Aside0 (Below w.heap.size w W)) (h1 : Aside0 (W.heap[g1]? = some o1)) (h2 : Aside0 (W.heap[g2]? = some o2)) (h3 : Aside0 (W.heap[g3]? = some o3)) (hg : n = W'.heap.size) (hb : Below W'.heap.size W' w1) (hbox : w1.heap[n]? = some ob) (k : Below W.heap.size W W' := by (first | exact Below.refl _ _ | (repeat (first | exact Below.refl _ _ | (with_reducible first | apply pw_below_drewN | apply below_drew1 | apply below_alloc))))) (c : Aside0 (w.heap.size ≤ n) → Aside0 (g1 ≠ n) → Aside0 (g2 ≠ n) → Aside0 (g3 ≠ n) → Aside0 (w1.heap[g1]? = some o1) → Aside0 (w1.heap[g2]? = some o2) → Aside0 (w1.heap[g3]? = some o3) → Aside0 (Below w.heap.size w w1) → Aside0 (w1.heap[n]? = some ob) → p) : p := c (zkz HB hg k) (zkl h1 hg k) (zkl h2 hg k) (zkl h3 hg k) (zkb h1 hb k) (zkb h2 hb k) (zkb h3 hb k) (zkB HB hb k) ⟨hbox⟩
theorem zcn3 {g1 g2 g3 : Nat} {o1 o2 o3 : Obj} {p : Prop} (HB : Aside0 (Below w.heap.size w W)) (h1 : Aside0 (W.heap[g1]? = some o1)) (h2 : Aside0 (W.heap[g2]? = some o2)) (h3 : Aside0 (W.heap[g3]? = some o3)) (hb : Below W'.heap.size W' w1) (k : Below W.heap.size W W' := by (first | exact Below.refl _ _ | (repeat (first | exact Below.refl _ _ | (with_reducible first | apply pw_below_drewN | apply below_drew1 | apply below_alloc))))) (c : Aside0 (w1.heap[g1]? = some o1) → Aside0 (w1.heap[g2]? = some o2) → Aside0 (w1.heap[g3]? = some o3) → Aside0 (Below w.heap.size w w1) → p) : p := c (zkb h1 hb k) (zkb h2 hb k) (zkb h3 hb k) (zkB HB hb k)
theorem zbn4 {g1 g2 g3 g4 : Nat} {o1 o2 o3 o4 : Obj} {p : Prop} (HB : Aside0 (Below w.heap.size w W)) (h1 : Aside0 (W.heap[g1]? = some o1)) (h2 : Aside0 (W.heap[g2]? = some o2)) (h3 : Aside0 (W.heap[g3]? = some o3)) (h4 : Aside0 (W.heap[g4]? = some o4)) (hg : n = W'.heap.size) (hb : Below W'.heap.size W' w1) (hbox : w1.heap[n]? = some ob) (k : Below W.heap.size W W' := by (first | exact Below.refl _ _ | (repeat (first | exact Below.refl _ _ | (with_reducible first | apply pw_below_drewN | apply below_drew1 | apply below_alloc))))) (c : Aside0 (w.heap.size ≤ n) → Aside0 (g1 ≠ n) → Aside0 (g2 ≠ n) → Aside0 (g3 ≠ n) → Aside0 (g4 ≠ n) → Aside0 (w1.heap[g1]? = some o1) → Aside0 (w1.heap[g2]? = some o2) → Aside0 (w1.heap[g3]? = some o3) → Aside0 (w1.heap[g4]? = some o4) → Aside0 (Below w.heap.size w w1) → Aside0 (w1.heap[n]? = some ob) → p) : p := c (zkz HB hg k) (zkl h1 hg k) (zkl h2 hg k) (zkl h3 hg k) (zkl h4 hg k) (zkb h1 hb k) (zkb h2 hb k) (zkb h3 hb k) (zkb h4 hb k) (zkB HB hb k) ⟨hbox⟩
theorem zcn4 {g1 g2 g3 g4 : Nat} {o1 o2 o3 o4 : Obj} {p : Prop} (HB : Aside0 (Below w.heap.size w W)) (h1 : Aside0 (W.heap[g1]? = some o1)) (h2 : Aside0 (W.heap[g2]? = some o2)) (h3 : Aside0 (W.heap[g3]? = some o3)) (h4 : Aside0 (W.heap[g4]? = some o4)) (hb : Below W'.heap.size W' w1) (k : Below W.heap.size W W' := by (first | exact Below.refl _ _ | (repeat (first | exact Below.refl _ _ | (with_reducible first | apply pw_below_drewN | apply below_drew1 | apply below_alloc))))) (c : Aside0 (w1.heap[g1]? = some o1) → Aside0 (w1.heap[g2]? = some o2) → Aside0 (w1.heap[g3]? = some o3) → Aside0 (w1.heap[g4]? = some o4) → Aside0 (Below w.heap.size w w1) → p) : p := c (zkb h1 hb k) (zkb h2 hb k) (zkb h3 hb k) (zkb h4 hb k) (zkB HB hb k)
theorem zbn5 {g1 g2 g3 g4 g5 : Nat} {o1 o2 o3 o4 o5 : Obj} {p : Prop} (HB : Aside0 (Below w.heap.size w W)) (h1 : Aside0 (W.heap[g1]? = some o1)) (h2 : Aside0 (W.heap[g2]? = some o2)) (h3 : Aside0 (W.heap[g3]? = some o3)) (h4 : Aside0 (W.heap[g4]? = some o4)) (h5 : Aside0 (W.heap[g5]? = some o5)) (hg : n = W'.heap.size) (hb : Below W'.heap.size W' w1) (hbox : w1.heap[n]? = some ob) (k : Below W.heap.size W W' := by (first | exact Below.refl _ _ | (repeat (first | exact Below.refl _ _ | (with_reducible first | apply pw_below_drewN | apply below_drew1 | apply below_alloc))))) (c : Aside0 (w.heap.size ≤ n) → Aside0 (g1 ≠ n) → Aside0 (g2 ≠ n) → Aside0 (g3 ≠ n) → Aside0 (g4 ≠ n) → Aside0 (g5 ≠ n) → Aside0 (w1.heap[g1]? = some o1) → Aside0 (w1.heap[g2]? = some o2) → Aside0 (w1.heap[g3]? = some o3) → Aside0 (w1.heap[g4]? = some o4) → Aside0 (w1.heap[g5]? = some o5) → Aside0 (Below w.heap.size w w1) → Aside0 (w1.heap[n]? = some ob) → p) : p := c (zkz HB hg k) (zkl h1 hg k) (zkl h2 hg k) (zkl h3 hg k) (zkl h4 hg k) (zkl h5 hg k) (zkb h1 hb k) (zkb h2 hb k) (zkb h3 hb k) (zkb h4 hb k) (zkb h5 hb k) (zkB HB hb k) ⟨hbox⟩
theorem zcn5 {g1 g2 g3 g4 g5 : Nat} {o1 o2 o3 o4 o5 : Obj} {p : Prop} (HB : Aside0 (Below w.heap.size w W)) (h1 : Aside0 (W.heap[g1]? = some o1)) (h2 : Aside0 (W.heap[g2]? = some o2)) (h3 : Aside0 (W.heap[g3]? = some o3)) (h4 : Aside0 (W.heap[g4]? = some o4)) (h5 : Aside0 (W.heap[g5]? = some o5)) (hb : Below W'.heap.size W' w1) (k : Below W.heap.size W W' := by (first | exact Below.refl _ _ | (repeat (first | exact Below.refl _ _ | (with_reducible first | apply pw_below_drewN | apply below_drew1 | apply below_alloc))))) (c : Aside0 (w1.heap[g1]? = some o1) → Aside0 (w1.heap[g2]? = some o2) → Aside0 (w1.heap[g3]? = some o3) → Aside0 (w1.heap[g4]? = some o4) → Aside0 (w1.heap[g5]? = some o5) → Aside0 (Below w.heap.size w w1) → p) : p := c (zkb h1 hb k) (zkb h2 hb k) (zkb h3 hb k) (zkb h4 hb k) (zkb h5 hb k) (zkB HB hb k)
theorem zcn6 {g1 g2 g3 g4 g5 g6 : Nat} {o1 o2 o3 o4 o5 o6 : Obj} {p : Prop} (HB : Aside0 (Below w.heap.size w W)) (h1 : Aside0 (W.heap[g1]? = some o1)) (h2 : Aside0 (W.heap[g2]? = some o2)) (h3 : Aside0 (W.heap[g3]? = some o3)) (h4 : Aside0 (W.heap[g4]? = some o4)) (h5 : Aside0 (W.heap[g5]? = some o5)) (h6 : Aside0 (W.heap[g6]? = some o6)) (hb : Below W'.heap.size W' w1) (k : Below W.heap.size W W' := by (first | exact Below.refl _ _ | (repeat (first | exact Below.refl _ _ | (with_reducible first | apply pw_below_drewN | apply below_drew1 | apply below_alloc))))) (c : Aside0 (w1.heap[g1]? = some o1) → Aside0 (w1.heap[g2]? = some o2) → Aside0 (w1.heap[g3]? = some o3) → Aside0 (w1.heap[g4]? = some o4) → Aside0 (w1.heap[g5]? = some o5) → Aside0 (w1.heap[g6]? = some o6) → Aside0 (Below w.heap.size w w1) → p) : p := c (zkb h1 hb k) (zkb h2 hb k) (zkb h3 hb k) (zkb h4 hb k) (zkb h5 hb k) (zkb h6 hb k) (zkB HB hb k)
theorem zbn7 {g1 g2 g3 g4 g5 g6 g7 : Nat} {o1 o2 o3 o4 o5 o6 o7 : Obj} {p : Prop} (HB : Aside0 (Below w.heap.size w W)) (h1 : Aside0 (W.heap[g1]? = some o1)) (h2 : Aside0 (W.heap[g2]? = some o2)) (h3 : Aside0 (W.heap[g3]? = some o3)) (h4 : Aside0 (W.heap[g4]? = some o4)) (h5 : Aside0 (W.heap[g5]? = some o5)) (h6 : Aside0 (W.heap[g6]? = some o6)) (h7 : Aside0 (W.heap[g7]? = some o7)) (hg : n = W'.heap.size) (hb : Below W'.heap.size W' w1) (hbox : w1.heap[n]? = some ob) (k : Below W.heap.size W W' := by (first | exact Below.refl _ _ | (repeat (first | exact Below.refl _ _ | (with_reducible first | apply pw_below_drewN | apply below_drew1 | apply below_alloc))))) (c : Aside0 (w.heap.size ≤ n) → Aside0 (g1 ≠ n) → Aside0 (g2 ≠ n) → Aside0 (g3 ≠ n) → Aside0 (g4 ≠ n) → Aside0 (g5 ≠ n) → Aside0 (g6 ≠ n) → Aside0 (g7 ≠ n) → Aside0 (w1.heap[g1]? = some o1) → Aside0 (w1.heap[g2]? = some o2) → Aside0 (w1.heap[g3]? = some o3) → Aside0 (w1.heap[g4]? = some o4) → Aside0 (w1.heap[g5]? = some o5) → Aside0 (w1.heap[g6]? = some o6) → Aside0 (w1.heap[g7]? = some o7) → Aside0 (Below w.heap.size w w1) → Aside0 (w1.heap[n]? = some ob) → p) : p := c (zkz HB hg k) (zkl h1 hg k) (zkl h2 hg k) (zkl h3 hg k) (zkl h4 hg k) (zkl h5 hg k) (zkl h6 hg k) (zkl h7 hg k) (zkb h1 hb k) (zkb h2 hb k) (zkb h3 hb k) (zkb h4 hb k) (zkb h5 hb k) (zkb h6 hb k) (zkb h7 hb k) (zkB HB hb k) ⟨hbox⟩
theorem zcn9 {g1 g2 g3 g4 g5 g6 g7 g8 g9 : Nat} {o1 o2 o3 o4 o5 o6 o7 o8 o9 : Obj} {p : Prop} (HB : Aside0 (Below w.heap.size w W)) (h1 : Aside0 (W.heap[g1]? = some o1)) (h2 : Aside0 (W.heap[g2]? = some o2)) (h3 : Aside0 (W.heap[g3]? = some o3)) (h4 : Aside0 (W.heap[g4]? = some o4)) (h5 : Aside0 (W.heap[g5]? = some o5)) (h6 : Aside0 (W.heap[g6]? = some o6)) (h7 : Aside0 (W.heap[g7]? = some o7)) (h8 : Aside0 (W.heap[g8]? = some o8)) (h9 : Aside0 (W.heap[g9]? = some o9)) (hb : Below W'.heap.size W' w1) (k : Below W.heap.size W W' := by (first | exact Below.refl _ _ | (repeat (first | exact Below.refl _ _ | (with_reducible first | apply pw_below_drewN | apply below_drew1 | apply below_alloc))))) (c : Aside0 (w1.heap[g1]? = some o1) → Aside0 (w1.heap[g2]? = some o2) → Aside0 (w1.heap[g3]? = some o3) → Aside0 (w1.heap[g4]? = some o4) → Aside0 (w1.heap[g5]? = some o5) → Aside0 (w1.heap[g6]? = some o6) → Aside0 (w1.heap[g7]? = some o7) → Aside0 (w1.heap[g8]? = some o8) → Aside0 (w1.heap[g9]? = some o9) → Aside0 (Below w.heap.size w w1) → p) : p := c (zkb h1 hb k) (zkb h2 hb k) (zkb h3 hb k) (zkb h4 hb k) (zkb h5 hb k) (zkb h6 hb k) (zkb h7 hb k) (zkb h8 hb k) (zkb h9 hb k) (zkB HB hb k)
theorem zrl {p : Prop} (h : p := by first | rfl | (simp; done) | (simp [*]; done)) : p := h
theorem zle {x y : Nat} (h : x ≤ y := by first | omega | exact Nat.le_refl _) : x ≤ y := h
theorem zit {α : Type} {c : Prop} [Decidable c] {a b x : α} (H : (if c then a else b) = x) (hc : c := by exact rfl) : a = x := (if_pos hc).symm.trans H
theorem zif {α : Type} {c : Prop} [Decidable c] {a b x : α} (H : (if c then a else b) = x) (hc : ¬ c := by decide) : b = x := (if_neg hc).symm.trans H
theorem zaB {p : Prop} (h : p := by repeat (first | (with_reducible first | exact HB.out | apply below_alloc | apply pw_below_drewN | apply below_drew1) | refine below_set ?_ (Aside0.out (by assumption)) | exact HB.out)) : p := h
theorem zaE {p : Prop} (h : p := by first | rfl | (simp [errW_none, errW_some] <;> rfl) | (simp [*, errW_none, errW_some] <;> rfl)) : p := h
theorem zbx (N : Tmp) (cs : Array Value) (t : TypeId) (hN : o.dst = some N := by with_reducible rfl) (hg : o.guard = none := by rfl)
  (hr : (execOp a.eval o).run P W = .ok (.value (.pointer (some ⟨W.heap.size, 0, none⟩))) (W.alloc (.cells cs t (0, 0))) := by first | (go_simp; done) | (go_simp; rfl))
  (h : ∀ g, g = W.heap.size → ∀ w1, w1.heap[g]? = some (.cells cs t (0, 0)) → Below W.heap.size W w1 → wpList P ops Q rest (a.put o.dst (.pointer (some ⟨g, 0, none⟩))) w1) : wpList P ops Q (o :: rest) a W :=
 box_event hg hN hr h
end
section
variable {P : Program} {ops : Array Oper} {Q : Exit → Act → World → Prop} {md : Region.Mode} {S : World → Prop} {ds : List Nat} {oi : Oper} {v : Value} {fuel : Nat} {l l' : Array Bool} {a a' : Act} {w W x : World} {K : Act → World → Prop} {rest : List Oper}
theorem zpA (i : Nat) (N : Tmp) (hi : ops[i]? = some oi := by exact rfl) (hN : oi.dst = some N := by exact rfl) (_hl : l.setIfInBounds i true = l' := by simp only [List.setIfInBounds_toArray, List.set_cons_zero, List.set_cons_succ]; exact rfl)
  (hc : anyB md ops l l' i = true := by first | exact any_of HT_.out (by kernel_rfl) | kernel_rfl) (hy : Yields P ops oi v a := by (refine Or.inl ⟨by rfl, ?_⟩; intro w'; go_simp; with_reducible rfl))
  (hQ : ∀ c a w, Q (.panic c) (a.put oi.dst v) w → Q (.panic c) a w := by exact fun _ _ _ h => h) (ha : a.put (some N) v = a' := by simp only [Act.put, List.setIfInBounds_toArray, List.set_cons_zero, List.set_cons_succ, i64_w, i32_w]; rfl)
  (h : wpAnyLast P md ops Q S ds fuel l' a' w) : wpAnyLast P md ops Q S ds (fuel + 1) l a w := pure_ l' hi hN hc hQ hy ha h
theorem zpU (i : Nat) (N : Tmp) (hi : ops[i]? = some oi := by exact rfl) (hN : oi.dst = some N := by exact rfl) (_hl : l.setIfInBounds i true = l' := by simp only [List.setIfInBounds_toArray, List.set_cons_zero, List.set_cons_succ]; exact rfl)
  (hc : anyB md ops l l' i = true := by first | exact any_of HT_.out (by kernel_rfl) | kernel_rfl) (hy : Yields P ops oi undef a := by exact Or.inr ⟨by rfl, rfl⟩)
  (hQ : ∀ c a w, Q (.panic c) (a.put oi.dst undef) w → Q (.panic c) a w := by exact fun _ _ _ h => h) (ha : a.put (some N) undef = a' := by simp only [Act.put, List.setIfInBounds_toArray, List.set_cons_zero, List.set_cons_succ, i64_w, i32_w]; rfl)
  (h : wpAnyLast P md ops Q S ds fuel l' a' w) : wpAnyLast P md ops Q S ds (fuel + 1) l a w := pure_ l' hi hN hc hQ hy ha h
theorem ztA (i : Nat) (N : Tmp) (hi : ops[i]? = some oi := by exact rfl) (hN : oi.dst = some N := by exact rfl) (_hl : l.setIfInBounds i true = l' := by simp only [List.setIfInBounds_toArray, List.set_cons_zero, List.set_cons_succ]; exact rfl)
  (hc : takeB md ops ds l l' i = true := by first | exact take_ofW HT_.out HW_.out (by kernel_rfl) | kernel_rfl) (hy : YieldsIf P ops S oi v a := by (refine Or.inl ⟨by rfl, ?_⟩; intro w' s_; (repeat (obtain ⟨_, s_⟩ := s_)); go_simp; with_reducible rfl))
  (hQ : ∀ c a w, Q (.panic c) (a.put oi.dst v) w → Q (.panic c) a w := by exact fun _ _ _ h => h) (hS : S w := by exact hHeld) (ha : a.put (some N) v = a' := by simp only [Act.put, List.setIfInBounds_toArray, List.set_cons_zero, List.set_cons_succ, i64_w, i32_w]; rfl)
  (h : wpAnyLast P md ops Q S ds fuel l' a' w) : wpAnyLast P md ops Q S ds (fuel + 1) l a w := take_ l' hi hN hc hQ hy hS ha h
theorem zoA (i : Nat) (N : Tmp) (hi : ops[i]? = some oi := by exact rfl) (hN : oi.dst = some N := by exact rfl) (_hl : l.setIfInBounds i true = l' := by simp only [List.setIfInBounds_toArray, List.set_cons_zero, List.set_cons_succ]; exact rfl)
  (hc : readyB md ops l l' i = true := by first | exact one_of HT_.out (by kernel_rfl) | kernel_rfl) (hd : i ∉ ds := by decide)
  (h : ∀ K : Act → World → Prop, Shut (∀ a' w', S w' → (S w' → wpAnyLast P md ops Q S ds fuel l' a' w') → K a' w') → if Region.wanted oi (yielded ops a.tmps) = true then Oper.wp P oi a w K Q else K (a.put (some N) undef) w) :
  wpAnyLast P md ops Q S ds (fuel + 1) l a w := one_ l' hi hN hc hd h
theorem znA (N : Tmp) (ha : a.put (some N) v = a' := by simp only [Act.put, List.setIfInBounds_toArray, List.set_cons_zero, List.set_cons_succ, i64_w, i32_w]; rfl) (h : wpAnyLast P md ops Q S ds fuel l a' w) : wpAnyLast P md ops Q S ds fuel l (a.put (some N) v) w := norm_ ha h
theorem zgA {f : FuncId} {fn : Func} {ars : Array Operand} {ts : Array TypeId} {args : Array Value} {N : Option Tmp} {R : World → Prop} (hf : P.funcs[f]? = some fn) (hc : Calls P f args w (fun e w' => e = .returned v ∧ R w')) (hname : (fn.name == "runtime.NumGoroutine") = false := by kernel_rfl) (hb : fn.body.isSome = true := by exact rfl)
  (hw : Region.wanted oi (yielded ops a.tmps) = true := by rfl) (hN : oi.dst = N := by exact rfl) (hop : oi.op = .call { callee := .value (.func f), args := ars, argTypes := ts } := by exact rfl)
  (hargs : ars.map a.eval = args := by (try simp only [List.map_toArray, List.map_cons, List.map_nil]); first | done | rfl | (simp only [List.length_drop, List.length_take]; rfl))
  (h : ∀ w', R w' → K (a.put N v) w') : if Region.wanted oi (yielded ops a.tmps) = true then Oper.wp P oi a w K Q else K (a.put N undef) w :=
 goes_ hf hname hb args hw hN hop hargs (hc.mono fun _ _ h2 => ⟨v, h2.1, h _ h2.2⟩)
theorem zgL {f : FuncId} {fn : Func} {ars : Array Operand} {ts : Array TypeId} {args : Array Value} (N : Tmp) {R : World → Prop} (hf : P.funcs[f]? = some fn) (hc : Calls P f args w (fun e w' => e = .returned v ∧ R w')) (hd : oi.dst = some N := by exact rfl) (hg : oi.guard = none := by exact rfl) (hname : (fn.name == "runtime.NumGoroutine") = false := by kernel_rfl) (hb : fn.body.isSome = true := by exact rfl)
  (hop : oi.op = .call { callee := .value (.func f), args := ars, argTypes := ts } := by exact rfl)
  (hargs : ars.map a.eval = args := by (try simp only [List.map_toArray, List.map_cons, List.map_nil]); first | done | rfl | (simp only [List.length_drop, List.length_take]; rfl))
  (h : ∀ w', R w' → wpList P ops Q rest (a.put (some N) v) w') : wpList P ops Q (oi :: rest) a w :=
 goesL_ (some N) hd hg hf hname hb args hop hargs (hc.mono fun _ _ h2 => ⟨v, h2.1, h _ h2.2⟩)
theorem zgW {f : FuncId} {fn : Func} {ars : Array Operand} {ts : Array TypeId} {args : Array Value} {N : Option Tmp} {R : World → Prop} {cal : Operand} (hf : P.funcs[f]? = some fn) (hc : Calls P f args w (fun e w' => e = .returned v ∧ R w')) (hname : (fn.name == "runtime.NumGoroutine") = false := by kernel_rfl) (hb : fn.body.isSome = true := by exact rfl)
  (hw : Region.wanted oi (yielded ops a.tmps) = true := by rfl) (hN : oi.dst = N := by exact rfl) (hop : oi.op = .call { callee := .value cal, args := ars, argTypes := ts } := by exact rfl) (hcal : a.eval cal = a.eval (.func f) := by exact rfl)
  (hargs : ars.map a.eval = args := by (try simp only [List.map_toArray, List.map_cons, List.map_nil]); first | done | rfl | (simp only [List.length_drop, List.length_take]; rfl))
  (h : ∀ w', R w' → K (a.put N v) w') : if Region.wanted oi (yielded ops a.tmps) = true then Oper.wp P oi a w K Q else K (a.put N undef) w := by
 refine call_ f args hw hN ?_ (hc.mono fun _ _ h2 => ⟨v, h2.1, h _ h2.2⟩)
 have he := enters_ hf hname hb args w
 unfold execOp
 have e : a.eval (.func f) = .func (.func f) #[] #[] := rfl
 simp [hop, resolve, hcal, e, Deferred.ofValue, invoke, hargs, he]
theorem zgV {f : FuncId} {fn : Func} {ars : Array Operand} {ts : Array TypeId} {args : Array Value} (N : Option Tmp) {R : World → Prop} (cal : Operand) (hf : P.funcs[f]? = some fn) (hc : Calls P f args w (fun e w' => e = .returned v ∧ R w')) (hcal : a.eval cal = a.eval (.func f)) (hd : oi.dst = N := by exact rfl) (hg : oi.guard = none := by exact rfl) (hname : (fn.name == "runtime.NumGoroutine") = false := by kernel_rfl) (hb : fn.body.isSome = true := by exact rfl)
  (hop : oi.op = .call { callee := .value cal, args := ars, argTypes := ts } := by exact rfl)
  (hargs : ars.map a.eval = args := by (try simp only [List.map_toArray, List.map_cons, List.map_nil]); first | done | rfl | (simp only [List.length_drop, List.length_take]; rfl))
  (h : ∀ w', R w' → wpList P ops Q rest (a.put N v) w') : wpList P ops Q (oi :: rest) a w := by
 refine wpList_plain hg fun K hK => ?_
 have he := enters_ hf hname hb args w
 have hrun : (execOp a.eval oi).run P w = .ok (.enter f args) w := by
  unfold execOp
  have e : a.eval (.func f) = .func (.func f) #[] #[] := rfl
  simp [hop, resolve, hcal, e, Deferred.ofValue, invoke, hargs, he]
 unfold Oper.wp
 rw [hrun, Oper.upon_enter]
 refine hc.mono fun e w'' hh => ?_
 obtain ⟨rfl, hk⟩ := hh
 subst hd
 exact hK _ _ (h _ hk)
theorem zkg {g : Nat} {ob : Obj} (e : W = x) (h : W.heap[g]? = some ob) : Aside0 (x.heap[g]? = some ob) := ⟨e ▸ h⟩
theorem zkG {B : Nat} (e : W = x) (h : Below B w W) : Aside0 (Below B w x) := ⟨e ▸ h⟩
theorem zbs {α β : Type} {y : Option α} {f : α → Option β} {r : β} (h : y.bind f = some r) : ∃ b, Aside0 (y = some b) ∧ f b = some r := by
 obtain ⟨b, h1, h2⟩ := Option.bind_eq_some_iff.mp h
 exact ⟨b, ⟨h1⟩, h2⟩
end
end Go.Proofs.Ytmadjhmecfbcmaa.F
end
section
namespace Go.Proofs.Ytmadjhmecfbcmaa.F
open Go.RowKit Go.Proofs.YtmadjhmecfbcmaaW.PrintWords Go.Proofs.YtmadjhmecfbcmaaW.PrintLast Go.Proofs.YtmadjhmecfbcmaaW.PrintMore
attribute [local go_sem] max2_int min2_int max_two min_two max_three min_three max_four min_four
set_option linter.unusedVariables false
set_option linter.unusedSimpArgs false
set_option maxHeartbeats 8000000
set_option maxRecDepth 100000
theorem eqA43 (d : Nat) (w : World) (x0 y0 : Bool) (x1 y1 : Int) (x2 y2 : Int) :
  (Op.equalIn (d + 2) 43 (.agg #[.bool x0, .int .u64 x1, .int .u64 x2]) (.agg #[.bool y0, .int .u64 y1, .int .u64 y2])).run Try.prog w = .ok (x0 == y0 && (x1 == y1 && (x2 == y2))) w := by
 refine eqA_of Try.underlying43 (by kernel_rfl) ?_
 refine eqf_cons (by rfl) (by go_simp; rfl) (by go_simp; rfl) (by go_simp) ?_
 refine eqf_cons (by rfl) (by go_simp; rfl) (by go_simp; rfl) (by go_simp) ?_
 exact eqf_last (by rfl) (by go_simp; rfl) (by go_simp; rfl) (by go_simp)
theorem span_none.calls  (r1 : Bool) (r2 : Int) (r3 : Int) (w : World) (h : span_none.f  = some (r1, r2, r3)) :
  Calls Try.prog 118 #[] w fun e w' => e = .returned (.agg #[.bool r1, .int .u64 r2, .int .u64 r3]) ∧ Below w.heap.size w w' := by
 have hu43 := Try.underlying43
 have HB := Aside0.mk (Below.refl w.heap.size w)
 have H : (some (true, 0, 0)) = some (r1, r2, r3) := h
 clear h
 simp only [Option.some.injEq, Prod.mk.injEq] at H
 obtain ⟨rfl, rfl, rfl⟩ := H
 go_enter Try.func118, Try.ntmps118
 go_wp2_with (first | ((with_reducible refine gtd 0 rfl ?_); refine zbx 0 #[.bool false, .int .u64 0, .int .u64 0] 43 (h := ?_); intro gb716 hg w1 hbox hb; have GW716 := zkZ hg (zaB (p := Below w.heap.size w _)); replace HB := Aside0.mk (below_step zaB hb); have BK716 := Aside0.mk (hbox); clear hb hbox hg; refine zu3 BK716 fun _ _ _ _ _ _ => ?_))
 refine bodyPost_ret (results_cell_row rfl _ _ gb716 43 #[.bool true, .int .u64 0, .int .u64 0] (0, 0) _ rfl (blk_put (cs := #[.bool true, .int .u64 0, .int .u64 0]) (blk_put (cs := #[.bool true, .int .u64 0, .int .u64 0]) (blk_put (zkq BK716) 0 _ rfl) 1 _ rfl) 2 _ rfl) Try.underlying43 rfl (by kernel_rfl)) rfl ?_
 exact ⟨zaE, zaB⟩
theorem pattern_Parts.calls (a0 : Int) (r1 : Bool) (r2 : Int) (r3 : Int) (w : World) (h : pattern_Parts.f a0 = some (r1, r2, r3)) :
  Calls Try.prog 98 #[.int .u64 a0] w fun e w' => e = .returned (.tuple #[.bool r1, .int .i64 r2, .int .u64 r3]) ∧ Drawn0 w w' := by
 have H := h
 unfold pattern_Parts.f at H
 clear h
 simp only [Option.some.injEq, Prod.mk.injEq] at H
 obtain ⟨rfl, rfl, rfl⟩ := H
 go_enter Try.func98, Try.ntmps98
 go_wp2
 go_ret3
 exact ⟨by first | rfl | (simp; done) | (simp [*]; done), by repeat (first | exact Drawn0.refl _ | apply Drawn0.step)⟩
theorem pattern_Class.calls (k : Nat) (a0 : Int) (r : Int) (w : World) (h : pattern_Class.f k a0 = some r) :
  Calls Try.prog 24 #[.int .u64 a0] w fun e w' => e = .returned (.int .u8 r) ∧ Drawn0 w w' := by
 have H := h
 unfold pattern_Class.f at H
 clear h
 obtain ⟨⟨t101, t102, t103⟩, A2, H⟩ := zbs H
 try dsimp only at H
 have HC3 := Aside0.mk H
 clear H
 go_enter Try.func24, Try.ntmps24
 go_upto_region 2 with (first | ((with_reducible refine gtc 98 rfl ?_); refine zgL 8 Try.func98 (pattern_Parts.calls a0 t101 t102 t103 _ A2.out) (h := ?_); rintro w' ⟨nd, rfl⟩))
 (try simp only [Act.put, List.setIfInBounds_toArray, List.set_cons_zero, List.set_cons_succ])
 go_cut [12] (fun v12 wc => ∃ (kq : Nat) (x12_2 : Bool), v12 = .bool x12_2 ∧ Aside0 (pattern_Class.j0 kq t102 t103 x12_2 = some r) ∧ Aside0 (kq ≤ k) ∧ Drawn0 w wc)
 case first =>
  have H := HC3.out
  clear HC3
  by_cases c4 : t102 = 2047
  ·rw [if_pos c4] at H
   have c4b0 : (t102 == 2047) = true := beq_iff_eq.mpr c4
   have c4b1 : (t102 != 2047) = false := bne_eq_false_iff_eq.mpr c4
   clear c4
   (first | rw [c4b0] | (simp only [i64_w, i32_w]; rw [c4b0]) | skip)
   have H' := Aside0.mk H
   clear H
   go_wp2
   go_meet
   case rel => exact ⟨_, ((t103 == 0)), zrl, H', ⟨zle⟩, by repeat (first | exact Drawn0.refl _ | apply Drawn0.step)⟩
  rw [if_neg c4] at H
  have c4b0 : (t102 == 2047) = false := beq_eq_false_iff_ne.mpr c4
  have c4b1 : (t102 != 2047) = true := bne_iff_ne.mpr c4
  (first | rw [c4b0] | (simp only [i64_w, i32_w]; rw [c4b0]) | skip)
  have H' := Aside0.mk H
  clear H
  go_wp2
  go_meet
  case rel => exact ⟨_, (false), zrl, H', ⟨zle⟩, by repeat (first | exact Drawn0.refl _ | apply Drawn0.step)⟩
 case rest =>
  clear HC3
  try clear c4b0
  try clear c4b1
  obtain ⟨kq, x12_2, rfl, HA, HJ2, ⟨mc2, rfl⟩⟩ := hcut
  cases kq with
  | zero => exact absurd HA.out (by simp [pattern_Class.j0])
  | succ kj2 =>
   have H := HA.out
   clear HA
   simp only [pattern_Class.j0] at H
   by_cases c5 : x12_2 = true
   ·subst c5
    replace H := zit H
    obtain rfl := Option.some.inj H
    go_wp2
    go_ret
    exact ⟨by first | rfl | (simp; done) | (simp [*]; done), by repeat (first | exact Drawn0.refl _ | apply Drawn0.step)⟩
   replace c5 := Bool.eq_false_iff.mpr c5
   subst c5
   replace H := zif H
   by_cases c6 : t102 = 2047
   ·rw [if_pos c6] at H
    have c6b0 : (t102 == 2047) = true := beq_iff_eq.mpr c6
    have c6b1 : (t102 != 2047) = false := bne_eq_false_iff_eq.mpr c6
    clear c6
    obtain rfl := Option.some.inj H
    go_wp2
    go_ret
    exact ⟨by first | rfl | (simp; done) | (simp [*]; done), by repeat (first | exact Drawn0.refl _ | apply Drawn0.step)⟩
   rw [if_neg c6] at H
   have c6b0 : (t102 == 2047) = false := beq_eq_false_iff_ne.mpr c6
   have c6b1 : (t102 != 2047) = true := bne_iff_ne.mpr c6
   have HC7 := Aside0.mk H
   clear H
   go_upto_region 6 with (fail)
   go_cut [22] (fun v22 wc => ∃ (kq : Nat) (x22_6 : Bool), v22 = .bool x22_6 ∧ Aside0 (pattern_Class.j1 kq t102 x22_6 = some r) ∧ Aside0 (kq ≤ kj2) ∧ Drawn0 w wc)
   case first =>
    have H := HC7.out
    clear HC7
    by_cases c8 : t102 = 0
    ·rw [if_pos c8] at H
     have c8b0 : (t102 == 0) = true := beq_iff_eq.mpr c8
     have c8b1 : (t102 != 0) = false := bne_eq_false_iff_eq.mpr c8
     clear c8
     (first | rw [c8b0] | (simp only [i64_w, i32_w]; rw [c8b0]) | skip)
     have H' := Aside0.mk H
     clear H
     go_wp2
     go_meet
     case rel => exact ⟨_, ((t103 == 0)), zrl, H', ⟨by have := HJ2.out; first | omega | exact Nat.le_refl _⟩, by repeat (first | exact Drawn0.refl _ | apply Drawn0.step)⟩
    rw [if_neg c8] at H
    have c8b0 : (t102 == 0) = false := beq_eq_false_iff_ne.mpr c8
    have c8b1 : (t102 != 0) = true := bne_iff_ne.mpr c8
    (first | rw [c8b0] | (simp only [i64_w, i32_w]; rw [c8b0]) | skip)
    have H' := Aside0.mk H
    clear H
    go_wp2
    go_meet
    case rel => exact ⟨_, (false), zrl, H', ⟨by have := HJ2.out; first | omega | exact Nat.le_refl _⟩, by repeat (first | exact Drawn0.refl _ | apply Drawn0.step)⟩
   case rest =>
    clear HC7
    try clear c4b0
    try clear c4b1
    try clear c6b0
    try clear c6b1
    try clear c8b0
    try clear c8b1
    obtain ⟨kq, x22_6, rfl, HA, HJ6, ⟨mc6, rfl⟩⟩ := hcut
    cases kq with
    | zero => exact absurd HA.out (by simp [pattern_Class.j1])
    | succ kj6 =>
     have H := HA.out
     clear HA
     simp only [pattern_Class.j1] at H
     by_cases c9 : x22_6 = true
     ·subst c9
      replace H := zit H
      obtain rfl := Option.some.inj H
      go_wp2
      go_ret
      exact ⟨by first | rfl | (simp; done) | (simp [*]; done), by repeat (first | exact Drawn0.refl _ | apply Drawn0.step)⟩
     replace c9 := Bool.eq_false_iff.mpr c9
     subst c9
     replace H := zif H
     by_cases c10 : t102 = 0
     ·rw [if_pos c10] at H
      have c10b0 : (t102 == 0) = true := beq_iff_eq.mpr c10
      have c10b1 : (t102 != 0) = false := bne_eq_false_iff_eq.mpr c10
      clear c10
      obtain rfl := Option.some.inj H
      go_wp2
      go_ret
      exact ⟨by first | rfl | (simp; done) | (simp [*]; done), by repeat (first | exact Drawn0.refl _ | apply Drawn0.step)⟩
     rw [if_neg c10] at H
     have c10b0 : (t102 == 0) = false := beq_eq_false_iff_ne.mpr c10
     have c10b1 : (t102 != 0) = true := bne_iff_ne.mpr c10
     obtain rfl := Option.some.inj H
     go_wp2
     go_ret
     exact ⟨by first | rfl | (simp; done) | (simp [*]; done), by repeat (first | exact Drawn0.refl _ | apply Drawn0.step)⟩
theorem pattern_Make.calls (k : Nat) (a0 : Bool) (a1 : Int) (a2 : Int) (r1 : Int) (r2 : Int) (w : World) (h : pattern_Make.f k a0 a1 a2 = some (r1, r2)) :
  Calls Try.prog 150 #[.bool a0, .int .i64 a1, .int .u64 a2] w fun e w' => e = .returned (.tuple #[.int .u64 r1, .int .i64 r2]) ∧ Drawn0 w w' := by
 have H := h
 unfold pattern_Make.f at H
 clear h
 have HC4 := Aside0.mk H
 clear H
 go_enter Try.func150, Try.ntmps150
 go_upto_region 1 with (fail)
 go_cut [18] (fun v18 wc => ∃ (kq : Nat) (x18_3 : Bool), v18 = .bool x18_3 ∧ Aside0 (pattern_Make.j0 kq a0 a1 a2 x18_3 = some (r1, r2)) ∧ Aside0 (kq ≤ k) ∧ Drawn0 w wc)
 case first =>
  have H := HC4.out
  clear HC4
  by_cases c5 : a1 < 0
  ·rw [if_pos c5] at H
   have c5b0 : decide (a1 < 0) = true := decide_eq_true c5
   clear c5
   (first | rw [c5b0] | (simp only [i64_w, i32_w]; rw [c5b0]) | skip)
   have H' := Aside0.mk H
   clear H
   go_wp2
   go_meet
   case rel => exact ⟨_, (true), zrl, H', ⟨zle⟩, by repeat (first | exact Drawn0.refl _ | apply Drawn0.step)⟩
  rw [if_neg c5] at H
  have c5b0 : decide (a1 < 0) = false := decide_eq_false c5
  clear c5
  (first | rw [c5b0] | (simp only [i64_w, i32_w]; rw [c5b0]) | skip)
  by_cases c6 : a1 > 2047
  ·rw [if_pos c6] at H
   have c6b0 : decide (2047 < a1) = true := decide_eq_true c6
   clear c6
   have H' := Aside0.mk H
   clear H
   go_wp2
   go_meet
   case rel => exact ⟨_, (true), zrl, H', ⟨zle⟩, by repeat (first | exact Drawn0.refl _ | apply Drawn0.step)⟩
  rw [if_neg c6] at H
  have c6b0 : decide (2047 < a1) = false := decide_eq_false c6
  clear c6
  have H' := Aside0.mk H
  clear H
  go_wp2
  go_meet
  case rel => exact ⟨_, (decide (a2 > 4503599627370495)), zrl, H', ⟨zle⟩, by repeat (first | exact Drawn0.refl _ | apply Drawn0.step)⟩
 case rest =>
  clear HC4
  try clear c5b0
  try clear c6b0
  obtain ⟨kq, x18_3, rfl, HA, HJ3, ⟨mc3, rfl⟩⟩ := hcut
  cases kq with
  | zero => exact absurd HA.out (by simp [pattern_Make.j0])
  | succ kj3 =>
   have H := HA.out
   clear HA
   simp only [pattern_Make.j0] at H
   by_cases c7 : x18_3 = true
   ·subst c7
    replace H := zit H
    simp only [Option.some.injEq, Prod.mk.injEq] at H
    obtain ⟨rfl, rfl⟩ := H
    go_wp2
    go_ret2
    exact ⟨by first | rfl | (simp; done) | (simp [*]; done), by repeat (first | exact Drawn0.refl _ | apply Drawn0.step)⟩
   replace c7 := Bool.eq_false_iff.mpr c7
   subst c7
   replace H := zif H
   by_cases c8 : a0 = true
   ·subst c8
    replace H := zit H
    simp only [Option.some.injEq, Prod.mk.injEq] at H
    obtain ⟨rfl, rfl⟩ := H
    go_wp2
    go_ret2
    exact ⟨by first | rfl | (simp; done) | (simp [*]; done), by repeat (first | exact Drawn0.refl _ | apply Drawn0.step)⟩
   replace c8 := Bool.eq_false_iff.mpr c8
   subst c8
   replace H := zif H
   simp only [Option.some.injEq, Prod.mk.injEq] at H
   obtain ⟨rfl, rfl⟩ := H
   go_wp2
   go_ret2
   exact ⟨by first | rfl | (simp; done) | (simp [*]; done), by repeat (first | exact Drawn0.refl _ | apply Drawn0.step)⟩
theorem pattern_Inf.calls (k : Nat) (a0 : Bool) (r : Int) (w : World) (h : pattern_Inf.f k a0 = some r) :
  Calls Try.prog 79 #[.bool a0] w fun e w' => e = .returned (.int .u64 r) ∧ Drawn0 w w' := by
 have H : ((pattern_Make.f k a0 2047 0).bind fun bt129 => (some bt129.1)) = some r := h
 clear h
 obtain ⟨⟨t129, t130⟩, A2, H⟩ := zbs H
 try dsimp only at H
 obtain rfl := Option.some.inj H
 go_enter Try.func79, Try.ntmps79
 go_wp2_with (first | ((with_reducible refine gtc 150 rfl ?_); refine zgL 7 Try.func150 (pattern_Make.calls k a0 2047 0 t129 t130 _ A2.out) (h := ?_); rintro w' ⟨nd, rfl⟩))
 go_ret
 exact ⟨by first | rfl | (simp; done) | (simp [*]; done), by repeat (first | exact Drawn0.refl _ | apply Drawn0.step)⟩
theorem span_ninf.calls (k : Nat)  (r : Int) (w : World) (h : span_ninf.f k  = some r) :
  Calls Try.prog 113 #[] w fun e w' => e = .returned (.int .u64 r) ∧ Drawn0 w w' := by
 have H : ((pattern_Inf.f k true).bind fun t712 => (some t712)) = some r := h
 clear h
 obtain ⟨t712, A1, H⟩ := zbs H
 try dsimp only at H
 obtain rfl := Option.some.inj H
 go_enter Try.func113, Try.ntmps113
 go_wp2_with (first | ((with_reducible refine gtc 79 rfl ?_); refine zgL 1 Try.func79 (pattern_Inf.calls k true t712 _ A1.out) (h := ?_); rintro w' ⟨nd, rfl⟩))
 go_ret
 exact ⟨by first | rfl | (simp; done) | (simp [*]; done), by repeat (first | exact Drawn0.refl _ | apply Drawn0.step)⟩
theorem span_inf.calls (k : Nat)  (r : Int) (w : World) (h : span_inf.f k  = some r) :
  Calls Try.prog 114 #[] w fun e w' => e = .returned (.int .u64 r) ∧ Drawn0 w w' := by
 have H : ((pattern_Inf.f k false).bind fun t713 => (some t713)) = some r := h
 clear h
 obtain ⟨t713, A1, H⟩ := zbs H
 try dsimp only at H
 obtain rfl := Option.some.inj H
 go_enter Try.func114, Try.ntmps114
 go_wp2_with (first | ((with_reducible refine gtc 79 rfl ?_); refine zgL 1 Try.func79 (pattern_Inf.calls k false t713 _ A1.out) (h := ?_); rintro w' ⟨nd, rfl⟩))
 go_ret
 exact ⟨by first | rfl | (simp; done) | (simp [*]; done), by repeat (first | exact Drawn0.refl _ | apply Drawn0.step)⟩
theorem pattern_nan.calls (k : Nat) (a0 : Int) (r : Bool) (w : World) (h : pattern_nan.f k a0 = some r) :
  Calls Try.prog 109 #[.int .u64 a0] w fun e w' => e = .returned (.bool r) ∧ Drawn0 w w' := by
 have H : ((pattern_Class.f k a0).bind fun t224 => (some (t224 == 4))) = some r := h
 clear h
 obtain ⟨t224, A2, H⟩ := zbs H
 try dsimp only at H
 obtain rfl := Option.some.inj H
 go_enter Try.func109, Try.ntmps109
 go_wp2_with (first | ((with_reducible refine gtc 24 rfl ?_); refine zgL 4 Try.func24 (pattern_Class.calls k a0 t224 _ A2.out) (h := ?_); rintro w' ⟨nd, rfl⟩))
 go_ret
 exact ⟨by first | rfl | (simp; done) | (simp [*]; done), by repeat (first | exact Drawn0.refl _ | apply Drawn0.step)⟩
theorem pattern_key.calls (a0 : Int) (r : Int) (w : World) (h : pattern_key.f a0 = some r) :
  Calls Try.prog 110 #[.int .u64 a0] w fun e w' => e = .returned (.int .i64 r) ∧ Drawn0 w w' := by
 have H := h
 unfold pattern_key.f at H
 clear h
 by_cases c2 : (a0 / 9223372036854775808) = 1
 ·rw [if_pos c2] at H
  have c2b0 : ((a0 / 9223372036854775808) == 1) = true := beq_iff_eq.mpr c2
  have c2b1 : ((a0 / 9223372036854775808) != 1) = false := bne_eq_false_iff_eq.mpr c2
  clear c2
  obtain rfl := Option.some.inj H
  go_enter Try.func110, Try.ntmps110
  go_wp2
  go_ret
  exact ⟨by first | rfl | (simp; done) | (simp [*]; done), by repeat (first | exact Drawn0.refl _ | apply Drawn0.step)⟩
 rw [if_neg c2] at H
 have c2b0 : ((a0 / 9223372036854775808) == 1) = false := beq_eq_false_iff_ne.mpr c2
 have c2b1 : ((a0 / 9223372036854775808) != 1) = true := bne_iff_ne.mpr c2
 obtain rfl := Option.some.inj H
 go_enter Try.func110, Try.ntmps110
 go_wp2
 go_ret
 exact ⟨by first | rfl | (simp; done) | (simp [*]; done), by repeat (first | exact Drawn0.refl _ | apply Drawn0.step)⟩
theorem pattern_Cmp.calls (k : Nat) (a0 : Int) (a1 : Int) (r1 : Int) (r2 : Bool) (w : World) (h : pattern_Cmp.f k a0 a1 = some (r1, r2)) :
  Calls Try.prog 33 #[.int .u64 a0, .int .u64 a1] w fun e w' => e = .returned (.tuple #[.int .i64 r1, .bool r2]) ∧ Drawn0 w w' := by
 have H := h
 unfold pattern_Cmp.f at H
 clear h
 have HC3 := Aside0.mk H
 clear H
 go_enter Try.func33, Try.ntmps33
 go_upto_region 1 with (fail)
 go_cut [13] (fun v13 wc => ∃ (kq : Nat) (x13_2 : Bool), v13 = .bool x13_2 ∧ Aside0 (pattern_Cmp.j0 kq a0 a1 x13_2 = some (r1, r2)) ∧ Aside0 (kq ≤ k) ∧ Drawn0 w wc)
 case first =>
  have H := HC3.out
  clear HC3
  obtain ⟨t664, A4, H⟩ := zbs H
  try dsimp only at H
  by_cases c5 : t664 = true
  ·subst c5
   replace H := zit H
   have H' := Aside0.mk H
   clear H
   go_wp2_with (first | ((with_reducible refine gtc 109 rfl ?_); refine zgL 9 Try.func109 (pattern_nan.calls k a0 true _ A4.out) (h := ?_); rintro w' ⟨nd, rfl⟩))
   go_meet
   case rel => exact ⟨_, (true), zrl, H', ⟨zle⟩, by repeat (first | exact Drawn0.refl _ | apply Drawn0.step)⟩
  replace c5 := Bool.eq_false_iff.mpr c5
  subst c5
  replace H := zif H
  obtain ⟨t665, A6, H⟩ := zbs H
  try dsimp only at H
  have H' := Aside0.mk H
  clear H
  go_wp2_with (first | ((with_reducible refine gtc 109 rfl ?_); refine zgL 9 Try.func109 (pattern_nan.calls k a0 false _ A4.out) (h := ?_); rintro w' ⟨nd, rfl⟩) | (go_at_call 109; (with_reducible refine (pattern_nan.calls k a1 t665 _ A6.out).mono ?_); rintro e w' ⟨rfl, ⟨nd, rfl⟩⟩))
  go_meet
  case rel => exact ⟨_, (t665), zrl, H', ⟨zle⟩, by repeat (first | exact Drawn0.refl _ | apply Drawn0.step)⟩
 case rest =>
  clear HC3
  obtain ⟨kq, x13_2, rfl, HA, HJ2, ⟨mc2, rfl⟩⟩ := hcut
  cases kq with
  | zero => exact absurd HA.out (by simp [pattern_Cmp.j0])
  | succ kj2 =>
   have H := HA.out
   clear HA
   simp only [pattern_Cmp.j0] at H
   by_cases c7 : x13_2 = true
   ·subst c7
    replace H := zit H
    simp only [Option.some.injEq, Prod.mk.injEq] at H
    obtain ⟨rfl, rfl⟩ := H
    go_wp2
    go_ret2
    exact ⟨by first | rfl | (simp; done) | (simp [*]; done), by repeat (first | exact Drawn0.refl _ | apply Drawn0.step)⟩
   replace c7 := Bool.eq_false_iff.mpr c7
   subst c7
   replace H := zif H
   obtain ⟨t666, A8, H⟩ := zbs H
   try dsimp only at H
   obtain ⟨t667, A9, H⟩ := zbs H
   try dsimp only at H
   by_cases c10 : t666 < t667
   ·rw [if_pos c10] at H
    have c10b0 : decide (t666 < t667) = true := decide_eq_true c10
    clear c10
    simp only [Option.some.injEq, Prod.mk.injEq] at H
    obtain ⟨rfl, rfl⟩ := H
    go_wp2_with (first | ((with_reducible refine gtc 110 rfl ?_); refine zgL 15 Try.func110 (pattern_key.calls a0 t666 _ A8.out) (h := ?_); rintro w' ⟨nd, rfl⟩) | ((with_reducible refine gtc 110 rfl ?_); refine zgL 17 Try.func110 (pattern_key.calls a1 t667 _ A9.out) (h := ?_); rintro w' ⟨nd, rfl⟩))
    go_ret2
    exact ⟨by first | rfl | (simp; done) | (simp [*]; done), by repeat (first | exact Drawn0.refl _ | apply Drawn0.step)⟩
   rw [if_neg c10] at H
   have c10b0 : decide (t666 < t667) = false := decide_eq_false c10
   clear c10
   by_cases c11 : t666 > t667
   ·rw [if_pos c11] at H
    have c11b0 : decide (t667 < t666) = true := decide_eq_true c11
    clear c11
    simp only [Option.some.injEq, Prod.mk.injEq] at H
    obtain ⟨rfl, rfl⟩ := H
    go_wp2_with (first | ((with_reducible refine gtc 110 rfl ?_); refine zgL 15 Try.func110 (pattern_key.calls a0 t666 _ A8.out) (h := ?_); rintro w' ⟨nd, rfl⟩) | ((with_reducible refine gtc 110 rfl ?_); refine zgL 17 Try.func110 (pattern_key.calls a1 t667 _ A9.out) (h := ?_); rintro w' ⟨nd, rfl⟩))
    go_ret2
    exact ⟨by first | rfl | (simp; done) | (simp [*]; done), by repeat (first | exact Drawn0.refl _ | apply Drawn0.step)⟩
   rw [if_neg c11] at H
   have c11b0 : decide (t667 < t666) = false := decide_eq_false c11
   clear c11
   simp only [Option.some.injEq, Prod.mk.injEq] at H
   obtain ⟨rfl, rfl⟩ := H
   go_wp2_with (first | ((with_reducible refine gtc 110 rfl ?_); refine zgL 15 Try.func110 (pattern_key.calls a0 t666 _ A8.out) (h := ?_); rintro w' ⟨nd, rfl⟩) | ((with_reducible refine gtc 110 rfl ?_); refine zgL 17 Try.func110 (pattern_key.calls a1 t667 _ A9.out) (h := ?_); rintro w' ⟨nd, rfl⟩))
   go_ret2
   exact ⟨by first | rfl | (simp; done) | (simp [*]; done), by repeat (first | exact Drawn0.refl _ | apply Drawn0.step)⟩
theorem span_atMost.calls (k : Nat) (a0 : Int) (a1 : Int) (r : Bool) (w : World) (h : span_atMost.f k a0 a1 = some r) :
  Calls Try.prog 117 #[.int .u64 a0, .int .u64 a1] w fun e w' => e = .returned (.bool r) ∧ Drawn0 w w' := by
 have H := h
 unfold span_atMost.f at H
 clear h
 obtain ⟨⟨t714, t715⟩, A3, H⟩ := zbs H
 try dsimp only at H
 by_cases c4 : t715 = true
 ·subst c4
  replace H := zit H
  obtain rfl := Option.some.inj H
  go_enter Try.func117, Try.ntmps117
  go_wp2_with (first | ((with_reducible refine gtc 33 rfl ?_); refine zgL 10 Try.func33 (pattern_Cmp.calls k a0 a1 t714 true _ A3.out) (h := ?_); rintro w' ⟨nd, rfl⟩))
  go_ret
  exact ⟨by first | rfl | (simp; done) | (simp [*]; done), by repeat (first | exact Drawn0.refl _ | apply Drawn0.step)⟩
 replace c4 := Bool.eq_false_iff.mpr c4
 subst c4
 replace H := zif H
 obtain rfl := Option.some.inj H
 go_enter Try.func117, Try.ntmps117
 go_wp2_with (first | ((with_reducible refine gtc 33 rfl ?_); refine zgL 10 Try.func33 (pattern_Cmp.calls k a0 a1 t714 false _ A3.out) (h := ?_); rintro w' ⟨nd, rfl⟩))
 go_ret
 exact ⟨by first | rfl | (simp; done) | (simp [*]; done), by repeat (first | exact Drawn0.refl _ | apply Drawn0.step)⟩
theorem span_norm.loop (k : Nat) (a0_1 a0_2 c1 c2 t723 t727 : Int) (w : World) (A10 : Aside0 (span_atMost.f k a0_1 a0_2 = some true)) (A12 : Aside0 (span_inf.f k = some t723)) (c13b0 : (a0_1 == t723) = false) (c13b1 : (a0_1 != t723) = true) (A21 : Aside0 (span_ninf.f k = some t727)) (c22b0 : (a0_2 == t727) = false) (c22b1 : (a0_2 != t727) = true) (A30 : Aside0 (pattern_Class.f k a0_1 = some c1)) (A31 : Aside0 (pattern_Class.f k a0_2 = some c2)) :
  Calls Try.prog 112 #[.agg #[.bool false, .int .u64 a0_1, .int .u64 a0_2]] w fun e w' => e = .returned (.agg #[.bool false, .int .u64 (if c1 = 0 then 0 else a0_1), .int .u64 (if c2 = 0 then 0 else a0_2)]) ∧ Below w.heap.size w w' := by
     have hu_ := Try.underlying43
     have HB := Aside0.mk (Below.refl w.heap.size w)
     go_enter Try.func112, Try.ntmps112
     go_wp2_with (first | ((with_reducible refine gtd 1 rfl ?_); refine zbx 1 #[.bool false, .int .u64 a0_1, .int .u64 a0_2] 43 (h := ?_); intro gb717 hg w30 hbox hb; have GW717 := zkZ hg (zaB (p := Below w.heap.size w _)); replace HB := Aside0.mk (below_step zaB hb); have BK717 := Aside0.mk (hbox); clear hb hbox hg) | ((with_reducible refine gtd 2 rfl ?_); refine zbx 2 #[.bool false, .int .u64 0, .int .u64 0] 43 (h := ?_); intro gb718 hg w31 hbox hb; refine zbn1 HB BK717 hg hb hbox (c := ?_); clear HB BK717 hb hbox hg; intro GW718 NB717_718 BK717 HB BK718; refine zt1 NB717_718 fun _ _ => ?_; refine zu3 BK717 fun z33_0 z33_1 z33_2 f33_0 f33_1 f33_2 => ?_) | (go_at_call 117; (with_reducible refine (span_atMost.calls k a0_1 a0_2 true _ A10.out).mono ?_); rintro e w' ⟨rfl, ⟨nd, rfl⟩⟩; (try first | exact ⟨rfl, _, World.drewN_drewN _ _ _⟩ | exact ⟨rfl, _, Eq.trans (World.drewN_drewN _ _ _) (congrArg (World.drewN _) (Nat.add_assoc _ _ _))⟩)) | (go_at_call 114; (with_reducible refine (span_inf.calls k  t723 _ A12.out).mono ?_); rintro e w' ⟨rfl, ⟨nd, rfl⟩⟩; (try first | exact ⟨rfl, _, World.drewN_drewN _ _ _⟩ | exact ⟨rfl, _, Eq.trans (World.drewN_drewN _ _ _) (congrArg (World.drewN _) (Nat.add_assoc _ _ _))⟩)) | (go_at_call 113; (with_reducible refine (span_ninf.calls k  t727 _ A21.out).mono ?_); rintro e w' ⟨rfl, ⟨nd, rfl⟩⟩; (try first | exact ⟨rfl, _, World.drewN_drewN _ _ _⟩ | exact ⟨rfl, _, Eq.trans (World.drewN_drewN _ _ _) (congrArg (World.drewN _) (Nat.add_assoc _ _ _))⟩); refine zu3 BK718 fun z34_0 z34_1 z34_2 f34_0 f34_1 f34_2 => ?_))
     repeat (go_quiet (first | ((with_reducible refine gtd 1 rfl ?_); refine zbx 1 #[.bool false, .int .u64 a0_1, .int .u64 a0_2] 43 (h := ?_); intro gb717 hg w30 hbox hb; have GW717 := zkZ hg (zaB (p := Below w.heap.size w _)); replace HB := Aside0.mk (below_step zaB hb); have BK717 := Aside0.mk (hbox); clear hb hbox hg) | ((with_reducible refine gtd 2 rfl ?_); refine zbx 2 #[.bool false, .int .u64 0, .int .u64 0] 43 (h := ?_); intro gb718 hg w31 hbox hb; refine zbn1 HB BK717 hg hb hbox (c := ?_); clear HB BK717 hb hbox hg; intro GW718 NB717_718 BK717 HB BK718; refine zt1 NB717_718 fun _ _ => ?_; refine zu3 BK717 fun z33_0 z33_1 z33_2 f33_0 f33_1 f33_2 => ?_) | (go_at_call 117; (with_reducible refine (span_atMost.calls k a0_1 a0_2 true _ A10.out).mono ?_); rintro e w' ⟨rfl, ⟨nd, rfl⟩⟩; (try first | exact ⟨rfl, _, World.drewN_drewN _ _ _⟩ | exact ⟨rfl, _, Eq.trans (World.drewN_drewN _ _ _) (congrArg (World.drewN _) (Nat.add_assoc _ _ _))⟩)) | (go_at_call 114; (with_reducible refine (span_inf.calls k  t723 _ A12.out).mono ?_); rintro e w' ⟨rfl, ⟨nd, rfl⟩⟩; (try first | exact ⟨rfl, _, World.drewN_drewN _ _ _⟩ | exact ⟨rfl, _, Eq.trans (World.drewN_drewN _ _ _) (congrArg (World.drewN _) (Nat.add_assoc _ _ _))⟩)) | (go_at_call 113; (with_reducible refine (span_ninf.calls k  t727 _ A21.out).mono ?_); rintro e w' ⟨rfl, ⟨nd, rfl⟩⟩; (try first | exact ⟨rfl, _, World.drewN_drewN _ _ _⟩ | exact ⟨rfl, _, Eq.trans (World.drewN_drewN _ _ _) (congrArg (World.drewN _) (Nat.add_assoc _ _ _))⟩); refine zu3 BK718 fun z34_0 z34_1 z34_2 f34_0 f34_1 f34_2 => ?_)); try go_wp2_with (first | ((with_reducible refine gtd 1 rfl ?_); refine zbx 1 #[.bool false, .int .u64 a0_1, .int .u64 a0_2] 43 (h := ?_); intro gb717 hg w30 hbox hb; have GW717 := zkZ hg (zaB (p := Below w.heap.size w _)); replace HB := Aside0.mk (below_step zaB hb); have BK717 := Aside0.mk (hbox); clear hb hbox hg) | ((with_reducible refine gtd 2 rfl ?_); refine zbx 2 #[.bool false, .int .u64 0, .int .u64 0] 43 (h := ?_); intro gb718 hg w31 hbox hb; refine zbn1 HB BK717 hg hb hbox (c := ?_); clear HB BK717 hb hbox hg; intro GW718 NB717_718 BK717 HB BK718; refine zt1 NB717_718 fun _ _ => ?_; refine zu3 BK717 fun z33_0 z33_1 z33_2 f33_0 f33_1 f33_2 => ?_) | (go_at_call 117; (with_reducible refine (span_atMost.calls k a0_1 a0_2 true _ A10.out).mono ?_); rintro e w' ⟨rfl, ⟨nd, rfl⟩⟩; (try first | exact ⟨rfl, _, World.drewN_drewN _ _ _⟩ | exact ⟨rfl, _, Eq.trans (World.drewN_drewN _ _ _) (congrArg (World.drewN _) (Nat.add_assoc _ _ _))⟩)) | (go_at_call 114; (with_reducible refine (span_inf.calls k  t723 _ A12.out).mono ?_); rintro e w' ⟨rfl, ⟨nd, rfl⟩⟩; (try first | exact ⟨rfl, _, World.drewN_drewN _ _ _⟩ | exact ⟨rfl, _, Eq.trans (World.drewN_drewN _ _ _) (congrArg (World.drewN _) (Nat.add_assoc _ _ _))⟩)) | (go_at_call 113; (with_reducible refine (span_ninf.calls k  t727 _ A21.out).mono ?_); rintro e w' ⟨rfl, ⟨nd, rfl⟩⟩; (try first | exact ⟨rfl, _, World.drewN_drewN _ _ _⟩ | exact ⟨rfl, _, Eq.trans (World.drewN_drewN _ _ _) (congrArg (World.drewN _) (Nat.add_assoc _ _ _))⟩); refine zu3 BK718 fun z34_0 z34_1 z34_2 f34_0 f34_1 f34_2 => ?_)))
     clear z33_0 z33_1 z33_2 f33_0 f33_1 f33_2 z34_0 z34_1 z34_2 f34_0 f34_1 f34_2
     have hgs := Nat.ne_of_lt (blk_lt BK717.out)
     have BS := Aside0.mk (blk_new (w31.drewN nq) (Obj.cells #[.pointer (some ⟨gb717, 1, none⟩), .pointer (some ⟨gb717, 2, none⟩)] 160 (0, 0)))
     have BK717n := Aside0.mk (zkq BK717 : ((w31.drewN nq).alloc (Obj.cells #[.pointer (some ⟨gb717, 1, none⟩), .pointer (some ⟨gb717, 2, none⟩)] 160 (0, 0))).heap[gb717]? = _)
     have BK718n := Aside0.mk (zkq BK718 : ((w31.drewN nq).alloc (Obj.cells #[.pointer (some ⟨gb717, 1, none⟩), .pointer (some ⟨gb717, 2, none⟩)] 160 (0, 0))).heap[gb718]? = _)
     have HBn : Aside0 (Below w.heap.size w ((w31.drewN nq).alloc (Obj.cells #[.pointer (some ⟨gb717, 1, none⟩), .pointer (some ⟨gb717, 2, none⟩)] 160 (0, 0)))) := ⟨zaB⟩
     clear BK717 BK718 HB
     have BS2 : Aside0 (((w31.drewN nq).alloc (Obj.cells #[.pointer (some ⟨gb717, 1, none⟩), .pointer (some ⟨gb717, 2, none⟩)] 160 (0, 0))).heap[w31.heap.size]? = some (Obj.cells #[.pointer (some ⟨gb717, 1, none⟩), .pointer (some ⟨gb717, 2, none⟩)] 160 (0, 0))) := ⟨BS.out⟩
     clear BS
     generalize ((w31.drewN nq).alloc (Obj.cells #[.pointer (some ⟨gb717, 1, none⟩), .pointer (some ⟨gb717, 2, none⟩)] 160 (0, 0))) = ws at BK717n BK718n HBn BS2 ⊢
     generalize w31.heap.size = gs at hgs BS2 ⊢
     have BK717 := BK717n
     have BK718 := BK718n
     have HB := HBn
     have BS := BS2
     clear BK717n BK718n HBn BS2
     refine wp_loop_rounds 3 ?_
     rw [rounds_succ]
     by_cases z1 : c1 = 0
     ·by_cases z2 : c2 = 0
      ·have d1 : (c1 == 0) = true := beq_iff_eq.mpr z1
       have d2 : (c2 == 0) = true := beq_iff_eq.mpr z2
       have q0 := zc0 BK717
       have q1 := zc1 BK717
       have q2 := zc2 BK717
       have q3 := zc0 BS
       have q4 := zc1 BS
       have q5 := zfz BK717
       go_wp2_with ((with_reducible refine gtc 24 rfl ?_); refine zgL 39 Try.func24 (pattern_Class.calls k a0_1 c1 _ A30.out) (h := ?_); rintro wq ⟨nd, rfl⟩)
       clear q0 q1 q2 q3 q4 q5
       have BK717n := Aside0.mk (blk_put (cs := #[.bool false, .int .u64 a0_1, .int .u64 a0_2]) (cs' := #[.bool false, .int .u64 0, .int .u64 a0_2]) (zkq BK717 : (ws.drewN nd).heap[gb717]? = _) 1 (.int .u64 0) rfl)
       have BSn := Aside0.mk (zkf (p := ⟨gb717, 1, none⟩) (zkq BS : (ws.drewN nd).heap[gs]? = _) hgs.symm (.int .u64 0))
       have BK718n := Aside0.mk (zkf (p := ⟨gb717, 1, none⟩) (zkq BK718 : (ws.drewN nd).heap[gb718]? = _) (zks NB717_718).out (.int .u64 0))
       have HBn : Aside0 (Below w.heap.size w ((ws.drewN nd).setCell ⟨gb717, 1, none⟩ (.int .u64 0))) := ⟨below_set (pw_below_drewN HB.out _) GW717.out⟩
       clear BK717 BS BK718 HB
       generalize ((ws.drewN nd).setCell ⟨gb717, 1, none⟩ (.int .u64 0)) = ws2 at BK717n BSn BK718n HBn ⊢
       have BK717 := BK717n
       have BS := BSn
       have BK718 := BK718n
       have HB := HBn
       clear BK717n BSn BK718n HBn
       rw [rounds_succ]
       have q0 := zc0 BK717
       have q1 := zc1 BK717
       have q2 := zc2 BK717
       have q3 := zc0 BS
       have q4 := zc1 BS
       have q5 := zfz BK717
       go_wp2_with ((with_reducible refine gtc 24 rfl ?_); refine zgL 39 Try.func24 (pattern_Class.calls k a0_2 c2 _ A31.out) (h := ?_); rintro wq ⟨nd, rfl⟩)
       clear q0 q1 q2 q3 q4 q5
       have BK717n := Aside0.mk (blk_put (cs := #[.bool false, .int .u64 0, .int .u64 a0_2]) (cs' := #[.bool false, .int .u64 0, .int .u64 0]) (zkq BK717 : (ws2.drewN nd).heap[gb717]? = _) 2 (.int .u64 0) rfl)
       have BSn := Aside0.mk (zkf (p := ⟨gb717, 2, none⟩) (zkq BS : (ws2.drewN nd).heap[gs]? = _) hgs.symm (.int .u64 0))
       have BK718n := Aside0.mk (zkf (p := ⟨gb717, 2, none⟩) (zkq BK718 : (ws2.drewN nd).heap[gb718]? = _) (zks NB717_718).out (.int .u64 0))
       have HBn : Aside0 (Below w.heap.size w ((ws2.drewN nd).setCell ⟨gb717, 2, none⟩ (.int .u64 0))) := ⟨below_set (pw_below_drewN HB.out _) GW717.out⟩
       clear BK717 BS BK718 HB
       generalize ((ws2.drewN nd).setCell ⟨gb717, 2, none⟩ (.int .u64 0)) = ws3 at BK717n BSn BK718n HBn ⊢
       have BK717 := BK717n
       have BS := BSn
       have BK718 := BK718n
       have HB := HBn
       clear BK717n BSn BK718n HBn
       rw [rounds_succ]
       have q0 := zc0 BK717
       have q1 := zc1 BK717
       have q2 := zc2 BK717
       have q3 := zc0 BS
       have q4 := zc1 BS
       have q5 := zfz BK717
       have q6 := zc0 BK718
       have q7 := zc1 BK718
       have q8 := zc2 BK718
       have q9 := zfz BK718
       go_wp2
       refine bodyPost_ret (results_cell_row rfl _ _ gb718 43 #[.bool false, .int .u64 0, .int .u64 0] (0, 0) _ rfl (blk_put (cs := #[.bool false, .int .u64 0, .int .u64 0]) (blk_put (cs := #[.bool false, .int .u64 0, .int .u64 0]) (blk_put (zkq BK718) 0 _ rfl) 1 _ rfl) 2 _ rfl) Try.underlying43 rfl (by kernel_rfl)) rfl ?_
       exact ⟨by first | rfl | simp [z1, z2], zaB⟩
      have d1 : (c1 == 0) = true := beq_iff_eq.mpr z1
      have d2 : (c2 == 0) = false := beq_eq_false_iff_ne.mpr z2
      have q0 := zc0 BK717
      have q1 := zc1 BK717
      have q2 := zc2 BK717
      have q3 := zc0 BS
      have q4 := zc1 BS
      have q5 := zfz BK717
      go_wp2_with ((with_reducible refine gtc 24 rfl ?_); refine zgL 39 Try.func24 (pattern_Class.calls k a0_1 c1 _ A30.out) (h := ?_); rintro wq ⟨nd, rfl⟩)
      clear q0 q1 q2 q3 q4 q5
      have BK717n := Aside0.mk (blk_put (cs := #[.bool false, .int .u64 a0_1, .int .u64 a0_2]) (cs' := #[.bool false, .int .u64 0, .int .u64 a0_2]) (zkq BK717 : (ws.drewN nd).heap[gb717]? = _) 1 (.int .u64 0) rfl)
      have BSn := Aside0.mk (zkf (p := ⟨gb717, 1, none⟩) (zkq BS : (ws.drewN nd).heap[gs]? = _) hgs.symm (.int .u64 0))
      have BK718n := Aside0.mk (zkf (p := ⟨gb717, 1, none⟩) (zkq BK718 : (ws.drewN nd).heap[gb718]? = _) (zks NB717_718).out (.int .u64 0))
      have HBn : Aside0 (Below w.heap.size w ((ws.drewN nd).setCell ⟨gb717, 1, none⟩ (.int .u64 0))) := ⟨below_set (pw_below_drewN HB.out _) GW717.out⟩
      clear BK717 BS BK718 HB
      generalize ((ws.drewN nd).setCell ⟨gb717, 1, none⟩ (.int .u64 0)) = ws2 at BK717n BSn BK718n HBn ⊢
      have BK717 := BK717n
      have BS := BSn
      have BK718 := BK718n
      have HB := HBn
      clear BK717n BSn BK718n HBn
      rw [rounds_succ]
      have q0 := zc0 BK717
      have q1 := zc1 BK717
      have q2 := zc2 BK717
      have q3 := zc0 BS
      have q4 := zc1 BS
      have q5 := zfz BK717
      go_wp2_with ((with_reducible refine gtc 24 rfl ?_); refine zgL 39 Try.func24 (pattern_Class.calls k a0_2 c2 _ A31.out) (h := ?_); rintro wq ⟨nd, rfl⟩)
      clear q0 q1 q2 q3 q4 q5
      have BK717n := Aside0.mk (zkq BK717 : (ws2.drewN nd).heap[gb717]? = _)
      have BSn := Aside0.mk (zkq BS : (ws2.drewN nd).heap[gs]? = _)
      have BK718n := Aside0.mk (zkq BK718 : (ws2.drewN nd).heap[gb718]? = _)
      have HBn : Aside0 (Below w.heap.size w (ws2.drewN nd)) := ⟨pw_below_drewN HB.out _⟩
      clear BK717 BS BK718 HB
      generalize (ws2.drewN nd) = ws3 at BK717n BSn BK718n HBn ⊢
      have BK717 := BK717n
      have BS := BSn
      have BK718 := BK718n
      have HB := HBn
      clear BK717n BSn BK718n HBn
      rw [rounds_succ]
      have q0 := zc0 BK717
      have q1 := zc1 BK717
      have q2 := zc2 BK717
      have q3 := zc0 BS
      have q4 := zc1 BS
      have q5 := zfz BK717
      have q6 := zc0 BK718
      have q7 := zc1 BK718
      have q8 := zc2 BK718
      have q9 := zfz BK718
      go_wp2
      refine bodyPost_ret (results_cell_row rfl _ _ gb718 43 #[.bool false, .int .u64 0, .int .u64 a0_2] (0, 0) _ rfl (blk_put (cs := #[.bool false, .int .u64 0, .int .u64 0]) (blk_put (cs := #[.bool false, .int .u64 0, .int .u64 0]) (blk_put (zkq BK718) 0 _ rfl) 1 _ rfl) 2 _ rfl) Try.underlying43 rfl (by kernel_rfl)) rfl ?_
      exact ⟨by first | rfl | simp [z1, z2], zaB⟩
     by_cases z2 : c2 = 0
     ·have d1 : (c1 == 0) = false := beq_eq_false_iff_ne.mpr z1
      have d2 : (c2 == 0) = true := beq_iff_eq.mpr z2
      have q0 := zc0 BK717
      have q1 := zc1 BK717
      have q2 := zc2 BK717
      have q3 := zc0 BS
      have q4 := zc1 BS
      have q5 := zfz BK717
      go_wp2_with ((with_reducible refine gtc 24 rfl ?_); refine zgL 39 Try.func24 (pattern_Class.calls k a0_1 c1 _ A30.out) (h := ?_); rintro wq ⟨nd, rfl⟩)
      clear q0 q1 q2 q3 q4 q5
      have BK717n := Aside0.mk (zkq BK717 : (ws.drewN nd).heap[gb717]? = _)
      have BSn := Aside0.mk (zkq BS : (ws.drewN nd).heap[gs]? = _)
      have BK718n := Aside0.mk (zkq BK718 : (ws.drewN nd).heap[gb718]? = _)
      have HBn : Aside0 (Below w.heap.size w (ws.drewN nd)) := ⟨pw_below_drewN HB.out _⟩
      clear BK717 BS BK718 HB
      generalize (ws.drewN nd) = ws2 at BK717n BSn BK718n HBn ⊢
      have BK717 := BK717n
      have BS := BSn
      have BK718 := BK718n
      have HB := HBn
      clear BK717n BSn BK718n HBn
      rw [rounds_succ]
      have q0 := zc0 BK717
      have q1 := zc1 BK717
      have q2 := zc2 BK717
      have q3 := zc0 BS
      have q4 := zc1 BS
      have q5 := zfz BK717
      go_wp2_with ((with_reducible refine gtc 24 rfl ?_); refine zgL 39 Try.func24 (pattern_Class.calls k a0_2 c2 _ A31.out) (h := ?_); rintro wq ⟨nd, rfl⟩)
      clear q0 q1 q2 q3 q4 q5
      have BK717n := Aside0.mk (blk_put (cs := #[.bool false, .int .u64 a0_1, .int .u64 a0_2]) (cs' := #[.bool false, .int .u64 a0_1, .int .u64 0]) (zkq BK717 : (ws2.drewN nd).heap[gb717]? = _) 2 (.int .u64 0) rfl)
      have BSn := Aside0.mk (zkf (p := ⟨gb717, 2, none⟩) (zkq BS : (ws2.drewN nd).heap[gs]? = _) hgs.symm (.int .u64 0))
      have BK718n := Aside0.mk (zkf (p := ⟨gb717, 2, none⟩) (zkq BK718 : (ws2.drewN nd).heap[gb718]? = _) (zks NB717_718).out (.int .u64 0))
      have HBn : Aside0 (Below w.heap.size w ((ws2.drewN nd).setCell ⟨gb717, 2, none⟩ (.int .u64 0))) := ⟨below_set (pw_below_drewN HB.out _) GW717.out⟩
      clear BK717 BS BK718 HB
      generalize ((ws2.drewN nd).setCell ⟨gb717, 2, none⟩ (.int .u64 0)) = ws3 at BK717n BSn BK718n HBn ⊢
      have BK717 := BK717n
      have BS := BSn
      have BK718 := BK718n
      have HB := HBn
      clear BK717n BSn BK718n HBn
      rw [rounds_succ]
      have q0 := zc0 BK717
      have q1 := zc1 BK717
      have q2 := zc2 BK717
      have q3 := zc0 BS
      have q4 := zc1 BS
      have q5 := zfz BK717
      have q6 := zc0 BK718
      have q7 := zc1 BK718
      have q8 := zc2 BK718
      have q9 := zfz BK718
      go_wp2
      refine bodyPost_ret (results_cell_row rfl _ _ gb718 43 #[.bool false, .int .u64 a0_1, .int .u64 0] (0, 0) _ rfl (blk_put (cs := #[.bool false, .int .u64 a0_1, .int .u64 0]) (blk_put (cs := #[.bool false, .int .u64 0, .int .u64 0]) (blk_put (zkq BK718) 0 _ rfl) 1 _ rfl) 2 _ rfl) Try.underlying43 rfl (by kernel_rfl)) rfl ?_
      exact ⟨by first | rfl | simp [z1, z2], zaB⟩
     have d1 : (c1 == 0) = false := beq_eq_false_iff_ne.mpr z1
     have d2 : (c2 == 0) = false := beq_eq_false_iff_ne.mpr z2
     have q0 := zc0 BK717
     have q1 := zc1 BK717
     have q2 := zc2 BK717
     have q3 := zc0 BS
     have q4 := zc1 BS
     have q5 := zfz BK717
     go_wp2_with ((with_reducible refine gtc 24 rfl ?_); refine zgL 39 Try.func24 (pattern_Class.calls k a0_1 c1 _ A30.out) (h := ?_); rintro wq ⟨nd, rfl⟩)
     clear q0 q1 q2 q3 q4 q5
     have BK717n := Aside0.mk (zkq BK717 : (ws.drewN nd).heap[gb717]? = _)
     have BSn := Aside0.mk (zkq BS : (ws.drewN nd).heap[gs]? = _)
     have BK718n := Aside0.mk (zkq BK718 : (ws.drewN nd).heap[gb718]? = _)
     have HBn : Aside0 (Below w.heap.size w (ws.drewN nd)) := ⟨pw_below_drewN HB.out _⟩
     clear BK717 BS BK718 HB
     generalize (ws.drewN nd) = ws2 at BK717n BSn BK718n HBn ⊢
     have BK717 := BK717n
     have BS := BSn
     have BK718 := BK718n
     have HB := HBn
     clear BK717n BSn BK718n HBn
     rw [rounds_succ]
     have q0 := zc0 BK717
     have q1 := zc1 BK717
     have q2 := zc2 BK717
     have q3 := zc0 BS
     have q4 := zc1 BS
     have q5 := zfz BK717
     go_wp2_with ((with_reducible refine gtc 24 rfl ?_); refine zgL 39 Try.func24 (pattern_Class.calls k a0_2 c2 _ A31.out) (h := ?_); rintro wq ⟨nd, rfl⟩)
     clear q0 q1 q2 q3 q4 q5
     have BK717n := Aside0.mk (zkq BK717 : (ws2.drewN nd).heap[gb717]? = _)
     have BSn := Aside0.mk (zkq BS : (ws2.drewN nd).heap[gs]? = _)
     have BK718n := Aside0.mk (zkq BK718 : (ws2.drewN nd).heap[gb718]? = _)
     have HBn : Aside0 (Below w.heap.size w (ws2.drewN nd)) := ⟨pw_below_drewN HB.out _⟩
     clear BK717 BS BK718 HB
     generalize (ws2.drewN nd) = ws3 at BK717n BSn BK718n HBn ⊢
     have BK717 := BK717n
     have BS := BSn
     have BK718 := BK718n
     have HB := HBn
     clear BK717n BSn BK718n HBn
     rw [rounds_succ]
     have q0 := zc0 BK717
     have q1 := zc1 BK717
     have q2 := zc2 BK717
     have q3 := zc0 BS
     have q4 := zc1 BS
     have q5 := zfz BK717
     have q6 := zc0 BK718
     have q7 := zc1 BK718
     have q8 := zc2 BK718
     have q9 := zfz BK718
     go_wp2
     refine bodyPost_ret (results_cell_row rfl _ _ gb718 43 #[.bool false, .int .u64 a0_1, .int .u64 a0_2] (0, 0) _ rfl (blk_put (cs := #[.bool false, .int .u64 a0_1, .int .u64 0]) (blk_put (cs := #[.bool false, .int .u64 0, .int .u64 0]) (blk_put (zkq BK718) 0 _ rfl) 1 _ rfl) 2 _ rfl) Try.underlying43 rfl (by kernel_rfl)) rfl ?_
     exact ⟨by first | rfl | simp [z1, z2], zaB⟩
theorem span_norm.calls (k : Nat) (a0_0 : Bool) (a0_1 : Int) (a0_2 : Int) (r1 : Bool) (r2 : Int) (r3 : Int) (w : World) (h : span_norm.f k a0_0 a0_1 a0_2 = some (r1, r2, r3)) :
    Calls Try.prog 112 #[.agg #[.bool a0_0, .int .u64 a0_1, .int .u64 a0_2]] w fun e w' => e = .returned (.agg #[.bool r1, .int .u64 r2, .int .u64 r3]) ∧ Below w.heap.size w w' := by
  have hu_ := Try.underlying43
  have HB := Aside0.mk (Below.refl w.heap.size w)
  have H := h
  unfold span_norm.f at H
  clear h
  by_cases c2 : a0_0 = true
  · subst c2
    replace H := zit H
    obtain ⟨⟨t719, t720, t721⟩, A3, H⟩ := zbs H
    try dsimp only at H
    simp only [Option.some.injEq, Prod.mk.injEq] at H
    obtain ⟨rfl, rfl, rfl⟩ := H
    go_enter Try.func112, Try.ntmps112
    go_wp2_with (first | ((with_reducible refine gtd 1 rfl ?_); refine zbx 1 #[.bool true, .int .u64 a0_1, .int .u64 a0_2] 43 (h := ?_); intro gb717 hg w4 hbox hb; have GW717 := zkZ hg (zaB (p := Below w.heap.size w _)); replace HB := Aside0.mk (below_step zaB hb); have BK717 := Aside0.mk (hbox); clear hb hbox hg) | ((with_reducible refine gtd 2 rfl ?_); refine zbx 2 #[.bool false, .int .u64 0, .int .u64 0] 43 (h := ?_); intro gb718 hg w5 hbox hb; refine zbn1 HB BK717 hg hb hbox (c := ?_); clear HB BK717 hb hbox hg; intro GW718 NB717_718 BK717 HB BK718; refine zt1 NB717_718 fun _ _ => ?_; refine zu3 BK717 fun z7_0 z7_1 z7_2 f7_0 f7_1 f7_2 => ?_) | (go_at_call 118; (with_reducible refine (span_none.calls  t719 t720 t721 _ A3.out).mono ?_); rintro e w8 ⟨rfl, hb⟩; refine zcn2 HB BK717 BK718 hb (c := ?_); clear HB BK717 BK718 hb; intro BK717 BK718 HB; refine zu3 BK718 fun z9_0 z9_1 z9_2 f9_0 f9_1 f9_2 => ?_))
    repeat (go_quiet (first | ((with_reducible refine gtd 1 rfl ?_); refine zbx 1 #[.bool true, .int .u64 a0_1, .int .u64 a0_2] 43 (h := ?_); intro gb717 hg w4 hbox hb; have GW717 := zkZ hg (zaB (p := Below w.heap.size w _)); replace HB := Aside0.mk (below_step zaB hb); have BK717 := Aside0.mk (hbox); clear hb hbox hg) | ((with_reducible refine gtd 2 rfl ?_); refine zbx 2 #[.bool false, .int .u64 0, .int .u64 0] 43 (h := ?_); intro gb718 hg w5 hbox hb; refine zbn1 HB BK717 hg hb hbox (c := ?_); clear HB BK717 hb hbox hg; intro GW718 NB717_718 BK717 HB BK718; refine zt1 NB717_718 fun _ _ => ?_; refine zu3 BK717 fun z7_0 z7_1 z7_2 f7_0 f7_1 f7_2 => ?_) | (go_at_call 118; (with_reducible refine (span_none.calls  t719 t720 t721 _ A3.out).mono ?_); rintro e w8 ⟨rfl, hb⟩; refine zcn2 HB BK717 BK718 hb (c := ?_); clear HB BK717 BK718 hb; intro BK717 BK718 HB; refine zu3 BK718 fun z9_0 z9_1 z9_2 f9_0 f9_1 f9_2 => ?_)); try go_wp2_with (first | ((with_reducible refine gtd 1 rfl ?_); refine zbx 1 #[.bool true, .int .u64 a0_1, .int .u64 a0_2] 43 (h := ?_); intro gb717 hg w4 hbox hb; have GW717 := zkZ hg (zaB (p := Below w.heap.size w _)); replace HB := Aside0.mk (below_step zaB hb); have BK717 := Aside0.mk (hbox); clear hb hbox hg) | ((with_reducible refine gtd 2 rfl ?_); refine zbx 2 #[.bool false, .int .u64 0, .int .u64 0] 43 (h := ?_); intro gb718 hg w5 hbox hb; refine zbn1 HB BK717 hg hb hbox (c := ?_); clear HB BK717 hb hbox hg; intro GW718 NB717_718 BK717 HB BK718; refine zt1 NB717_718 fun _ _ => ?_; refine zu3 BK717 fun z7_0 z7_1 z7_2 f7_0 f7_1 f7_2 => ?_) | (go_at_call 118; (with_reducible refine (span_none.calls  t719 t720 t721 _ A3.out).mono ?_); rintro e w8 ⟨rfl, hb⟩; refine zcn2 HB BK717 BK718 hb (c := ?_); clear HB BK717 BK718 hb; intro BK717 BK718 HB; refine zu3 BK718 fun z9_0 z9_1 z9_2 f9_0 f9_1 f9_2 => ?_)))
    refine bodyPost_ret (results_cell_row rfl _ _ gb718 43 #[.bool t719, .int .u64 t720, .int .u64 t721] (0, 0) _ rfl (blk_put (cs := #[.bool t719, .int .u64 t720, .int .u64 0]) (blk_put (cs := #[.bool t719, .int .u64 0, .int .u64 0]) (blk_put (zkq BK718) 0 _ rfl) 1 _ rfl) 2 _ rfl) Try.underlying43 rfl (by kernel_rfl)) rfl ?_
    exact ⟨zaE, zaB⟩
  · replace c2 := Bool.eq_false_iff.mpr c2
    subst c2
    replace H := zif H
    obtain ⟨t722, A10, H⟩ := zbs H
    try dsimp only at H
    by_cases c11 : t722 = true
    · subst c11
      replace H := zit H
      obtain ⟨t723, A12, H⟩ := zbs H
      try dsimp only at H
      by_cases c13 : a0_1 = t723
      · rw [if_pos c13] at H
        have c13b0 : (a0_1 == t723) = true := beq_iff_eq.mpr c13
        have c13b1 : (a0_1 != t723) = false := bne_eq_false_iff_eq.mpr c13
        clear c13
        obtain ⟨⟨t724, t725, t726⟩, A14, H⟩ := zbs H
        try dsimp only at H
        simp only [Option.some.injEq, Prod.mk.injEq] at H
        obtain ⟨rfl, rfl, rfl⟩ := H
        go_enter Try.func112, Try.ntmps112
        go_wp2_with (first | ((with_reducible refine gtd 1 rfl ?_); refine zbx 1 #[.bool false, .int .u64 a0_1, .int .u64 a0_2] 43 (h := ?_); intro gb717 hg w15 hbox hb; have GW717 := zkZ hg (zaB (p := Below w.heap.size w _)); replace HB := Aside0.mk (below_step zaB hb); have BK717 := Aside0.mk (hbox); clear hb hbox hg) | ((with_reducible refine gtd 2 rfl ?_); refine zbx 2 #[.bool false, .int .u64 0, .int .u64 0] 43 (h := ?_); intro gb718 hg w16 hbox hb; refine zbn1 HB BK717 hg hb hbox (c := ?_); clear HB BK717 hb hbox hg; intro GW718 NB717_718 BK717 HB BK718; refine zt1 NB717_718 fun _ _ => ?_; refine zu3 BK717 fun z18_0 z18_1 z18_2 f18_0 f18_1 f18_2 => ?_) | (go_at_call 117; (with_reducible refine (span_atMost.calls k a0_1 a0_2 true _ A10.out).mono ?_); rintro e w' ⟨rfl, ⟨nd, rfl⟩⟩; (try first | exact ⟨rfl, _, World.drewN_drewN _ _ _⟩ | exact ⟨rfl, _, Eq.trans (World.drewN_drewN _ _ _) (congrArg (World.drewN _) (Nat.add_assoc _ _ _))⟩)) | (go_at_call 114; (with_reducible refine (span_inf.calls k  t723 _ A12.out).mono ?_); rintro e w' ⟨rfl, ⟨nd, rfl⟩⟩; (try first | exact ⟨rfl, _, World.drewN_drewN _ _ _⟩ | exact ⟨rfl, _, Eq.trans (World.drewN_drewN _ _ _) (congrArg (World.drewN _) (Nat.add_assoc _ _ _))⟩)) | (go_at_call 118; (with_reducible refine (span_none.calls  t724 t725 t726 _ A14.out).mono ?_); rintro e w19 ⟨rfl, hb⟩; refine zcn2 HB BK717 BK718 hb (c := ?_); clear HB BK717 BK718 hb; intro BK717 BK718 HB; refine zu3 BK718 fun z20_0 z20_1 z20_2 f20_0 f20_1 f20_2 => ?_))
        repeat (go_quiet (first | ((with_reducible refine gtd 1 rfl ?_); refine zbx 1 #[.bool false, .int .u64 a0_1, .int .u64 a0_2] 43 (h := ?_); intro gb717 hg w15 hbox hb; have GW717 := zkZ hg (zaB (p := Below w.heap.size w _)); replace HB := Aside0.mk (below_step zaB hb); have BK717 := Aside0.mk (hbox); clear hb hbox hg) | ((with_reducible refine gtd 2 rfl ?_); refine zbx 2 #[.bool false, .int .u64 0, .int .u64 0] 43 (h := ?_); intro gb718 hg w16 hbox hb; refine zbn1 HB BK717 hg hb hbox (c := ?_); clear HB BK717 hb hbox hg; intro GW718 NB717_718 BK717 HB BK718; refine zt1 NB717_718 fun _ _ => ?_; refine zu3 BK717 fun z18_0 z18_1 z18_2 f18_0 f18_1 f18_2 => ?_) | (go_at_call 117; (with_reducible refine (span_atMost.calls k a0_1 a0_2 true _ A10.out).mono ?_); rintro e w' ⟨rfl, ⟨nd, rfl⟩⟩; (try first | exact ⟨rfl, _, World.drewN_drewN _ _ _⟩ | exact ⟨rfl, _, Eq.trans (World.drewN_drewN _ _ _) (congrArg (World.drewN _) (Nat.add_assoc _ _ _))⟩)) | (go_at_call 114; (with_reducible refine (span_inf.calls k  t723 _ A12.out).mono ?_); rintro e w' ⟨rfl, ⟨nd, rfl⟩⟩; (try first | exact ⟨rfl, _, World.drewN_drewN _ _ _⟩ | exact ⟨rfl, _, Eq.trans (World.drewN_drewN _ _ _) (congrArg (World.drewN _) (Nat.add_assoc _ _ _))⟩)) | (go_at_call 118; (with_reducible refine (span_none.calls  t724 t725 t726 _ A14.out).mono ?_); rintro e w19 ⟨rfl, hb⟩; refine zcn2 HB BK717 BK718 hb (c := ?_); clear HB BK717 BK718 hb; intro BK717 BK718 HB; refine zu3 BK718 fun z20_0 z20_1 z20_2 f20_0 f20_1 f20_2 => ?_)); try go_wp2_with (first | ((with_reducible refine gtd 1 rfl ?_); refine zbx 1 #[.bool false, .int .u64 a0_1, .int .u64 a0_2] 43 (h := ?_); intro gb717 hg w15 hbox hb; have GW717 := zkZ hg (zaB (p := Below w.heap.size w _)); replace HB := Aside0.mk (below_step zaB hb); have BK717 := Aside0.mk (hbox); clear hb hbox hg) | ((with_reducible refine gtd 2 rfl ?_); refine zbx 2 #[.bool false, .int .u64 0, .int .u64 0] 43 (h := ?_); intro gb718 hg w16 hbox hb; refine zbn1 HB BK717 hg hb hbox (c := ?_); clear HB BK717 hb hbox hg; intro GW718 NB717_718 BK717 HB BK718; refine zt1 NB717_718 fun _ _ => ?_; refine zu3 BK717 fun z18_0 z18_1 z18_2 f18_0 f18_1 f18_2 => ?_) | (go_at_call 117; (with_reducible refine (span_atMost.calls k a0_1 a0_2 true _ A10.out).mono ?_); rintro e w' ⟨rfl, ⟨nd, rfl⟩⟩; (try first | exact ⟨rfl, _, World.drewN_drewN _ _ _⟩ | exact ⟨rfl, _, Eq.trans (World.drewN_drewN _ _ _) (congrArg (World.drewN _) (Nat.add_assoc _ _ _))⟩)) | (go_at_call 114; (with_reducible refine (span_inf.calls k  t723 _ A12.out).mono ?_); rintro e w' ⟨rfl, ⟨nd, rfl⟩⟩; (try first | exact ⟨rfl, _, World.drewN_drewN _ _ _⟩ | exact ⟨rfl, _, Eq.trans (World.drewN_drewN _ _ _) (congrArg (World.drewN _) (Nat.add_assoc _ _ _))⟩)) | (go_at_call 118; (with_reducible refine (span_none.calls  t724 t725 t726 _ A14.out).mono ?_); rintro e w19 ⟨rfl, hb⟩; refine zcn2 HB BK717 BK718 hb (c := ?_); clear HB BK717 BK718 hb; intro BK717 BK718 HB; refine zu3 BK718 fun z20_0 z20_1 z20_2 f20_0 f20_1 f20_2 => ?_)))
        refine bodyPost_ret (results_cell_row rfl _ _ gb718 43 #[.bool t724, .int .u64 t725, .int .u64 t726] (0, 0) _ rfl (blk_put (cs := #[.bool t724, .int .u64 t725, .int .u64 0]) (blk_put (cs := #[.bool t724, .int .u64 0, .int .u64 0]) (blk_put (zkq BK718) 0 _ rfl) 1 _ rfl) 2 _ rfl) Try.underlying43 rfl (by kernel_rfl)) rfl ?_
        exact ⟨zaE, zaB⟩
      · rw [if_neg c13] at H
        have c13b0 : (a0_1 == t723) = false := beq_eq_false_iff_ne.mpr c13
        have c13b1 : (a0_1 != t723) = true := bne_iff_ne.mpr c13
        obtain ⟨t727, A21, H⟩ := zbs H
        try dsimp only at H
        by_cases c22 : a0_2 = t727
        · rw [if_pos c22] at H
          have c22b0 : (a0_2 == t727) = true := beq_iff_eq.mpr c22
          have c22b1 : (a0_2 != t727) = false := bne_eq_false_iff_eq.mpr c22
          clear c22
          obtain ⟨⟨t728, t729, t730⟩, A23, H⟩ := zbs H
          try dsimp only at H
          simp only [Option.some.injEq, Prod.mk.injEq] at H
          obtain ⟨rfl, rfl, rfl⟩ := H
          go_enter Try.func112, Try.ntmps112
          go_wp2_with (first | ((with_reducible refine gtd 1 rfl ?_); refine zbx 1 #[.bool false, .int .u64 a0_1, .int .u64 a0_2] 43 (h := ?_); intro gb717 hg w24 hbox hb; have GW717 := zkZ hg (zaB (p := Below w.heap.size w _)); replace HB := Aside0.mk (below_step zaB hb); have BK717 := Aside0.mk (hbox); clear hb hbox hg) | ((with_reducible refine gtd 2 rfl ?_); refine zbx 2 #[.bool false, .int .u64 0, .int .u64 0] 43 (h := ?_); intro gb718 hg w25 hbox hb; refine zbn1 HB BK717 hg hb hbox (c := ?_); clear HB BK717 hb hbox hg; intro GW718 NB717_718 BK717 HB BK718; refine zt1 NB717_718 fun _ _ => ?_; refine zu3 BK717 fun z27_0 z27_1 z27_2 f27_0 f27_1 f27_2 => ?_) | (go_at_call 117; (with_reducible refine (span_atMost.calls k a0_1 a0_2 true _ A10.out).mono ?_); rintro e w' ⟨rfl, ⟨nd, rfl⟩⟩; (try first | exact ⟨rfl, _, World.drewN_drewN _ _ _⟩ | exact ⟨rfl, _, Eq.trans (World.drewN_drewN _ _ _) (congrArg (World.drewN _) (Nat.add_assoc _ _ _))⟩)) | (go_at_call 114; (with_reducible refine (span_inf.calls k  t723 _ A12.out).mono ?_); rintro e w' ⟨rfl, ⟨nd, rfl⟩⟩; (try first | exact ⟨rfl, _, World.drewN_drewN _ _ _⟩ | exact ⟨rfl, _, Eq.trans (World.drewN_drewN _ _ _) (congrArg (World.drewN _) (Nat.add_assoc _ _ _))⟩)) | (go_at_call 113; (with_reducible refine (span_ninf.calls k  t727 _ A21.out).mono ?_); rintro e w' ⟨rfl, ⟨nd, rfl⟩⟩; (try first | exact ⟨rfl, _, World.drewN_drewN _ _ _⟩ | exact ⟨rfl, _, Eq.trans (World.drewN_drewN _ _ _) (congrArg (World.drewN _) (Nat.add_assoc _ _ _))⟩)) | (go_at_call 118; (with_reducible refine (span_none.calls  t728 t729 t730 _ A23.out).mono ?_); rintro e w28 ⟨rfl, hb⟩; refine zcn2 HB BK717 BK718 hb (c := ?_); clear HB BK717 BK718 hb; intro BK717 BK718 HB; refine zu3 BK718 fun z29_0 z29_1 z29_2 f29_0 f29_1 f29_2 => ?_))
          repeat (go_quiet (first | ((with_reducible refine gtd 1 rfl ?_); refine zbx 1 #[.bool false, .int .u64 a0_1, .int .u64 a0_2] 43 (h := ?_); intro gb717 hg w24 hbox hb; have GW717 := zkZ hg (zaB (p := Below w.heap.size w _)); replace HB := Aside0.mk (below_step zaB hb); have BK717 := Aside0.mk (hbox); clear hb hbox hg) | ((with_reducible refine gtd 2 rfl ?_); refine zbx 2 #[.bool false, .int .u64 0, .int .u64 0] 43 (h := ?_); intro gb718 hg w25 hbox hb; refine zbn1 HB BK717 hg hb hbox (c := ?_); clear HB BK717 hb hbox hg; intro GW718 NB717_718 BK717 HB BK718; refine zt1 NB717_718 fun _ _ => ?_; refine zu3 BK717 fun z27_0 z27_1 z27_2 f27_0 f27_1 f27_2 => ?_) | (go_at_call 117; (with_reducible refine (span_atMost.calls k a0_1 a0_2 true _ A10.out).mono ?_); rintro e w' ⟨rfl, ⟨nd, rfl⟩⟩; (try first | exact ⟨rfl, _, World.drewN_drewN _ _ _⟩ | exact ⟨rfl, _, Eq.trans (World.drewN_drewN _ _ _) (congrArg (World.drewN _) (Nat.add_assoc _ _ _))⟩)) | (go_at_call 114; (with_reducible refine (span_inf.calls k  t723 _ A12.out).mono ?_); rintro e w' ⟨rfl, ⟨nd, rfl⟩⟩; (try first | exact ⟨rfl, _, World.drewN_drewN _ _ _⟩ | exact ⟨rfl, _, Eq.trans (World.drewN_drewN _ _ _) (congrArg (World.drewN _) (Nat.add_assoc _ _ _))⟩)) | (go_at_call 113; (with_reducible refine (span_ninf.calls k  t727 _ A21.out).mono ?_); rintro e w' ⟨rfl, ⟨nd, rfl⟩⟩; (try first | exact ⟨rfl, _, World.drewN_drewN _ _ _⟩ | exact ⟨rfl, _, Eq.trans (World.drewN_drewN _ _ _) (congrArg (World.drewN _) (Nat.add_assoc _ _ _))⟩)) | (go_at_call 118; (with_reducible refine (span_none.calls  t728 t729 t730 _ A23.out).mono ?_); rintro e w28 ⟨rfl, hb⟩; refine zcn2 HB BK717 BK718 hb (c := ?_); clear HB BK717 BK718 hb; intro BK717 BK718 HB; refine zu3 BK718 fun z29_0 z29_1 z29_2 f29_0 f29_1 f29_2 => ?_)); try go_wp2_with (first | ((with_reducible refine gtd 1 rfl ?_); refine zbx 1 #[.bool false, .int .u64 a0_1, .int .u64 a0_2] 43 (h := ?_); intro gb717 hg w24 hbox hb; have GW717 := zkZ hg (zaB (p := Below w.heap.size w _)); replace HB := Aside0.mk (below_step zaB hb); have BK717 := Aside0.mk (hbox); clear hb hbox hg) | ((with_reducible refine gtd 2 rfl ?_); refine zbx 2 #[.bool false, .int .u64 0, .int .u64 0] 43 (h := ?_); intro gb718 hg w25 hbox hb; refine zbn1 HB BK717 hg hb hbox (c := ?_); clear HB BK717 hb hbox hg; intro GW718 NB717_718 BK717 HB BK718; refine zt1 NB717_718 fun _ _ => ?_; refine zu3 BK717 fun z27_0 z27_1 z27_2 f27_0 f27_1 f27_2 => ?_) | (go_at_call 117; (with_reducible refine (span_atMost.calls k a0_1 a0_2 true _ A10.out).mono ?_); rintro e w' ⟨rfl, ⟨nd, rfl⟩⟩; (try first | exact ⟨rfl, _, World.drewN_drewN _ _ _⟩ | exact ⟨rfl, _, Eq.trans (World.drewN_drewN _ _ _) (congrArg (World.drewN _) (Nat.add_assoc _ _ _))⟩)) | (go_at_call 114; (with_reducible refine (span_inf.calls k  t723 _ A12.out).mono ?_); rintro e w' ⟨rfl, ⟨nd, rfl⟩⟩; (try first | exact ⟨rfl, _, World.drewN_drewN _ _ _⟩ | exact ⟨rfl, _, Eq.trans (World.drewN_drewN _ _ _) (congrArg (World.drewN _) (Nat.add_assoc _ _ _))⟩)) | (go_at_call 113; (with_reducible refine (span_ninf.calls k  t727 _ A21.out).mono ?_); rintro e w' ⟨rfl, ⟨nd, rfl⟩⟩; (try first | exact ⟨rfl, _, World.drewN_drewN _ _ _⟩ | exact ⟨rfl, _, Eq.trans (World.drewN_drewN _ _ _) (congrArg (World.drewN _) (Nat.add_assoc _ _ _))⟩)) | (go_at_call 118; (with_reducible refine (span_none.calls  t728 t729 t730 _ A23.out).mono ?_); rintro e w28 ⟨rfl, hb⟩; refine zcn2 HB BK717 BK718 hb (c := ?_); clear HB BK717 BK718 hb; intro BK717 BK718 HB; refine zu3 BK718 fun z29_0 z29_1 z29_2 f29_0 f29_1 f29_2 => ?_)))
          refine bodyPost_ret (results_cell_row rfl _ _ gb718 43 #[.bool t728, .int .u64 t729, .int .u64 t730] (0, 0) _ rfl (blk_put (cs := #[.bool t728, .int .u64 t729, .int .u64 0]) (blk_put (cs := #[.bool t728, .int .u64 0, .int .u64 0]) (blk_put (zkq BK718) 0 _ rfl) 1 _ rfl) 2 _ rfl) Try.underlying43 rfl (by kernel_rfl)) rfl ?_
          exact ⟨zaE, zaB⟩
        · rw [if_neg c22] at H
          have c22b0 : (a0_2 == t727) = false := beq_eq_false_iff_ne.mpr c22
          have c22b1 : (a0_2 != t727) = true := bne_iff_ne.mpr c22
          replace H := Option.bind_eq_some_iff.mp H
          obtain ⟨c1, A30, H⟩ := H
          replace H := Option.bind_eq_some_iff.mp H
          obtain ⟨c2, A31, H⟩ := H
          simp only [Option.some.injEq, Prod.mk.injEq] at H
          obtain ⟨rfl, rfl, rfl⟩ := H
          exact span_norm.loop k a0_1 a0_2 c1 c2 t723 t727 w A10 A12 c13b0 c13b1 A21 c22b0 c22b1 ⟨A30⟩ ⟨A31⟩
    · replace c11 := Bool.eq_false_iff.mpr c11
      subst c11
      replace H := zif H
      obtain ⟨⟨t731, t732, t733⟩, A35, H⟩ := zbs H
      try dsimp only at H
      simp only [Option.some.injEq, Prod.mk.injEq] at H
      obtain ⟨rfl, rfl, rfl⟩ := H
      go_enter Try.func112, Try.ntmps112
      go_wp2_with (first | ((with_reducible refine gtd 1 rfl ?_); refine zbx 1 #[.bool false, .int .u64 a0_1, .int .u64 a0_2] 43 (h := ?_); intro gb717 hg w36 hbox hb; have GW717 := zkZ hg (zaB (p := Below w.heap.size w _)); replace HB := Aside0.mk (below_step zaB hb); have BK717 := Aside0.mk (hbox); clear hb hbox hg) | ((with_reducible refine gtd 2 rfl ?_); refine zbx 2 #[.bool false, .int .u64 0, .int .u64 0] 43 (h := ?_); intro gb718 hg w37 hbox hb; refine zbn1 HB BK717 hg hb hbox (c := ?_); clear HB BK717 hb hbox hg; intro GW718 NB717_718 BK717 HB BK718; refine zt1 NB717_718 fun _ _ => ?_; refine zu3 BK717 fun z39_0 z39_1 z39_2 f39_0 f39_1 f39_2 => ?_) | (go_at_call 117; (with_reducible refine (span_atMost.calls k a0_1 a0_2 false _ A10.out).mono ?_); rintro e w' ⟨rfl, ⟨nd, rfl⟩⟩; (try first | exact ⟨rfl, _, World.drewN_drewN _ _ _⟩ | exact ⟨rfl, _, Eq.trans (World.drewN_drewN _ _ _) (congrArg (World.drewN _) (Nat.add_assoc _ _ _))⟩)) | (go_at_call 118; (with_reducible refine (span_none.calls  t731 t732 t733 _ A35.out).mono ?_); rintro e w40 ⟨rfl, hb⟩; refine zcn2 HB BK717 BK718 hb (c := ?_); clear HB BK717 BK718 hb; intro BK717 BK718 HB; refine zu3 BK718 fun z41_0 z41_1 z41_2 f41_0 f41_1 f41_2 => ?_))
      repeat (go_quiet (first | ((with_reducible refine gtd 1 rfl ?_); refine zbx 1 #[.bool false, .int .u64 a0_1, .int .u64 a0_2] 43 (h := ?_); intro gb717 hg w36 hbox hb; have GW717 := zkZ hg (zaB (p := Below w.heap.size w _)); replace HB := Aside0.mk (below_step zaB hb); have BK717 := Aside0.mk (hbox); clear hb hbox hg) | ((with_reducible refine gtd 2 rfl ?_); refine zbx 2 #[.bool false, .int .u64 0, .int .u64 0] 43 (h := ?_); intro gb718 hg w37 hbox hb; refine zbn1 HB BK717 hg hb hbox (c := ?_); clear HB BK717 hb hbox hg; intro GW718 NB717_718 BK717 HB BK718; refine zt1 NB717_718 fun _ _ => ?_; refine zu3 BK717 fun z39_0 z39_1 z39_2 f39_0 f39_1 f39_2 => ?_) | (go_at_call 117; (with_reducible refine (span_atMost.calls k a0_1 a0_2 false _ A10.out).mono ?_); rintro e w' ⟨rfl, ⟨nd, rfl⟩⟩; (try first | exact ⟨rfl, _, World.drewN_drewN _ _ _⟩ | exact ⟨rfl, _, Eq.trans (World.drewN_drewN _ _ _) (congrArg (World.drewN _) (Nat.add_assoc _ _ _))⟩)) | (go_at_call 118; (with_reducible refine (span_none.calls  t731 t732 t733 _ A35.out).mono ?_); rintro e w40 ⟨rfl, hb⟩; refine zcn2 HB BK717 BK718 hb (c := ?_); clear HB BK717 BK718 hb; intro BK717 BK718 HB; refine zu3 BK718 fun z41_0 z41_1 z41_2 f41_0 f41_1 f41_2 => ?_)); try go_wp2_with (first | ((with_reducible refine gtd 1 rfl ?_); refine zbx 1 #[.bool false, .int .u64 a0_1, .int .u64 a0_2] 43 (h := ?_); intro gb717 hg w36 hbox hb; have GW717 := zkZ hg (zaB (p := Below w.heap.size w _)); replace HB := Aside0.mk (below_step zaB hb); have BK717 := Aside0.mk (hbox); clear hb hbox hg) | ((with_reducible refine gtd 2 rfl ?_); refine zbx 2 #[.bool false, .int .u64 0, .int .u64 0] 43 (h := ?_); intro gb718 hg w37 hbox hb; refine zbn1 HB BK717 hg hb hbox (c := ?_); clear HB BK717 hb hbox hg; intro GW718 NB717_718 BK717 HB BK718; refine zt1 NB717_718 fun _ _ => ?_; refine zu3 BK717 fun z39_0 z39_1 z39_2 f39_0 f39_1 f39_2 => ?_) | (go_at_call 117; (with_reducible refine (span_atMost.calls k a0_1 a0_2 false _ A10.out).mono ?_); rintro e w' ⟨rfl, ⟨nd, rfl⟩⟩; (try first | exact ⟨rfl, _, World.drewN_drewN _ _ _⟩ | exact ⟨rfl, _, Eq.trans (World.drewN_drewN _ _ _) (congrArg (World.drewN _) (Nat.add_assoc _ _ _))⟩)) | (go_at_call 118; (with_reducible refine (span_none.calls  t731 t732 t733 _ A35.out).mono ?_); rintro e w40 ⟨rfl, hb⟩; refine zcn2 HB BK717 BK718 hb (c := ?_); clear HB BK717 BK718 hb; intro BK717 BK718 HB; refine zu3 BK718 fun z41_0 z41_1 z41_2 f41_0 f41_1 f41_2 => ?_)))
      refine bodyPost_ret (results_cell_row rfl _ _ gb718 43 #[.bool t731, .int .u64 t732, .int .u64 t733] (0, 0) _ rfl (blk_put (cs := #[.bool t731, .int .u64 t732, .int .u64 0]) (blk_put (cs := #[.bool t731, .int .u64 0, .int .u64 0]) (blk_put (zkq BK718) 0 _ rfl) 1 _ rfl) 2 _ rfl) Try.underlying43 rfl (by kernel_rfl)) rfl ?_
      exact ⟨zaE, zaB⟩
theorem span_Make.calls (k : Nat) (a0 : Int) (a1 : Int) (r1 : Bool) (r2 : Int) (r3 : Int) (w : World) (h : span_Make.f k a0 a1 = some (r1, r2, r3)) :
  Calls Try.prog 37 #[.int .u64 a0, .int .u64 a1] w fun e w' => e = .returned (.agg #[.bool r1, .int .u64 r2, .int .u64 r3]) ∧ Below w.heap.size w w' := by
 have hu43 := Try.underlying43
 have HB := Aside0.mk (Below.refl w.heap.size w)
 have H := h
 unfold span_Make.f at H
 clear h
 obtain ⟨⟨t718, t719, t720⟩, A3, H⟩ := zbs H
 try dsimp only at H
 simp only [Option.some.injEq, Prod.mk.injEq] at H
 obtain ⟨rfl, rfl, rfl⟩ := H
 go_enter Try.func37, Try.ntmps37
 go_wp2_with (first | ((with_reducible refine gtd 4 rfl ?_); refine zbx 4 #[.bool false, .int .u64 0, .int .u64 0] 43 (h := ?_); intro gb717 hg w4 hbox hb; have GW717 := zkZ hg (zaB (p := Below w.heap.size w _)); replace HB := Aside0.mk (below_step zaB hb); have BK717 := Aside0.mk (hbox); clear hb hbox hg) | ((with_reducible refine gtc 112 rfl ?_); refine zgL 8 Try.func112 (span_norm.calls k false a0 a1 t718 t719 t720 _ A3.out) (h := ?_); rintro w5 hb; replace BK717 := zkb BK717 hb; replace HB := zkB HB hb; (try clear hb); refine zu3 BK717 fun _ _ _ _ _ _ => ?_))
 refine bodyPost_ret (results_cell_row rfl _ _ gb717 43 #[.bool t718, .int .u64 t719, .int .u64 t720] (0, 0) _ rfl (blk_put (cs := #[.bool t718, .int .u64 t719, .int .u64 0]) (blk_put (cs := #[.bool t718, .int .u64 0, .int .u64 0]) (blk_put (zkq BK717) 0 _ rfl) 1 _ rfl) 2 _ rfl) Try.underlying43 rfl (by kernel_rfl)) rfl ?_
 exact ⟨zaE, zaB⟩
theorem pattern_Less.calls (k : Nat) (a0 : Int) (a1 : Int) (r : Bool) (w : World) (h : pattern_Less.f k a0 a1 = some r) :
  Calls Try.prog 34 #[.int .u64 a0, .int .u64 a1] w fun e w' => e = .returned (.bool r) ∧ Drawn0 w w' := by
 have H := h
 unfold pattern_Less.f at H
 clear h
 obtain ⟨⟨t685, t686⟩, A3, H⟩ := zbs H
 try dsimp only at H
 by_cases c4 : t686 = true
 ·subst c4
  replace H := zit H
  obtain rfl := Option.some.inj H
  go_enter Try.func34, Try.ntmps34
  go_wp2_with (first | ((with_reducible refine gtc 33 rfl ?_); refine zgL 10 Try.func33 (pattern_Cmp.calls k a0 a1 t685 true _ A3.out) (h := ?_); rintro w' ⟨nd, rfl⟩))
  go_ret
  exact ⟨by first | rfl | (simp; done) | (simp [*]; done), by repeat (first | exact Drawn0.refl _ | apply Drawn0.step)⟩
 replace c4 := Bool.eq_false_iff.mpr c4
 subst c4
 replace H := zif H
 obtain rfl := Option.some.inj H
 go_enter Try.func34, Try.ntmps34
 go_wp2_with (first | ((with_reducible refine gtc 33 rfl ?_); refine zgL 10 Try.func33 (pattern_Cmp.calls k a0 a1 t685 false _ A3.out) (h := ?_); rintro w' ⟨nd, rfl⟩))
 go_ret
 exact ⟨by first | rfl | (simp; done) | (simp [*]; done), by repeat (first | exact Drawn0.refl _ | apply Drawn0.step)⟩
theorem pattern_best.two (fv : Nat) (fn : Func) (hf : Try.prog.funcs[fv]? = some fn) (hn : (fn.name == "runtime.NumGoroutine") = false) (hbd : fn.body.isSome = true) (k : Nat) (x y : Int) (ad : Addr) (c : Nat) (b1 b2 : Bool) (w : World)
  (h0 : w.cell? ad = some (.int .u64 x)) (h1 : w.cell? (ad.add 1) = some (.int .u64 y)) (A1 : Aside0 (pattern_nan.f k x = some false)) (A2 : Aside0 (pattern_nan.f k y = some false))
  (L1 : ∀ w, Calls Try.prog fv #[.int .u64 x, .int .u64 x] w (fun e w' => e = .returned (.bool b1) ∧ Drawn0 w w')) (L2 : ∀ w, Calls Try.prog fv #[.int .u64 y, .int .u64 x] w (fun e w' => e = .returned (.bool b2) ∧ Drawn0 w w')) :
  Calls Try.prog 165 #[.slice (some ad) 2 c, .func (.func fv) #[] #[]] w (fun e w' => e = .returned (.int .u64 (if b2 = true then y else x)) ∧ Drawn0 w w') := by
 have z1 : w.cell? ⟨ad.block, ad.off + 1, none⟩ = some (.int .u64 y) := h1
 cases b1 <;> cases b2
 all_goals
  go_enter Try.func165, Try.ntmps165
  go_wp2
  refine wp_loop_rounds 3 ?_
  rw [rounds_succ]
  go_wp2_with (first | ((with_reducible refine gtc 109 rfl ?_); refine zgL 22 Try.func109 (pattern_nan.calls k x false _ A1.out) (h := ?_); rintro wq ⟨nd, rfl⟩) | (refine zgV (some 27) (.tmp 24) hf (L1 _) rfl rfl rfl hn hbd (h := ?_); rintro wq ⟨ne, rfl⟩))
  rw [rounds_succ]
  go_wp2_with (first | ((with_reducible refine gtc 109 rfl ?_); refine zgL 22 Try.func109 (pattern_nan.calls k y false _ A2.out) (h := ?_); rintro wq ⟨nd2, rfl⟩) | (refine zgV (some 27) (.tmp 24) hf (L2 _) rfl rfl rfl hn hbd (h := ?_); rintro wq ⟨ne2, rfl⟩))
  rw [rounds_succ]
  go_wp2
  go_ret
  exact ⟨zaE, by repeat (first | exact Drawn0.refl _ | apply Drawn0.step)⟩
theorem pattern_Min.calls (k : Nat) (A0 : Option Addr) (c0 : Nat) (l0 : List Int) (r : Int) (w : World) (hr0 : Kd.C (Kd.int .u64) w A0 l0.length l0) (hc0 : l0.length ≤ c0) (h : pattern_Min.f k l0 = some r) :
  Calls Try.prog 119 #[.slice A0 l0.length c0] w fun e w' => e = .returned (.int .u64 r) ∧ Below w.heap.size w w' := by
 match l0, h with
 | [], h => cases h
 | [x], h => cases h
 | x :: y :: z :: l, h => cases h
 | [x, y], h =>
  have h : ((pattern_nan.f k x).bind fun t => if t = true then none else (pattern_Less.f k x x).bind fun _ => (pattern_nan.f k y).bind fun u => if u = true then none else (pattern_Less.f k y x).bind fun b => some (if b = true then y else x)) = some r := h
  obtain ⟨t, A1, h⟩ := zbs h
  try dsimp only at h
  cases t
  ·rw [if_neg (by decide)] at h
   obtain ⟨b1, B1, h⟩ := zbs h
   obtain ⟨u, A2, h⟩ := zbs h
   cases u
   ·rw [if_neg (by decide)] at h
    obtain ⟨b2, B2, h⟩ := zbs h
    obtain rfl := Option.some.inj h
    replace B1 := B1.out
    replace B2 := B2.out
    obtain ⟨ad, rfl, x0⟩ := Kd.at_int hr0 0 (by decide) (by simp)
    obtain ⟨ad2, e2, x1⟩ := Kd.at_int hr0 1 (by decide) (by simp)
    obtain rfl := Option.some.inj e2
    have x0 : w.cell? ad = some (.int .u64 x) := by have e : ad.add (0 : Int).toNat = ad := rfl; rw [e] at x0; exact x0
    have x1 : w.cell? (ad.add 1) = some (.int .u64 y) := x1
    have T := pattern_best.two 34 _ Try.func34 (by kernel_rfl) rfl k x y ad c0 b1 b2 w x0 x1 A1 A2 (fun w => pattern_Less.calls k x x b1 w B1) (fun w => pattern_Less.calls k y x b2 w B2)
    generalize (if b2 = true then y else x) = v at T ⊢
    clear hr0 x0 x1 A1 A2 B1 B2 hc0
    go_enter Try.func119, Try.ntmps119
    go_wp2_with ((with_reducible refine gtc 165 rfl ?_); refine zgL 4 Try.func165 T (h := ?_); rintro wq ⟨nd, rfl⟩)
    go_ret
    exact ⟨rfl, pw_below_drewN (Below.refl _ _) _⟩
   rw [if_pos rfl] at h; cases h
  rw [if_pos rfl] at h; cases h
theorem pattern_Max.one (k : Nat) (x y : Int) (b : Bool) (w : World) (h : pattern_Less.f k y x = some b) :
  Calls Try.prog 166 #[.int .u64 x, .int .u64 y] w fun e w' => e = .returned (.bool b) ∧ Drawn0 w w' := by
 go_enter Try.func166, Try.ntmps166
 go_wp2_with ((with_reducible refine gtc 34 rfl ?_); refine zgL 7 Try.func34 (pattern_Less.calls k y x b _ h) (h := ?_); rintro wq ⟨nd, rfl⟩)
 go_ret
 exact ⟨rfl, by repeat (first | exact Drawn0.refl _ | apply Drawn0.step)⟩
theorem pattern_Max.calls (k : Nat) (A0 : Option Addr) (c0 : Nat) (l0 : List Int) (r : Int) (w : World) (hr0 : Kd.C (Kd.int .u64) w A0 l0.length l0) (hc0 : l0.length ≤ c0) (h : pattern_Max.f k l0 = some r) :
  Calls Try.prog 120 #[.slice A0 l0.length c0] w fun e w' => e = .returned (.int .u64 r) ∧ Below w.heap.size w w' := by
 match l0, h with
 | [], h => cases h
 | [x], h => cases h
 | x :: y :: z :: l, h => cases h
 | [x, y], h =>
  have h : ((pattern_nan.f k x).bind fun t => if t = true then none else (pattern_Less.f k x x).bind fun _ => (pattern_nan.f k y).bind fun u => if u = true then none else (pattern_Less.f k x y).bind fun b => some (if b = true then y else x)) = some r := h
  obtain ⟨t, A1, h⟩ := zbs h
  try dsimp only at h
  cases t
  ·rw [if_neg (by decide)] at h
   obtain ⟨b1, B1, h⟩ := zbs h
   obtain ⟨u, A2, h⟩ := zbs h
   cases u
   ·rw [if_neg (by decide)] at h
    obtain ⟨b2, B2, h⟩ := zbs h
    obtain rfl := Option.some.inj h
    replace B1 := B1.out
    replace B2 := B2.out
    obtain ⟨ad, rfl, x0⟩ := Kd.at_int hr0 0 (by decide) (by simp)
    obtain ⟨ad2, e2, x1⟩ := Kd.at_int hr0 1 (by decide) (by simp)
    obtain rfl := Option.some.inj e2
    have x0 : w.cell? ad = some (.int .u64 x) := by have e : ad.add (0 : Int).toNat = ad := rfl; rw [e] at x0; exact x0
    have x1 : w.cell? (ad.add 1) = some (.int .u64 y) := x1
    have T := pattern_best.two 166 _ Try.func166 (by kernel_rfl) rfl k x y ad c0 b1 b2 w x0 x1 A1 A2 (fun w => pattern_Max.one k x x b1 w B1) (fun w => pattern_Max.one k y x b2 w B2)
    generalize (if b2 = true then y else x) = v at T ⊢
    clear hr0 x0 x1 A1 A2 B1 B2 hc0
    go_enter Try.func120, Try.ntmps120
    go_wp2_with ((with_reducible refine gtc 165 rfl ?_); refine zgL 4 Try.func165 T (h := ?_); rintro wq ⟨nd, rfl⟩)
    go_ret
    exact ⟨rfl, pw_below_drewN (Below.refl _ _) _⟩
   rw [if_pos rfl] at h; cases h
  rw [if_pos rfl] at h; cases h
def span_Meet.T4 : Bool × List (List Nat × List Nat) := (true, [([], []), ([0], [0]), ([], []), ([2], [2]), ([1, 3], [1, 3]), ([4], [4]), ([], []), ([6], [6]), ([], []), ([8], [8]), ([7, 9], [7, 9]), ([10, 5], [10]), ([5, 11, 11], [5, 11]), ([12, 12, 0, 1, 2, 3, 4, 5, 6, 7, 8, 9, 10, 11, 12], [12])])
def span_Meet.B4 : List Nat := [0, 1, 0, 4, 15, 31, 0, 64, 0, 256, 960, 2047, 4095, 8191]
theorem span_Meet.tab4 : rtab .any (opsOf Try.f47 4) = span_Meet.T4 := by kernel_rfl
theorem span_Meet.bits4 : waitsOk span_Meet.T4.2 span_Meet.B4 = true := by kernel_rfl
theorem span_Meet.calls (k : Nat) (a0_0 : Bool) (a0_1 : Int) (a0_2 : Int) (a1_0 : Bool) (a1_1 : Int) (a1_2 : Int) (r1 : Bool) (r2 : Int) (r3 : Int) (w : World) (h : span_Meet.f k a0_0 a0_1 a0_2 a1_0 a1_1 a1_2 = some (r1, r2, r3)) :
  Calls Try.prog 47 #[.agg #[.bool a0_0, .int .u64 a0_1, .int .u64 a0_2], .agg #[.bool a1_0, .int .u64 a1_1, .int .u64 a1_2]] w fun e w' => e = .returned (.agg #[.bool r1, .int .u64 r2, .int .u64 r3]) ∧ Below w.heap.size w w' := by
 have hu43 := Try.underlying43
 have HB := Aside0.mk (Below.refl w.heap.size w)
 have H := h
 unfold span_Meet.f at H
 clear h
 obtain ⟨⟨t774, t775, t776⟩, A3, H⟩ := zbs H
 try dsimp only at H
 obtain ⟨⟨t777, t778, t779⟩, A4, H⟩ := zbs H
 try dsimp only at H
 have HC5 := Aside0.mk H
 clear H
 go_enter Try.func47, Try.ntmps47
 try go_wp2_with (first | ((with_reducible refine gtd 2 rfl ?_); refine zbx 2 #[.bool a0_0, .int .u64 a0_1, .int .u64 a0_2] 43 (h := ?_); intro gb771 hg w6 hbox hb; have GW771 := zkZ hg (zaB (p := Below w.heap.size w _)); replace HB := Aside0.mk (below_step zaB hb); have BK771 := Aside0.mk (hbox); clear hb hbox hg) | ((with_reducible refine gtd 3 rfl ?_); refine zbx 3 #[.bool a1_0, .int .u64 a1_1, .int .u64 a1_2] 43 (h := ?_); intro gb772 hg w7 hbox hb; refine zbn1 HB BK771 hg hb hbox (c := ?_); clear HB BK771 hb hbox hg; intro GW772 NB771_772 BK771 HB BK772) | ((with_reducible refine gtd 4 rfl ?_); refine zbx 4 #[.bool false, .int .u64 0, .int .u64 0] 43 (h := ?_); intro gb773 hg w8 hbox hb; refine zbn2 HB BK771 BK772 hg hb hbox (c := ?_); clear HB BK771 BK772 hb hbox hg; intro GW773 NB771_773 NB772_773 BK771 BK772 HB BK773))
 replace BK771 := Aside0.mk (blk_drew BK771.out)
 replace BK772 := Aside0.mk (blk_drew BK772.out)
 replace BK773 := Aside0.mk (blk_drew BK773.out)
 replace HB := Aside0.mk (below_drew1 HB.out)
 refine start_ (n := 6) (S := fun w' => w'.cell? ⟨gb771, 0, none⟩ = some (.bool a0_0) ∧ w'.cell? ⟨gb771, 1, none⟩ = some (.int .u64 a0_1) ∧ w'.cell? ⟨gb771, 2, none⟩ = some (.int .u64 a0_2) ∧ w'.cell? ⟨gb772, 0, none⟩ = some (.bool a1_0) ∧ w'.cell? ⟨gb772, 1, none⟩ = some (.int .u64 a1_1) ∧ w'.cell? ⟨gb772, 2, none⟩ = some (.int .u64 a1_2)) (ds := [4, 5]) #[false, false, false, false, false, false] (by kernel_rfl) rfl rfl (zk3 BK771 (ze3 BK772)) (fun hHeld => ?_)
 generalize w8.drew = w9 at BK771 BK772 BK773 HB hHeld ⊢
 refine ztA 0 5 (h := ?_)
 refine ztA 2 7 (h := ?_)
 refine zoA 1 6 (h := fun K hK => ?_)
 refine zgA Try.func112 (span_norm.calls k a0_0 a0_1 a0_2 t774 t775 t776 _ A3.out) (h := ?_)
 rintro w10 hb
 refine zcn3 HB BK771 BK772 BK773 hb (c := ?_)
 clear HB BK771 BK772 BK773 hb
 intro BK771 BK772 BK773 HB
 refine hK.out _ _ (zk3 BK771 (ze3 BK772)) (fun hHeld => ?_)
 clear hK K
 refine znA 6 (h := ?_)
 refine zoA 3 8 (h := fun K hK => ?_)
 refine zgA Try.func112 (span_norm.calls k a1_0 a1_1 a1_2 t777 t778 t779 _ A4.out) (h := ?_)
 rintro w11 hb
 refine zcn3 HB BK771 BK772 BK773 hb (c := ?_)
 clear HB BK771 BK772 BK773 hb
 intro BK771 BK772 BK773 HB
 refine hK.out _ _ (zk3 BK771 (ze3 BK772)) (fun hHeld => ?_)
 clear hK K
 refine znA 8 (h := ?_)
 refine last_ (i := 4) (N := none) #[true, true, true, true, true, false] rfl rfl (by kernel_rfl) (by decide) (fun K hK => ?_)
 have hs12 := zc0 BK771
 have hfs12 := blk_frozen BK771.out 0
 refine zt2 NB771_772 NB771_773 fun _ _ _ _ => ?_
 have hs13 := zc1 BK771
 have hfs13 := blk_frozen BK771.out 1
 refine zt2 NB771_772 NB771_773 fun _ _ _ _ => ?_
 have hs14 := zc2 BK771
 have hfs14 := blk_frozen BK771.out 2
 refine zt2 NB771_772 NB771_773 fun _ _ _ _ => ?_
 refine skip_ (w1 := ?_) (by rfl) rfl ?_ ?_
 rotate_left
 ·go_simp
  rfl
 refine hK.out _ _ ?_
 clear hK K
 refine last_ (i := 5) (N := none) #[true, true, true, true, true, true] rfl rfl (by kernel_rfl) (by decide) (fun K hK => ?_)
 have hs15 := zc0 BK772
 have hfs15 := blk_frozen BK772.out 0
 refine zt2 NB771_772 NB772_773 fun _ _ _ _ => ?_
 have hs16 := zc1 BK772
 have hfs16 := blk_frozen BK772.out 1
 refine zt2 NB771_772 NB772_773 fun _ _ _ _ => ?_
 have hs17 := zc2 BK772
 have hfs17 := blk_frozen BK772.out 2
 refine zt2 NB771_772 NB772_773 fun _ _ _ _ => ?_
 refine skip_ (w1 := ?_) (by rfl) rfl ?_ ?_
 rotate_left
 ·go_simp
  rfl
 refine hK.out _ _ ?_
 clear hK K
 refine done_ (by kernel_rfl) ?_
 go_upto_region 2 with (fail)
 go_cut [14] (fun v14 wc => ∃ (kq : Nat) (x14_4 : Bool), v14 = .bool x14_4 ∧ Aside0 (span_Meet.j0 kq x14_4 t774 t775 t776 t777 t778 t779 = some (r1, r2, r3)) ∧ Aside0 (kq ≤ k) ∧ Aside0 (wc.heap[gb771]? = some (.cells #[.bool t774, .int .u64 t775, .int .u64 t776] 43 (0, 0))) ∧ Aside0 (wc.heap[gb772]? = some (.cells #[.bool t777, .int .u64 t778, .int .u64 t779] 43 (0, 0))) ∧ Aside0 (wc.heap[gb773]? = some (.cells #[.bool false, .int .u64 0, .int .u64 0] 43 (0, 0))) ∧ Aside0 (Below w.heap.size w wc))
 case first =>
  have H := HC5.out
  clear HC5
  by_cases c18 : t774 = true
  ·subst c18
   replace H := zit H
   have H' := Aside0.mk H
   clear H
   refine zt2 NB771_772 NB771_773 fun _ _ _ _ => ?_
   refine zu3 BK771 fun z21_0 z21_1 z21_2 f21_0 f21_1 f21_2 => ?_
   go_wp2
   go_meet
   case rel => exact ⟨_, (true), zrl, H', ⟨zle⟩, ⟨(zkf (zkf (zkf (blk_put (cs := #[.bool true, .int .u64 t775, .int .u64 a0_2]) (blk_put (cs := #[.bool true, .int .u64 a0_1, .int .u64 a0_2]) (blk_put (zkq BK771) 0 _ rfl) 1 _ rfl) 2 _ rfl) NB771_772.out _) NB771_772.out _) NB771_772.out _)⟩, ⟨(blk_put (cs := #[.bool t777, .int .u64 t778, .int .u64 a1_2]) (blk_put (cs := #[.bool t777, .int .u64 a1_1, .int .u64 a1_2]) (blk_put (zkf (zkf (zkf (zkq BK772) (zks NB771_772).out _) (zks NB771_772).out _) (zks NB771_772).out _) 0 _ rfl) 1 _ rfl) 2 _ rfl)⟩, ⟨(zkf (zkf (zkf (zkf (zkf (zkf (zkq BK773) (zks NB771_773).out _) (zks NB771_773).out _) (zks NB771_773).out _) (zks NB772_773).out _) (zks NB772_773).out _) (zks NB772_773).out _)⟩, ⟨zaB⟩⟩
  replace c18 := Bool.eq_false_iff.mpr c18
  subst c18
  replace H := zif H
  have H' := Aside0.mk H
  clear H
  refine zt2 NB771_772 NB771_773 fun _ _ _ _ => ?_
  refine zu3 BK771 fun z24_0 z24_1 z24_2 f24_0 f24_1 f24_2 => ?_
  refine zt1 NB772_773 fun _ _ => ?_
  refine zu3 BK772 fun z26_0 z26_1 z26_2 f26_0 f26_1 f26_2 => ?_
  go_wp2
  go_meet
  case rel => exact ⟨_, (t777), zrl, H', ⟨zle⟩, ⟨(zkf (zkf (zkf (blk_put (cs := #[.bool false, .int .u64 t775, .int .u64 a0_2]) (blk_put (cs := #[.bool false, .int .u64 a0_1, .int .u64 a0_2]) (blk_put (zkq BK771) 0 _ rfl) 1 _ rfl) 2 _ rfl) NB771_772.out _) NB771_772.out _) NB771_772.out _)⟩, ⟨(blk_put (cs := #[.bool t777, .int .u64 t778, .int .u64 a1_2]) (blk_put (cs := #[.bool t777, .int .u64 a1_1, .int .u64 a1_2]) (blk_put (zkf (zkf (zkf (zkq BK772) (zks NB771_772).out _) (zks NB771_772).out _) (zks NB771_772).out _) 0 _ rfl) 1 _ rfl) 2 _ rfl)⟩, ⟨(zkf (zkf (zkf (zkf (zkf (zkf (zkq BK773) (zks NB771_773).out _) (zks NB771_773).out _) (zks NB771_773).out _) (zks NB772_773).out _) (zks NB772_773).out _) (zks NB772_773).out _)⟩, ⟨zaB⟩⟩
 case rest =>
  clear HC5
  try clear z21_0 z21_1 z21_2 f21_0 f21_1 f21_2
  try clear z24_0 z24_1 z24_2 f24_0 f24_1 f24_2
  try clear z26_0 z26_1 z26_2 f26_0 f26_1 f26_2
  obtain ⟨kq, x14_4, rfl, HA, HJ4, BK771, BK772, BK773, HB⟩ := hcut
  cases kq with
  | zero => exact absurd HA.out (by simp [span_Meet.j0])
  | succ kj4 =>
   have H := HA.out
   clear HA
   simp only [span_Meet.j0] at H
   by_cases c27 : x14_4 = true
   ·subst c27
    replace H := zit H
    obtain ⟨⟨t780, t781, t782⟩, A28, H⟩ := zbs H
    try dsimp only at H
    simp only [Option.some.injEq, Prod.mk.injEq] at H
    obtain ⟨rfl, rfl, rfl⟩ := H
    go_wp2_with (first | ((with_reducible refine gtc 118 rfl ?_); refine zgL 15 Try.func118 (span_none.calls  t780 t781 t782 _ A28.out) (h := ?_); rintro w29 hb; refine zcn3 HB BK771 BK772 BK773 hb (c := ?_); clear HB BK771 BK772 BK773 hb; intro BK771 BK772 BK773 HB; refine zt2 NB771_773 NB772_773 fun _ _ _ _ => ?_; refine zu3 BK773 fun _ _ _ _ _ _ => ?_))
    refine bodyPost_ret (results_cell_row rfl _ _ gb773 43 #[.bool t780, .int .u64 t781, .int .u64 t782] (0, 0) _ rfl (blk_put (cs := #[.bool t780, .int .u64 t781, .int .u64 0]) (blk_put (cs := #[.bool t780, .int .u64 0, .int .u64 0]) (blk_put (zkq BK773) 0 _ rfl) 1 _ rfl) 2 _ rfl) Try.underlying43 rfl (by kernel_rfl)) rfl ?_
    exact ⟨zaE, zaB⟩
   replace c27 := Bool.eq_false_iff.mpr c27
   subst c27
   replace H := zif H
   obtain ⟨y783, hy783⟩ : ∃ y_ : List Int, y_ = (([t775, t778] : List Int)) := ⟨_, rfl⟩
   replace H : ((pattern_Max.f kj4 y783).bind fun t786 => ((pattern_Min.f kj4 (([t776, t779] : List Int))).bind fun t790 => ((span_Make.f kj4 t786 t790).bind fun bt791 => (some (bt791.1, bt791.2.1, bt791.2.2))))) = some (r1, r2, r3) := by first | (rw [hy783]; with_reducible exact H) | (have H2_ := (Option.bind_some _ _).symm.trans H; rw [hy783]; with_reducible exact H2_) | (have H2_ := (Option.bind_some _ _).symm.trans H; with_reducible exact H2_) | with_reducible exact H | (rw [hy783]; exact H) | exact H
   have Ny783 := Aside0.mk hy783
   clear hy783
   obtain ⟨t786, A33, H⟩ := zbs H
   try dsimp only at H
   obtain ⟨y787, hy787⟩ : ∃ y_ : List Int, y_ = (([t776, t779] : List Int)) := ⟨_, rfl⟩
   replace H : ((pattern_Min.f kj4 y787).bind fun t790 => ((span_Make.f kj4 t786 t790).bind fun bt791 => (some (bt791.1, bt791.2.1, bt791.2.2)))) = some (r1, r2, r3) := by first | (rw [hy787]; with_reducible exact H) | (have H2_ := (Option.bind_some _ _).symm.trans H; rw [hy787]; with_reducible exact H2_) | (have H2_ := (Option.bind_some _ _).symm.trans H; with_reducible exact H2_) | with_reducible exact H | (rw [hy787]; exact H) | exact H
   have Ny787 := Aside0.mk hy787
   clear hy787
   obtain ⟨t790, A34, H⟩ := zbs H
   try dsimp only at H
   obtain ⟨⟨t791, t792, t793⟩, A35, H⟩ := zbs H
   try dsimp only at H
   simp only [Option.some.injEq, Prod.mk.injEq] at H
   obtain ⟨rfl, rfl, rfl⟩ := H
   try go_wp2
   replace BK771 := Aside0.mk (blk_drew BK771.out)
   replace BK772 := Aside0.mk (blk_drew BK772.out)
   replace BK773 := Aside0.mk (blk_drew BK773.out)
   replace HB := Aside0.mk (below_drew1 HB.out)
   refine start_ (n := 14) (S := fun w' => True) (ds := []) #[false, false, false, false, false, false, false, false, false, false, false, false, false, false] (by kernel_rfl) rfl rfl trivial (fun hHeld => ?_); refine with_tabW span_Meet.tab4 span_Meet.bits4 (fun HT_ HW_ => ?_)
   generalize wc.drew = w36 at BK771 BK772 BK773 HB hHeld ⊢
   refine zpA 0 16 (h := ?_)
   refine zpA 2 18 (h := ?_)
   refine zpA 6 22 (h := ?_)
   refine zpA 8 24 (h := ?_)
   refine inv_at [1, 3, 4, 5, 7, 9, 10, 11, 12, 13] (fun a0_ b a w' => ∃ (v784 : Value) (v788 : Value), a = putSel a0_ b [(1, 17, .int .u64 t775), (3, 19, .int .u64 t778), (4, 20, v784), (5, 21, .int .u64 t786), (7, 23, .int .u64 t776), (9, 25, .int .u64 t779), (10, 26, v788), (11, 27, .int .u64 t790), (12, 28, .agg #[.bool t791, .int .u64 t792, .int .u64 t793])] ∧ (w'.heap[gb771]? = some (.cells #[.bool t774, .int .u64 t775, .int .u64 t776] 43 (0, 0))) ∧ (w'.heap[gb772]? = some (.cells #[.bool t777, .int .u64 t778, .int .u64 t779] 43 (0, 0))) ∧ (b 13 = false → w'.heap[gb773]? = some (.cells #[.bool false, .int .u64 0, .int .u64 0] 43 (0, 0))) ∧ (Below w.heap.size w w') ∧ (b 4 = true → Kd.R (Kd.int .u64) 23 w' w.heap.size (fun _ => True) v784 y783) ∧ (b 10 = true → Kd.R (Kd.int .u64) 23 w' w.heap.size (fun _ => True) v788 y787) ∧ (b 13 = true → w'.heap[gb773]? = some (.cells #[.bool t791, .int .u64 t792, .int .u64 t793] 43 (0, 0)))) HT_.out HW_.out (by kernel_rfl) (by kernel_rfl) ?_ ?_ ?_
   ·exact ⟨.bool false, .bool false, by simp only [putSel, Bool.false_eq_true, if_false], BK771.out, BK772.out, fun _ => BK773.out, HB.out, fun h_ => absurd h_ (by decide), fun h_ => absurd h_ (by decide), fun h_ => absurd h_ (by decide)⟩
   ·skip
    clear BK771 BK772 BK773 HB
    refine steps_cons ?_ ?_
    ·rintro b a w' ⟨v784, v788, ha, Q_BK771, Q_BK772, Q_BK773, Q_HB, Q_HO785, Q_HO789, Q_BK773_e13⟩ hb_ hon hoff
     refine ⟨_, rfl, fun K hK => ?_⟩
     have e16 : a.tmps[16]? = some (.pointer (some ⟨gb771, 1, none⟩)) := by rw [ha]; exact (putSel_off rfl).trans rfl
     replace ha := Aside0.mk ha
     have BK771 := Aside0.mk Q_BK771
     have BK772 := Aside0.mk Q_BK772
     have BK773 := Aside0.mk (Q_BK773 (hoff 13 (by kernel_rfl)))
     have HB := Aside0.mk Q_HB
     have hc0_ : w'.cell? ⟨gb771, 0, none⟩ = some (.bool t774) := (blk_cell BK771.out 0).trans rfl
     have hc1_ : w'.cell? ⟨gb771, 1, none⟩ = some (.int .u64 t775) := (blk_cell BK771.out 1).trans rfl
     have hc2_ : w'.cell? ⟨gb771, 2, none⟩ = some (.int .u64 t776) := (blk_cell BK771.out 2).trans rfl
     refine value_ (w1 := w') (v := .int .u64 t775) (by rfl) rfl ?_ ?_
     ·go_simp
      (try simp only [i64_w])
      try rfl
     refine hK.out _ _ ⟨v784, v788, (by rw [ha.out]; exact putSel_upk 0 hb_ rfl rfl rfl), Q_BK771, Q_BK772, Q_BK773, Q_HB, fun h0_ => absurd ((hoff 4 (by kernel_rfl)).symm.trans h0_) (by decide), Q_HO789, fun h0_ => absurd ((hoff 13 (by kernel_rfl)).symm.trans h0_) (by decide)⟩
    refine steps_cons ?_ ?_
    ·rintro b a w' ⟨v784, v788, ha, Q_BK771, Q_BK772, Q_BK773, Q_HB, Q_HO785, Q_HO789, Q_BK773_e13⟩ hb_ hon hoff
     refine ⟨_, rfl, fun K hK => ?_⟩
     have e18 : a.tmps[18]? = some (.pointer (some ⟨gb772, 1, none⟩)) := by rw [ha]; exact (putSel_off rfl).trans rfl
     replace ha := Aside0.mk ha
     have BK771 := Aside0.mk Q_BK771
     have BK772 := Aside0.mk Q_BK772
     have BK773 := Aside0.mk (Q_BK773 (hoff 13 (by kernel_rfl)))
     have HB := Aside0.mk Q_HB
     have hc0_ : w'.cell? ⟨gb772, 0, none⟩ = some (.bool t777) := (blk_cell BK772.out 0).trans rfl
     have hc1_ : w'.cell? ⟨gb772, 1, none⟩ = some (.int .u64 t778) := (blk_cell BK772.out 1).trans rfl
     have hc2_ : w'.cell? ⟨gb772, 2, none⟩ = some (.int .u64 t779) := (blk_cell BK772.out 2).trans rfl
     refine value_ (w1 := w') (v := .int .u64 t778) (by rfl) rfl ?_ ?_
     ·go_simp
      (try simp only [i64_w])
      try rfl
     refine hK.out _ _ ⟨v784, v788, (by rw [ha.out]; exact putSel_upk 1 hb_ rfl rfl rfl), Q_BK771, Q_BK772, Q_BK773, Q_HB, fun h0_ => absurd ((hoff 4 (by kernel_rfl)).symm.trans h0_) (by decide), Q_HO789, fun h0_ => absurd ((hoff 13 (by kernel_rfl)).symm.trans h0_) (by decide)⟩
    refine steps_cons ?_ ?_
    ·rintro b a w' ⟨v784, v788, ha, Q_BK771, Q_BK772, Q_BK773, Q_HB, Q_HO785, Q_HO789, Q_BK773_e13⟩ hb_ hon hoff
     refine ⟨_, rfl, fun K hK => ?_⟩
     have e17 : a.tmps[17]? = some (.int .u64 t775) := by rw [ha]; exact putSel_on (e := (1, 17, .int .u64 t775)) 0 rfl rfl (hon 1 (by kernel_rfl)) rfl
     have e19 : a.tmps[19]? = some (.int .u64 t778) := by rw [ha]; exact putSel_on (e := (3, 19, .int .u64 t778)) 1 rfl rfl (hon 3 (by kernel_rfl)) rfl
     replace ha := Aside0.mk ha
     have BK771 := Aside0.mk Q_BK771
     have BK772 := Aside0.mk Q_BK772
     have BK773 := Aside0.mk (Q_BK773 (hoff 13 (by kernel_rfl)))
     have HB := Aside0.mk Q_HB
     refine Kd.R_lit_step (Kd.int .u64) _ 23 ?hg (N := 20) ?hd (xs := ([t775, t778] : List Int)) (inner := [.int .u64 t775, .int .u64 t778]) (ok := fun _ => True) (okp := fun _ => True) ?hr ?hp (fun _ hk => hk) trivial (Below.refl _ _) (Nat.le_refl _) (by simp) ?_; (case hd => rfl); (case hg => rfl); (case hr => first | (go_simp; done) | (go_simp; rfl)); (case hp => exact (Reps.one (show Kd.M (Kd.int .u64) _ _ _ t775 [.int .u64 t775] from rfl) (Reps.one (show Kd.M (Kd.int .u64) _ _ _ t778 [.int .u64 t778] from rfl) (Reps.none _ _))))
     intro v784 w37 ho38 hb hg_ hnew_
     clear hg_ hnew_
     (first | rw [← Ny783.out] at ho38 | (simp only [Int.reduceToNat] at ho38; rw [← Ny783.out] at ho38))
     have n0_ := Aside0.mk (Kd.R_lower ho38 (below_size zaB))
     have n1_ := Aside0.mk (blk_below (g := gb771) (o := .cells #[.bool t774, .int .u64 t775, .int .u64 t776] 43 (0, 0)) (zkq BK771) hb)
     have n2_ := Aside0.mk (blk_below (g := gb772) (o := .cells #[.bool t777, .int .u64 t778, .int .u64 t779] 43 (0, 0)) (zkq BK772) hb)
     have n3_ := Aside0.mk (blk_below (g := gb773) (o := .cells #[.bool false, .int .u64 0, .int .u64 0] 43 (0, 0)) (zkq BK773) hb)
     have n4_ := Aside0.mk (below_step zaB hb)
     have z_HO789 := fun (h0_ : b 10 = true) => (show Kd.R (Kd.int .u64) 23 w37 w.heap.size (fun _ => True) v788 y787 from by first | exact (Kd.R_elder' (by (with_reducible repeat (first | apply Kd.R_alloc | apply Kd.R_drewN | apply Kd.R_drew)); exact (Q_HO789 h0_)) (Kd.R_base ho38) hb) | exact Kd.R_mono (Kd.R_elder' (by (with_reducible repeat (first | apply Kd.R_alloc | apply Kd.R_drewN | apply Kd.R_drew)); exact (Q_HO789 h0_)) (Kd.R_base ho38) hb) (fun _ h_ => by first | trivial | exact h_ | exact h_.1))
     clear BK771
     clear BK772
     clear BK773
     clear HB
     have HO785 := n0_
     have BK771 := n1_
     have BK772 := n2_
     have BK773 := n3_
     have HB := n4_
     clear n0_ n1_ n2_ n3_ n4_
     clear hb ho38
     refine hK.out _ _ ⟨v784, v788, (by rw [ha.out]; exact putSel_upk 2 hb_ rfl rfl rfl), (zkq BK771), (zkq BK772), fun _ => (zkq BK773), zaB, fun _ => (zRW HO785.out), z_HO789, fun h0_ => absurd ((hoff 13 (by kernel_rfl)).symm.trans h0_) (by decide)⟩
    refine steps_cons ?_ ?_
    ·rintro b a w' ⟨v784, v788, ha, Q_BK771, Q_BK772, Q_BK773, Q_HB, Q_HO785, Q_HO789, Q_BK773_e13⟩ hb_ hon hoff
     refine ⟨_, rfl, fun K hK => ?_⟩
     have e20 : a.tmps[20]? = some (v784) := by rw [ha]; exact putSel_on (e := (4, 20, v784)) 2 rfl rfl (hon 4 (by kernel_rfl)) rfl
     replace ha := Aside0.mk ha
     have BK771 := Aside0.mk Q_BK771
     have BK772 := Aside0.mk Q_BK772
     have BK773 := Aside0.mk (Q_BK773 (hoff 13 (by kernel_rfl)))
     have HB := Aside0.mk Q_HB
     have HO785 := Aside0.mk (Q_HO785 (hon 4 (by kernel_rfl)))
     obtain ⟨Ao40, co40, eo40⟩ := Kd.R_slice HO785.out
     (first | subst eo40 | (injection eo40 with f1_ f2_ f3_; have f4_ := f1_.symm; have f5_ := f3_.symm; clear f1_ f2_ f3_; subst f4_; subst f5_))
     refine goes_ Try.func120 (by kernel_rfl) rfl #[.slice Ao40 y783.length co40] (by rfl) rfl rfl (by first | (simp only [List.map_toArray, List.map_cons, List.map_nil, Act.eval, Array.getD_eq_getD_getElem?, Option.getD_some, e20]; done) | (simp only [List.map_toArray, List.map_cons, List.map_nil, Act.eval, Array.getD_eq_getD_getElem?, Option.getD_some, e20]; rfl)) ?_
     with_reducible refine (pattern_Max.calls kj4 _ _ y783 t786 _ ?side1 ?side2 A33.out).mono ?_
     (case side1 => repeat (first | exact (Kd.R_reads' HO785.out).2.2 | (with_reducible refine Kd.C_alloc ?_ _) | (with_reducible refine Kd.C_drewN ?_ _) | (with_reducible refine Kd.C_drew ?_)))
     (case side2 => exact (Kd.R_reads' HO785.out).2.1)
     rintro e w41 ⟨rfl, hb⟩
     refine ⟨_, rfl, ?_⟩
     have n0_ := Aside0.mk (Kd.R_below (zRW HO785.out) hb)
     have n1_ := Aside0.mk (blk_below (g := gb771) (o := .cells #[.bool t774, .int .u64 t775, .int .u64 t776] 43 (0, 0)) (zkq BK771) hb)
     have n2_ := Aside0.mk (blk_below (g := gb772) (o := .cells #[.bool t777, .int .u64 t778, .int .u64 t779] 43 (0, 0)) (zkq BK772) hb)
     have n3_ := Aside0.mk (blk_below (g := gb773) (o := .cells #[.bool false, .int .u64 0, .int .u64 0] 43 (0, 0)) (zkq BK773) hb)
     have n4_ := Aside0.mk (below_step zaB hb)
     have z_HO789 := fun (h0_ : b 10 = true) => (show Kd.R (Kd.int .u64) 23 w41 w.heap.size (fun _ => True) v788 y787 from by first | exact (Kd.R_below (by (with_reducible repeat (first | apply Kd.R_alloc | apply Kd.R_drewN | apply Kd.R_drew)); exact (Q_HO789 h0_)) hb) | exact Kd.R_mono (Kd.R_below (by (with_reducible repeat (first | apply Kd.R_alloc | apply Kd.R_drewN | apply Kd.R_drew)); exact (Q_HO789 h0_)) hb) (fun _ h_ => by first | trivial | exact h_ | exact h_.1))
     clear HO785
     clear BK771
     clear BK772
     clear BK773
     clear HB
     have HO785 := n0_
     have BK771 := n1_
     have BK772 := n2_
     have BK773 := n3_
     have HB := n4_
     clear n0_ n1_ n2_ n3_ n4_
     (try clear hb)
     refine hK.out _ _ ⟨.slice Ao40 y783.length co40, v788, (by rw [ha.out]; exact putSel_upk 3 hb_ rfl rfl rfl), (zkq BK771), (zkq BK772), fun _ => (zkq BK773), zaB, fun _ => (zRW HO785.out), z_HO789, fun h0_ => absurd ((hoff 13 (by kernel_rfl)).symm.trans h0_) (by decide)⟩
    refine steps_cons ?_ ?_
    ·rintro b a w' ⟨v784, v788, ha, Q_BK771, Q_BK772, Q_BK773, Q_HB, Q_HO785, Q_HO789, Q_BK773_e13⟩ hb_ hon hoff
     refine ⟨_, rfl, fun K hK => ?_⟩
     have e22 : a.tmps[22]? = some (.pointer (some ⟨gb771, 2, none⟩)) := by rw [ha]; exact (putSel_off rfl).trans rfl
     replace ha := Aside0.mk ha
     have BK771 := Aside0.mk Q_BK771
     have BK772 := Aside0.mk Q_BK772
     have BK773 := Aside0.mk (Q_BK773 (hoff 13 (by kernel_rfl)))
     have HB := Aside0.mk Q_HB
     have hc0_ : w'.cell? ⟨gb771, 0, none⟩ = some (.bool t774) := (blk_cell BK771.out 0).trans rfl
     have hc1_ : w'.cell? ⟨gb771, 1, none⟩ = some (.int .u64 t775) := (blk_cell BK771.out 1).trans rfl
     have hc2_ : w'.cell? ⟨gb771, 2, none⟩ = some (.int .u64 t776) := (blk_cell BK771.out 2).trans rfl
     refine value_ (w1 := w') (v := .int .u64 t776) (by rfl) rfl ?_ ?_
     ·go_simp
      (try simp only [i64_w])
      try rfl
     refine hK.out _ _ ⟨v784, v788, (by rw [ha.out]; exact putSel_upk 4 hb_ rfl rfl rfl), Q_BK771, Q_BK772, Q_BK773, Q_HB, Q_HO785, fun h0_ => absurd ((hoff 10 (by kernel_rfl)).symm.trans h0_) (by decide), fun h0_ => absurd ((hoff 13 (by kernel_rfl)).symm.trans h0_) (by decide)⟩
    refine steps_cons ?_ ?_
    ·rintro b a w' ⟨v784, v788, ha, Q_BK771, Q_BK772, Q_BK773, Q_HB, Q_HO785, Q_HO789, Q_BK773_e13⟩ hb_ hon hoff
     refine ⟨_, rfl, fun K hK => ?_⟩
     have e24 : a.tmps[24]? = some (.pointer (some ⟨gb772, 2, none⟩)) := by rw [ha]; exact (putSel_off rfl).trans rfl
     replace ha := Aside0.mk ha
     have BK771 := Aside0.mk Q_BK771
     have BK772 := Aside0.mk Q_BK772
     have BK773 := Aside0.mk (Q_BK773 (hoff 13 (by kernel_rfl)))
     have HB := Aside0.mk Q_HB
     have hc0_ : w'.cell? ⟨gb772, 0, none⟩ = some (.bool t777) := (blk_cell BK772.out 0).trans rfl
     have hc1_ : w'.cell? ⟨gb772, 1, none⟩ = some (.int .u64 t778) := (blk_cell BK772.out 1).trans rfl
     have hc2_ : w'.cell? ⟨gb772, 2, none⟩ = some (.int .u64 t779) := (blk_cell BK772.out 2).trans rfl
     refine value_ (w1 := w') (v := .int .u64 t779) (by rfl) rfl ?_ ?_
     ·go_simp
      (try simp only [i64_w])
      try rfl
     refine hK.out _ _ ⟨v784, v788, (by rw [ha.out]; exact putSel_upk 5 hb_ rfl rfl rfl), Q_BK771, Q_BK772, Q_BK773, Q_HB, Q_HO785, fun h0_ => absurd ((hoff 10 (by kernel_rfl)).symm.trans h0_) (by decide), fun h0_ => absurd ((hoff 13 (by kernel_rfl)).symm.trans h0_) (by decide)⟩
    refine steps_cons ?_ ?_
    ·rintro b a w' ⟨v784, v788, ha, Q_BK771, Q_BK772, Q_BK773, Q_HB, Q_HO785, Q_HO789, Q_BK773_e13⟩ hb_ hon hoff
     refine ⟨_, rfl, fun K hK => ?_⟩
     have e23 : a.tmps[23]? = some (.int .u64 t776) := by rw [ha]; exact putSel_on (e := (7, 23, .int .u64 t776)) 4 rfl rfl (hon 7 (by kernel_rfl)) rfl
     have e25 : a.tmps[25]? = some (.int .u64 t779) := by rw [ha]; exact putSel_on (e := (9, 25, .int .u64 t779)) 5 rfl rfl (hon 9 (by kernel_rfl)) rfl
     replace ha := Aside0.mk ha
     have BK771 := Aside0.mk Q_BK771
     have BK772 := Aside0.mk Q_BK772
     have BK773 := Aside0.mk (Q_BK773 (hoff 13 (by kernel_rfl)))
     have HB := Aside0.mk Q_HB
     refine Kd.R_lit_step (Kd.int .u64) _ 23 ?hg (N := 26) ?hd (xs := ([t776, t779] : List Int)) (inner := [.int .u64 t776, .int .u64 t779]) (ok := fun _ => True) (okp := fun _ => True) ?hr ?hp (fun _ hk => hk) trivial (Below.refl _ _) (Nat.le_refl _) (by simp) ?_; (case hd => rfl); (case hg => rfl); (case hr => first | (go_simp; done) | (go_simp; rfl)); (case hp => exact (Reps.one (show Kd.M (Kd.int .u64) _ _ _ t776 [.int .u64 t776] from rfl) (Reps.one (show Kd.M (Kd.int .u64) _ _ _ t779 [.int .u64 t779] from rfl) (Reps.none _ _))))
     intro v788 w37 ho38 hb hg_ hnew_
     clear hg_ hnew_
     (first | rw [← Ny787.out] at ho38 | (simp only [Int.reduceToNat] at ho38; rw [← Ny787.out] at ho38))
     have n0_ := Aside0.mk (Kd.R_lower ho38 (below_size zaB))
     have n1_ := Aside0.mk (blk_below (g := gb771) (o := .cells #[.bool t774, .int .u64 t775, .int .u64 t776] 43 (0, 0)) (zkq BK771) hb)
     have n2_ := Aside0.mk (blk_below (g := gb772) (o := .cells #[.bool t777, .int .u64 t778, .int .u64 t779] 43 (0, 0)) (zkq BK772) hb)
     have n3_ := Aside0.mk (blk_below (g := gb773) (o := .cells #[.bool false, .int .u64 0, .int .u64 0] 43 (0, 0)) (zkq BK773) hb)
     have n4_ := Aside0.mk (below_step zaB hb)
     have z_HO785 := fun (h0_ : b 4 = true) => (show Kd.R (Kd.int .u64) 23 w37 w.heap.size (fun _ => True) v784 y783 from by first | exact (Kd.R_elder' (by (with_reducible repeat (first | apply Kd.R_alloc | apply Kd.R_drewN | apply Kd.R_drew)); exact (Q_HO785 h0_)) (Kd.R_base ho38) hb) | exact Kd.R_mono (Kd.R_elder' (by (with_reducible repeat (first | apply Kd.R_alloc | apply Kd.R_drewN | apply Kd.R_drew)); exact (Q_HO785 h0_)) (Kd.R_base ho38) hb) (fun _ h_ => by first | trivial | exact h_ | exact h_.1))
     clear BK771
     clear BK772
     clear BK773
     clear HB
     have HO789 := n0_
     have BK771 := n1_
     have BK772 := n2_
     have BK773 := n3_
     have HB := n4_
     clear n0_ n1_ n2_ n3_ n4_
     clear hb ho38
     refine hK.out _ _ ⟨v784, v788, (by rw [ha.out]; exact putSel_upk 6 hb_ rfl rfl rfl), (zkq BK771), (zkq BK772), fun _ => (zkq BK773), zaB, z_HO785, fun _ => (zRW HO789.out), fun h0_ => absurd ((hoff 13 (by kernel_rfl)).symm.trans h0_) (by decide)⟩
    refine steps_cons ?_ ?_
    ·rintro b a w' ⟨v784, v788, ha, Q_BK771, Q_BK772, Q_BK773, Q_HB, Q_HO785, Q_HO789, Q_BK773_e13⟩ hb_ hon hoff
     refine ⟨_, rfl, fun K hK => ?_⟩
     have e26 : a.tmps[26]? = some (v788) := by rw [ha]; exact putSel_on (e := (10, 26, v788)) 6 rfl rfl (hon 10 (by kernel_rfl)) rfl
     replace ha := Aside0.mk ha
     have BK771 := Aside0.mk Q_BK771
     have BK772 := Aside0.mk Q_BK772
     have BK773 := Aside0.mk (Q_BK773 (hoff 13 (by kernel_rfl)))
     have HB := Aside0.mk Q_HB
     have HO785 := Aside0.mk (Q_HO785 (hon 4 (by kernel_rfl)))
     have HO789 := Aside0.mk (Q_HO789 (hon 10 (by kernel_rfl)))
     obtain ⟨Ao44, co44, eo44⟩ := Kd.R_slice HO789.out
     (first | subst eo44 | (injection eo44 with f1_ f2_ f3_; have f4_ := f1_.symm; have f5_ := f3_.symm; clear f1_ f2_ f3_; subst f4_; subst f5_))
     refine goes_ Try.func119 (by kernel_rfl) rfl #[.slice Ao44 y787.length co44] (by rfl) rfl rfl (by first | (simp only [List.map_toArray, List.map_cons, List.map_nil, Act.eval, Array.getD_eq_getD_getElem?, Option.getD_some, e26]; done) | (simp only [List.map_toArray, List.map_cons, List.map_nil, Act.eval, Array.getD_eq_getD_getElem?, Option.getD_some, e26]; rfl)) ?_
     with_reducible refine (pattern_Min.calls kj4 _ _ y787 t790 _ ?side1 ?side2 A34.out).mono ?_
     (case side1 => repeat (first | exact (Kd.R_reads' HO789.out).2.2 | (with_reducible refine Kd.C_alloc ?_ _) | (with_reducible refine Kd.C_drewN ?_ _) | (with_reducible refine Kd.C_drew ?_)))
     (case side2 => exact (Kd.R_reads' HO789.out).2.1)
     rintro e w45 ⟨rfl, hb⟩
     refine ⟨_, rfl, ?_⟩
     replace HO785 := Aside0.mk (Kd.R_below (zRW HO785.out) hb)
     replace HO789 := Aside0.mk (Kd.R_below (zRW HO789.out) hb)
     refine zcn3 HB BK771 BK772 BK773 hb (c := ?_)
     clear HB BK771 BK772 BK773 hb
     intro BK771 BK772 BK773 HB
     refine hK.out _ _ ⟨v784, .slice Ao44 y787.length co44, (by rw [ha.out]; exact putSel_upk 7 hb_ rfl rfl rfl), (zkq BK771), (zkq BK772), fun _ => (zkq BK773), zaB, fun _ => (zRW HO785.out), fun _ => (zRW HO789.out), fun h0_ => absurd ((hoff 13 (by kernel_rfl)).symm.trans h0_) (by decide)⟩
    refine steps_cons ?_ ?_
    ·rintro b a w' ⟨v784, v788, ha, Q_BK771, Q_BK772, Q_BK773, Q_HB, Q_HO785, Q_HO789, Q_BK773_e13⟩ hb_ hon hoff
     refine ⟨_, rfl, fun K hK => ?_⟩
     have e21 : a.tmps[21]? = some (.int .u64 t786) := by rw [ha]; exact putSel_on (e := (5, 21, .int .u64 t786)) 3 rfl rfl (hon 5 (by kernel_rfl)) rfl
     have e27 : a.tmps[27]? = some (.int .u64 t790) := by rw [ha]; exact putSel_on (e := (11, 27, .int .u64 t790)) 7 rfl rfl (hon 11 (by kernel_rfl)) rfl
     replace ha := Aside0.mk ha
     have BK771 := Aside0.mk Q_BK771
     have BK772 := Aside0.mk Q_BK772
     have BK773 := Aside0.mk (Q_BK773 (hoff 13 (by kernel_rfl)))
     have HB := Aside0.mk Q_HB
     have HO785 := Aside0.mk (Q_HO785 (hon 4 (by kernel_rfl)))
     have HO789 := Aside0.mk (Q_HO789 (hon 10 (by kernel_rfl)))
     refine goes_ Try.func37 (by kernel_rfl) rfl #[.int .u64 t786, .int .u64 t790] (by rfl) rfl rfl (by first | (simp only [List.map_toArray, List.map_cons, List.map_nil, Act.eval, Array.getD_eq_getD_getElem?, Option.getD_some, e21, e27]; done) | (simp only [List.map_toArray, List.map_cons, List.map_nil, Act.eval, Array.getD_eq_getD_getElem?, Option.getD_some, e21, e27]; rfl)) ?_
     with_reducible refine (span_Make.calls kj4 t786 t790 t791 t792 t793 _ A35.out).mono ?_
     rintro e w46 ⟨rfl, hb⟩
     refine ⟨_, rfl, ?_⟩
     replace HO785 := Aside0.mk (Kd.R_below (zRW HO785.out) hb)
     replace HO789 := Aside0.mk (Kd.R_below (zRW HO789.out) hb)
     refine zcn3 HB BK771 BK772 BK773 hb (c := ?_)
     clear HB BK771 BK772 BK773 hb
     intro BK771 BK772 BK773 HB
     refine hK.out _ _ ⟨v784, v788, (by rw [ha.out]; exact putSel_upk 8 hb_ rfl rfl rfl), (zkq BK771), (zkq BK772), fun _ => (zkq BK773), zaB, fun _ => (zRW HO785.out), fun _ => (zRW HO789.out), fun h0_ => absurd ((hoff 13 (by kernel_rfl)).symm.trans h0_) (by decide)⟩
    refine steps_cons ?_ ?_
    ·rintro b a w' ⟨v784, v788, ha, Q_BK771, Q_BK772, Q_BK773, Q_HB, Q_HO785, Q_HO789, Q_BK773_e13⟩ hb_ hon hoff
     refine ⟨_, rfl, fun K hK => ?_⟩
     have e4 : a.tmps[4]? = some (.pointer (some ⟨gb773, 0, none⟩)) := by rw [ha]; exact (putSel_off rfl).trans rfl
     have e28 : a.tmps[28]? = some (.agg #[.bool t791, .int .u64 t792, .int .u64 t793]) := by rw [ha]; exact putSel_on (e := (12, 28, .agg #[.bool t791, .int .u64 t792, .int .u64 t793])) 8 rfl rfl (hon 12 (by kernel_rfl)) rfl
     replace ha := Aside0.mk ha
     have BK771 := Aside0.mk Q_BK771
     have BK772 := Aside0.mk Q_BK772
     have BK773 := Aside0.mk (Q_BK773 hb_)
     have HB := Aside0.mk Q_HB
     have HO785 := Aside0.mk (Q_HO785 (hon 4 (by kernel_rfl)))
     have HO789 := Aside0.mk (Q_HO789 (hon 10 (by kernel_rfl)))
     have hs47 : w'.cell? ⟨gb773, 0, none⟩ = some (.bool false) := (blk_cell BK773.out 0).trans rfl
     have hfs47 := blk_frozen BK773.out 0
     refine zt2 NB771_773 NB772_773 fun _ _ _ _ => ?_
     have hs48 : w'.cell? ⟨gb773, 1, none⟩ = some (.int .u64 0) := (blk_cell BK773.out 1).trans rfl
     have hfs48 := blk_frozen BK773.out 1
     refine zt2 NB771_773 NB772_773 fun _ _ _ _ => ?_
     have hs49 : w'.cell? ⟨gb773, 2, none⟩ = some (.int .u64 0) := (blk_cell BK773.out 2).trans rfl
     have hfs49 := blk_frozen BK773.out 2
     refine zt2 NB771_773 NB772_773 fun _ _ _ _ => ?_
     refine skip_ (w1 := ?_) (by rfl) rfl ?_ ?_
     rotate_left
     ·go_simp
      rfl
     refine hK.out _ _ ⟨v784, v788, (by rw [ha.out]; exact putSel_none (v := undef) rfl), (zkf (zkf (zkf (zkq BK771) NB771_773.out _) NB771_773.out _) NB771_773.out _), (zkf (zkf (zkf (zkq BK772) NB772_773.out _) NB772_773.out _) NB772_773.out _), fun h0_ => absurd ((up_self b 13).symm.trans h0_) (by decide), zaB, fun _ => (by (with_reducible repeat (first | apply Kd.R_alloc | apply Kd.R_drewN | apply Kd.R_drew)); exact Kd.R_mono (Kd.R_far (p := ⟨gb773, 2, none⟩) (Kd.R_far (p := ⟨gb773, 1, none⟩) (Kd.R_far (p := ⟨gb773, 0, none⟩) (Kd.R_types HO785.out BK773.out (by decide)) (fun _ hk => hk.2) (.bool t791)) (fun _ hk => hk.2) (.int .u64 t792)) (fun _ hk => hk.2) (.int .u64 t793)) (fun _ hk => hk.1)), fun _ => (by (with_reducible repeat (first | apply Kd.R_alloc | apply Kd.R_drewN | apply Kd.R_drew)); exact Kd.R_mono (Kd.R_far (p := ⟨gb773, 2, none⟩) (Kd.R_far (p := ⟨gb773, 1, none⟩) (Kd.R_far (p := ⟨gb773, 0, none⟩) (Kd.R_types HO789.out BK773.out (by decide)) (fun _ hk => hk.2) (.bool t791)) (fun _ hk => hk.2) (.int .u64 t792)) (fun _ hk => hk.2) (.int .u64 t793)) (fun _ hk => hk.1)), fun _ => (blk_put (cs := #[.bool t791, .int .u64 t792, .int .u64 0]) (blk_put (cs := #[.bool t791, .int .u64 0, .int .u64 0]) (blk_put (zkq BK773) 0 _ rfl) 1 _ rfl) 2 _ rfl)⟩
    exact steps_nil
   rintro b a w49 hall ⟨v784, v788, ha, Q_BK771, Q_BK772, Q_BK773, Q_HB, Q_HO785, Q_HO789, Q_BK773_e13⟩
   clear BK771 BK772 BK773 HB
   have hb1_ := hall 1 (by kernel_rfl)
   have hb3_ := hall 3 (by kernel_rfl)
   have hb4_ := hall 4 (by kernel_rfl)
   have hb5_ := hall 5 (by kernel_rfl)
   have hb7_ := hall 7 (by kernel_rfl)
   have hb9_ := hall 9 (by kernel_rfl)
   have hb10_ := hall 10 (by kernel_rfl)
   have hb11_ := hall 11 (by kernel_rfl)
   have hb12_ := hall 12 (by kernel_rfl)
   have hb13_ := hall 13 (by kernel_rfl)
   subst ha
   simp only [putSel, hb1_, hb3_, hb4_, hb5_, hb7_, hb9_, hb10_, hb11_, hb12_, hb13_, if_true, Act.put, List.setIfInBounds_toArray, List.set_cons_zero, List.set_cons_succ]
   have BK771 := Aside0.mk Q_BK771
   clear Q_BK771
   have BK772 := Aside0.mk Q_BK772
   clear Q_BK772
   clear Q_BK773
   have HB := Aside0.mk Q_HB
   clear Q_HB
   have HO785 := Aside0.mk (Q_HO785 hb4_)
   clear Q_HO785
   have HO789 := Aside0.mk (Q_HO789 hb10_)
   clear Q_HO789
   have BK773 := Aside0.mk (Q_BK773_e13 hb13_)
   clear Q_BK773_e13
   clear hall hb1_ hb3_ hb4_ hb5_ hb7_ hb9_ hb10_ hb11_ hb12_ hb13_
   try go_wp2
   refine bodyPost_ret (results_cell_row rfl _ _ gb773 43 #[.bool t791, .int .u64 t792, .int .u64 t793] (0, 0) _ rfl (zkq BK773) Try.underlying43 rfl (by kernel_rfl)) rfl ?_
   exact ⟨zaE, zaB⟩
theorem pattern_Next.calls (k : Nat) (a0 : Int) (r : Int) (w : World) (h : pattern_Next.f k a0 = some r) :
  Calls Try.prog 72 #[.int .u64 a0] w fun e w' => e = .returned (.int .u64 r) ∧ Drawn0 w w' := by
 have H := h
 unfold pattern_Next.f at H
 clear h
 obtain ⟨t826, A2, H⟩ := zbs H
 try dsimp only at H
 have HC3 := Aside0.mk H
 clear H
 go_enter Try.func72, Try.ntmps72
 go_upto_if 3 with (first | ((with_reducible refine gtc 109 rfl ?_); refine zgL 5 Try.func109 (pattern_nan.calls k a0 t826 _ A2.out) (h := ?_); rintro w' ⟨nd, rfl⟩))
 (try simp only [Act.put, List.setIfInBounds_toArray, List.set_cons_zero, List.set_cons_succ])
 go_cut [3] (fun v3 wc => ∃ (kq : Nat) (x3_2 : Bool), v3 = .bool x3_2 ∧ Aside0 (pattern_Next.j0 kq a0 x3_2 = some r) ∧ Aside0 (kq ≤ k) ∧ Drawn0 w wc)
 case first =>
  have H := HC3.out
  clear HC3
  by_cases c4 : t826 = true
  ·subst c4
   replace H := zit H
   have H' := Aside0.mk H
   clear H
   go_wp2
   go_meet
   case rel => exact ⟨_, (true), zrl, H', ⟨zle⟩, by repeat (first | exact Drawn0.refl _ | apply Drawn0.step)⟩
  replace c4 := Bool.eq_false_iff.mpr c4
  subst c4
  replace H := zif H
  obtain ⟨t827, A5, H⟩ := zbs H
  try dsimp only at H
  have H' := Aside0.mk H
  clear H
  go_wp2_with (first | ((with_reducible refine gtc 79 rfl ?_); refine zgL 7 Try.func79 (pattern_Inf.calls k false t827 _ A5.out) (h := ?_); rintro w' ⟨nd, rfl⟩))
  go_meet
  case rel => exact ⟨_, ((a0 == t827)), zrl, H', ⟨zle⟩, by repeat (first | exact Drawn0.refl _ | apply Drawn0.step)⟩
 case rest =>
  clear HC3
  obtain ⟨kq, x3_2, rfl, HA, HJ2, ⟨mc2, rfl⟩⟩ := hcut
  cases kq with
  | zero => exact absurd HA.out (by simp [pattern_Next.j0])
  | succ kj2 =>
   have H := HA.out
   clear HA
   simp only [pattern_Next.j0] at H
   by_cases c6 : x3_2 = true
   ·subst c6
    replace H := zit H
    obtain rfl := Option.some.inj H
    go_wp2
    go_ret
    exact ⟨by first | rfl | (simp; done) | (simp [*]; done), by repeat (first | exact Drawn0.refl _ | apply Drawn0.step)⟩
   replace c6 := Bool.eq_false_iff.mpr c6
   subst c6
   replace H := zif H
   obtain ⟨t828, A7, H⟩ := zbs H
   try dsimp only at H
   by_cases c8 : t828 = 0
   ·rw [if_pos c8] at H
    have c8b0 : (t828 == 0) = true := beq_iff_eq.mpr c8
    have c8b1 : (t828 != 0) = false := bne_eq_false_iff_eq.mpr c8
    clear c8
    obtain rfl := Option.some.inj H
    go_wp2_with (first | ((with_reducible refine gtc 110 rfl ?_); refine zgL 12 Try.func110 (pattern_key.calls a0 t828 _ A7.out) (h := ?_); rintro w' ⟨nd, rfl⟩))
    go_ret
    exact ⟨by first | rfl | (simp; done) | (simp [*]; done), by repeat (first | exact Drawn0.refl _ | apply Drawn0.step)⟩
   rw [if_neg c8] at H
   have c8b0 : (t828 == 0) = false := beq_eq_false_iff_ne.mpr c8
   have c8b1 : (t828 != 0) = true := bne_iff_ne.mpr c8
   by_cases c9 : (a0 / 9223372036854775808) = 1
   ·rw [if_pos c9] at H
    have c9b0 : ((a0 / 9223372036854775808) == 1) = true := beq_iff_eq.mpr c9
    have c9b1 : ((a0 / 9223372036854775808) != 1) = false := bne_eq_false_iff_eq.mpr c9
    clear c9
    obtain rfl := Option.some.inj H
    go_wp2_with (first | ((with_reducible refine gtc 110 rfl ?_); refine zgL 12 Try.func110 (pattern_key.calls a0 t828 _ A7.out) (h := ?_); rintro w' ⟨nd, rfl⟩))
    go_ret
    exact ⟨by first | rfl | (simp; done) | (simp [*]; done), by repeat (first | exact Drawn0.refl _ | apply Drawn0.step)⟩
   rw [if_neg c9] at H
   have c9b0 : ((a0 / 9223372036854775808) == 1) = false := beq_eq_false_iff_ne.mpr c9
   have c9b1 : ((a0 / 9223372036854775808) != 1) = true := bne_iff_ne.mpr c9
   obtain rfl := Option.some.inj H
   go_wp2_with (first | ((with_reducible refine gtc 110 rfl ?_); refine zgL 12 Try.func110 (pattern_key.calls a0 t828 _ A7.out) (h := ?_); rintro w' ⟨nd, rfl⟩))
   go_ret
   exact ⟨by first | rfl | (simp; done) | (simp [*]; done), by repeat (first | exact Drawn0.refl _ | apply Drawn0.step)⟩
theorem pattern_Neg.calls (k : Nat) (a0 : Int) (r : Int) (w : World) (h : pattern_Neg.f k a0 = some r) :
  Calls Try.prog 32 #[.int .u64 a0] w fun e w' => e = .returned (.int .u64 r) ∧ Drawn0 w w' := by
 have H := h
 unfold pattern_Neg.f at H
 clear h
 obtain ⟨t225, A2, H⟩ := zbs H
 try dsimp only at H
 by_cases c3 : t225 = true
 ·subst c3
  replace H := zit H
  obtain rfl := Option.some.inj H
  go_enter Try.func32, Try.ntmps32
  go_wp2_with (first | ((with_reducible refine gtc 109 rfl ?_); refine zgL 4 Try.func109 (pattern_nan.calls k a0 true _ A2.out) (h := ?_); rintro w' ⟨nd, rfl⟩))
  go_ret
  exact ⟨by first | rfl | (simp; done) | (simp [*]; done), by repeat (first | exact Drawn0.refl _ | apply Drawn0.step)⟩
 replace c3 := Bool.eq_false_iff.mpr c3
 subst c3
 replace H := zif H
 obtain rfl := Option.some.inj H
 go_enter Try.func32, Try.ntmps32
 go_wp2_with (first | ((with_reducible refine gtc 109 rfl ?_); refine zgL 4 Try.func109 (pattern_nan.calls k a0 false _ A2.out) (h := ?_); rintro w' ⟨nd, rfl⟩))
 go_ret
 exact ⟨by first | rfl | (simp; done) | (simp [*]; done), by repeat (first | exact Drawn0.refl _ | apply Drawn0.step)⟩
theorem pattern_Prev.calls (k : Nat) (a0 : Int) (r : Int) (w : World) (h : pattern_Prev.f k a0 = some r) :
  Calls Try.prog 168 #[.int .u64 a0] w fun e w' => e = .returned (.int .u64 r) ∧ Drawn0 w w' := by
 have H := h
 unfold pattern_Prev.f at H
 clear h
 obtain ⟨t829, A2, H⟩ := zbs H
 try dsimp only at H
 obtain ⟨t830, A3, H⟩ := zbs H
 try dsimp only at H
 obtain ⟨t831, A4, H⟩ := zbs H
 try dsimp only at H
 obtain rfl := Option.some.inj H
 go_enter Try.func168, Try.ntmps168
 go_wp2_with (first | ((with_reducible refine gtc 32 rfl ?_); refine zgL 4 Try.func32 (pattern_Neg.calls k a0 t829 _ A2.out) (h := ?_); rintro w' ⟨nd, rfl⟩) | ((with_reducible refine gtc 72 rfl ?_); refine zgL 5 Try.func72 (pattern_Next.calls k t829 t830 _ A3.out) (h := ?_); rintro w' ⟨nd, rfl⟩) | ((with_reducible refine gtc 32 rfl ?_); refine zgL 6 Try.func32 (pattern_Neg.calls k t830 t831 _ A4.out) (h := ?_); rintro w' ⟨nd, rfl⟩))
 go_ret
 exact ⟨by first | rfl | (simp; done) | (simp [*]; done), by repeat (first | exact Drawn0.refl _ | apply Drawn0.step)⟩
theorem span_side.calls (k : Nat) (a0_0 : Bool) (a0_1 : Int) (a0_2 : Int) (a1 : Int) (a2 : Bool) (a3 : Bool) (r1 : Bool) (r2 : Int) (r3 : Int) (w : World) (h : span_side.f k a0_0 a0_1 a0_2 a1 a2 a3 = some (r1, r2, r3)) :
  Calls Try.prog 122 #[.agg #[.bool a0_0, .int .u64 a0_1, .int .u64 a0_2], .int .u64 a1, .bool a2, .bool a3] w fun e w' => e = .returned (.agg #[.bool r1, .int .u64 r2, .int .u64 r3]) ∧ Below w.heap.size w w' := by
 have hu43 := Try.underlying43
 have HB := Aside0.mk (Below.refl w.heap.size w)
 have H := h
 unfold span_side.f at H
 clear h
 obtain ⟨t834, A5, H⟩ := zbs H
 try dsimp only at H
 have HC6 := Aside0.mk H
 clear H
 go_enter Try.func122, Try.ntmps122
 go_upto_block 0 with (first | ((with_reducible refine gtd 4 rfl ?_); refine zbx 4 #[.bool a0_0, .int .u64 a0_1, .int .u64 a0_2] 43 (h := ?_); intro gb832 hg w7 hbox hb; have GW832 := zkZ hg (zaB (p := Below w.heap.size w _)); replace HB := Aside0.mk (below_step zaB hb); have BK832 := Aside0.mk (hbox); clear hb hbox hg) | ((with_reducible refine gtd 8 rfl ?_); refine zbx 8 #[.bool false, .int .u64 0, .int .u64 0] 43 (h := ?_); intro gb833 hg w8 hbox hb; refine zbn1 HB BK832 hg hb hbox (c := ?_); clear HB BK832 hb hbox hg; intro GW833 NB832_833 BK832 HB BK833) | ((with_reducible refine gtc 24 rfl ?_); refine zgL 11 Try.func24 (pattern_Class.calls k a1 t834 _ A5.out) (h := ?_); rintro w' ⟨nd, rfl⟩))
 (try simp only [Act.put, List.setIfInBounds_toArray, List.set_cons_zero, List.set_cons_succ])
 go_cut [1, 9] (fun v1 v9 wc => ∃ (kq : Nat) (x1_5 : Int), v1 = .int .u64 x1_5 ∧ v9 = .bool (t834 != 3) ∧ Aside0 (span_side.j1 kq x1_5 a2 a0_0 a0_1 a0_2 = some (r1, r2, r3)) ∧ Aside0 (kq ≤ k) ∧ Aside0 (wc.heap[gb832]? = some (.cells #[.bool a0_0, .int .u64 a0_1, .int .u64 a0_2] 43 (0, 0))) ∧ Aside0 (wc.heap[gb833]? = some (.cells #[.bool false, .int .u64 0, .int .u64 0] 43 (0, 0))) ∧ Aside0 (Below w.heap.size w wc))
 case first =>
  have H := HC6.out
  clear HC6
  have HC9 := Aside0.mk H
  clear H
  go_upto_region 2 with (fail)
  go_cut [13] (fun v13 wc => ∃ (kq : Nat) (x13_8 : Bool), v13 = .bool x13_8 ∧ Aside0 (span_side.j0 kq a1 a2 a3 (t834 != 3) x13_8 a0_0 a0_1 a0_2 = some (r1, r2, r3)) ∧ Aside0 (kq ≤ k) ∧ Aside0 (wc.heap[gb832]? = some (.cells #[.bool a0_0, .int .u64 a0_1, .int .u64 a0_2] 43 (0, 0))) ∧ Aside0 (wc.heap[gb833]? = some (.cells #[.bool false, .int .u64 0, .int .u64 0] 43 (0, 0))) ∧ Aside0 (Below w.heap.size w wc))
  case first =>
   have H := HC9.out
   clear HC9
   by_cases c10 : a2 = true
   ·subst c10
    replace H := zit H
    by_cases c11 : a3 = true
    ·subst c11
     replace H := zit H
     have H' := Aside0.mk H
     clear H
     go_wp2
     go_meet
     case rel => exact ⟨_, ((t834 != 3)), zrl, H', ⟨zle⟩, ⟨zkq BK832⟩, ⟨zkq BK833⟩, ⟨zaB⟩⟩
    replace c11 := Bool.eq_false_iff.mpr c11
    subst c11
    replace H := zif H
    have H' := Aside0.mk H
    clear H
    go_wp2
    go_meet
    case rel => exact ⟨_, (false), zrl, H', ⟨zle⟩, ⟨zkq BK832⟩, ⟨zkq BK833⟩, ⟨zaB⟩⟩
   replace c10 := Bool.eq_false_iff.mpr c10
   subst c10
   replace H := zif H
   have H' := Aside0.mk H
   clear H
   go_wp2
   go_meet
   case rel => exact ⟨_, (false), zrl, H', ⟨zle⟩, ⟨zkq BK832⟩, ⟨zkq BK833⟩, ⟨zaB⟩⟩
  case rest =>
   clear HC9
   obtain ⟨kq, x13_8, rfl, HA, HJ8, BK832, BK833, HB⟩ := hcut
   cases kq with
   | zero => exact absurd HA.out (by simp [span_side.j0])
   | succ kj8 =>
    have H := HA.out
    clear HA
    simp only [span_side.j0] at H
    by_cases c12 : x13_8 = true
    ·subst c12
     replace H := zit H
     obtain ⟨t835, A13, H⟩ := zbs H
     try dsimp only at H
     have H' := Aside0.mk H
     clear H
     go_wp2_with (first | ((with_reducible refine gtc 72 rfl ?_); refine zgL 22 Try.func72 (pattern_Next.calls kj8 a1 t835 _ A13.out) (h := ?_); rintro w' ⟨nd, rfl⟩))
     go_meet
     case rel => exact ⟨_, (t835), zrl, (by first | rfl | (simp [*]; done)), H', ⟨by have := HJ8.out; first | omega | exact Nat.le_refl _⟩, ⟨zkq BK832⟩, ⟨zkq BK833⟩, ⟨zaB⟩⟩
    replace c12 := Bool.eq_false_iff.mpr c12
    subst c12
    replace H := zif H
    by_cases c14 : a3 = true
    ·subst c14
     replace H := zit H
     by_cases c15 : (t834 != 3) = true
     ·rw [if_pos c15] at H
      have c15b0 : (t834 != 3) = true := c15
      (try (have c15b1 : decide (t834 = 3) = false := by simpa using c15))
      (try (have c15b2 : (t834 == 3) = false := by simpa using c15))
      (try (have c15b3 : ¬ (t834 = 3) := by simpa using c15))
      clear c15
      obtain ⟨t836, A16, H⟩ := zbs H
      try dsimp only at H
      have H' := Aside0.mk H
      clear H
      go_wp2_with (first | ((with_reducible refine gtc 168 rfl ?_); refine zgL 29 Try.func168 (pattern_Prev.calls kj8 a1 t836 _ A16.out) (h := ?_); rintro w' ⟨nd, rfl⟩))
      go_meet
      case rel => exact ⟨_, (t836), zrl, (by first | rfl | (simp [*]; done)), H', ⟨by have := HJ8.out; first | omega | exact Nat.le_refl _⟩, ⟨zkq BK832⟩, ⟨zkq BK833⟩, ⟨zaB⟩⟩
     rw [if_neg c15] at H
     have c15b0 : (t834 != 3) = false := by simpa using c15
     (try (have c15b1 : decide (t834 = 3) = true := by simpa using c15))
     (try (have c15b2 : (t834 == 3) = true := by simpa using c15))
     clear c15
     have H' := Aside0.mk H
     clear H
     go_wp2
     go_meet
     case rel => exact ⟨_, (a1), zrl, (by first | rfl | (simp [*]; done)), H', ⟨by have := HJ8.out; first | omega | exact Nat.le_refl _⟩, ⟨zkq BK832⟩, ⟨zkq BK833⟩, ⟨zaB⟩⟩
    replace c14 := Bool.eq_false_iff.mpr c14
    subst c14
    replace H := zif H
    have H' := Aside0.mk H
    clear H
    go_wp2
    go_meet
    case rel => exact ⟨_, (a1), zrl, (by first | rfl | (simp [*]; done)), H', ⟨by have := HJ8.out; first | omega | exact Nat.le_refl _⟩, ⟨zkq BK832⟩, ⟨zkq BK833⟩, ⟨zaB⟩⟩
 case rest =>
  clear HC6
  try clear c15b0
  try clear c15b1
  try clear c15b2
  obtain ⟨kq, x1_5, rfl, rfl, HA, HJ5, BK832, BK833, HB⟩ := hcut
  cases kq with
  | zero => exact absurd HA.out (by simp [span_side.j1])
  | succ kj5 =>
   have H := HA.out
   clear HA
   simp only [span_side.j1] at H
   by_cases c17 : a2 = true
   ·subst c17
    replace H := zit H
    obtain ⟨t837, A18, H⟩ := zbs H
    try dsimp only at H
    obtain ⟨⟨t838, t839, t840⟩, A19, H⟩ := zbs H
    try dsimp only at H
    obtain ⟨⟨t841, t842, t843⟩, A20, H⟩ := zbs H
    try dsimp only at H
    simp only [Option.some.injEq, Prod.mk.injEq] at H
    obtain ⟨rfl, rfl, rfl⟩ := H
    try go_wp2
    (try (rw [drewN_self wc]; generalize hq_ : World.drewN wc _ = wc; replace BK832 := zkg hq_ (zkq BK832); replace BK833 := zkg hq_ (zkq BK833); replace HB := zkG hq_ (pw_below_drewN HB.out _); clear hq_))
    replace BK832 := Aside0.mk (blk_drew BK832.out)
    replace BK833 := Aside0.mk (blk_drew BK833.out)
    replace HB := Aside0.mk (below_drew1 HB.out)
    refine start_ (n := 6) (S := fun w' => w'.cell? ⟨gb832, 0, none⟩ = some (.bool a0_0) ∧ w'.cell? ⟨gb832, 1, none⟩ = some (.int .u64 a0_1) ∧ w'.cell? ⟨gb832, 2, none⟩ = some (.int .u64 a0_2)) (ds := []) #[false, false, false, false, false, false] (by kernel_rfl) rfl rfl (ze3 BK832) (fun hHeld => ?_)
    generalize wc.drew = w21 at BK832 BK833 HB hHeld ⊢
    refine zpA 1 32 (h := ?_)
    refine ztA 0 31 (h := ?_)
    refine zoA 2 33 (h := fun K hK => ?_)
    refine zgA Try.func114 (span_inf.calls kj5  t837 _ A18.out) (h := ?_)
    rintro w' ⟨nd, rfl⟩
    refine hK.out _ _ (ze3 BK832) (fun hHeld => ?_)
    clear hK K
    refine znA 33 (h := ?_)
    refine zoA 3 34 (h := fun K hK => ?_)
    refine zgA Try.func37 (span_Make.calls kj5 x1_5 t837 t838 t839 t840 _ A19.out) (h := ?_)
    rintro w22 hb
    refine zcn2 HB BK832 BK833 hb (c := ?_)
    clear HB BK832 BK833 hb
    intro BK832 BK833 HB
    refine hK.out _ _ (ze3 BK832) (fun hHeld => ?_)
    clear hK K
    refine znA 34 (h := ?_)
    refine zoA 4 35 (h := fun K hK => ?_)
    refine zgA Try.func47 (span_Meet.calls kj5 a0_0 a0_1 a0_2 t838 t839 t840 t841 t842 t843 _ A20.out) (h := ?_)
    rintro w23 hb
    refine zcn2 HB BK832 BK833 hb (c := ?_)
    clear HB BK832 BK833 hb
    intro BK832 BK833 HB
    refine hK.out _ _ (ze3 BK832) (fun hHeld => ?_)
    clear hK K
    refine znA 35 (h := ?_)
    refine one_ (i := 5) (N := none) #[true, true, true, true, true, true] rfl rfl (by kernel_rfl) (by decide) (fun K hK => ?_)
    have hs24 := zc0 BK833
    have hfs24 := blk_frozen BK833.out 0
    refine zt1 NB832_833 fun _ _ => ?_
    have hs25 := zc1 BK833
    have hfs25 := blk_frozen BK833.out 1
    refine zt1 NB832_833 fun _ _ => ?_
    have hs26 := zc2 BK833
    have hfs26 := blk_frozen BK833.out 2
    refine zt1 NB832_833 fun _ _ => ?_
    refine skip_ (w1 := ?_) (by rfl) rfl ?_ ?_
    rotate_left
    ·go_simp
     rfl
    refine hK.out _ _ ⟨(zff NB832_833 (zff NB832_833 (zff NB832_833 hHeld.1))), (zff NB832_833 (zff NB832_833 (zff NB832_833 hHeld.2.1))), (zff NB832_833 (zff NB832_833 (zff NB832_833 hHeld.2.2)))⟩ (fun hHeld => ?_)
    clear hK K
    refine done_ (by kernel_rfl) ?_
    try go_wp2
    refine bodyPost_ret (results_cell_row rfl _ _ gb833 43 #[.bool t841, .int .u64 t842, .int .u64 t843] (0, 0) _ rfl (blk_put (cs := #[.bool t841, .int .u64 t842, .int .u64 0]) (blk_put (cs := #[.bool t841, .int .u64 0, .int .u64 0]) (blk_put (zkq BK833) 0 _ rfl) 1 _ rfl) 2 _ rfl) Try.underlying43 rfl (by kernel_rfl)) rfl ?_
    exact ⟨zaE, zaB⟩
   replace c17 := Bool.eq_false_iff.mpr c17
   subst c17
   replace H := zif H
   obtain ⟨t844, A27, H⟩ := zbs H
   try dsimp only at H
   obtain ⟨⟨t845, t846, t847⟩, A28, H⟩ := zbs H
   try dsimp only at H
   obtain ⟨⟨t848, t849, t850⟩, A29, H⟩ := zbs H
   try dsimp only at H
   simp only [Option.some.injEq, Prod.mk.injEq] at H
   obtain ⟨rfl, rfl, rfl⟩ := H
   try go_wp2
   (try (rw [drewN_self wc]; generalize hq_ : World.drewN wc _ = wc; replace BK832 := zkg hq_ (zkq BK832); replace BK833 := zkg hq_ (zkq BK833); replace HB := zkG hq_ (pw_below_drewN HB.out _); clear hq_))
   replace BK832 := Aside0.mk (blk_drew BK832.out)
   replace BK833 := Aside0.mk (blk_drew BK833.out)
   replace HB := Aside0.mk (below_drew1 HB.out)
   refine start_ (n := 6) (S := fun w' => w'.cell? ⟨gb832, 0, none⟩ = some (.bool a0_0) ∧ w'.cell? ⟨gb832, 1, none⟩ = some (.int .u64 a0_1) ∧ w'.cell? ⟨gb832, 2, none⟩ = some (.int .u64 a0_2)) (ds := []) #[false, false, false, false, false, false] (by kernel_rfl) rfl rfl (ze3 BK832) (fun hHeld => ?_)
   generalize wc.drew = w30 at BK832 BK833 HB hHeld ⊢
   refine zpA 2 38 (h := ?_)
   refine ztA 0 36 (h := ?_)
   refine zoA 1 37 (h := fun K hK => ?_)
   refine zgA Try.func113 (span_ninf.calls kj5  t844 _ A27.out) (h := ?_)
   rintro w' ⟨nd, rfl⟩
   refine hK.out _ _ (ze3 BK832) (fun hHeld => ?_)
   clear hK K
   refine znA 37 (h := ?_)
   refine zoA 3 39 (h := fun K hK => ?_)
   refine zgA Try.func37 (span_Make.calls kj5 t844 x1_5 t845 t846 t847 _ A28.out) (h := ?_)
   rintro w31 hb
   refine zcn2 HB BK832 BK833 hb (c := ?_)
   clear HB BK832 BK833 hb
   intro BK832 BK833 HB
   refine hK.out _ _ (ze3 BK832) (fun hHeld => ?_)
   clear hK K
   refine znA 39 (h := ?_)
   refine zoA 4 40 (h := fun K hK => ?_)
   refine zgA Try.func47 (span_Meet.calls kj5 a0_0 a0_1 a0_2 t845 t846 t847 t848 t849 t850 _ A29.out) (h := ?_)
   rintro w32 hb
   refine zcn2 HB BK832 BK833 hb (c := ?_)
   clear HB BK832 BK833 hb
   intro BK832 BK833 HB
   refine hK.out _ _ (ze3 BK832) (fun hHeld => ?_)
   clear hK K
   refine znA 40 (h := ?_)
   refine one_ (i := 5) (N := none) #[true, true, true, true, true, true] rfl rfl (by kernel_rfl) (by decide) (fun K hK => ?_)
   have hs33 := zc0 BK833
   have hfs33 := blk_frozen BK833.out 0
   refine zt1 NB832_833 fun _ _ => ?_
   have hs34 := zc1 BK833
   have hfs34 := blk_frozen BK833.out 1
   refine zt1 NB832_833 fun _ _ => ?_
   have hs35 := zc2 BK833
   have hfs35 := blk_frozen BK833.out 2
   refine zt1 NB832_833 fun _ _ => ?_
   refine skip_ (w1 := ?_) (by rfl) rfl ?_ ?_
   rotate_left
   ·go_simp
    rfl
   refine hK.out _ _ ⟨(zff NB832_833 (zff NB832_833 (zff NB832_833 hHeld.1))), (zff NB832_833 (zff NB832_833 (zff NB832_833 hHeld.2.1))), (zff NB832_833 (zff NB832_833 (zff NB832_833 hHeld.2.2)))⟩ (fun hHeld => ?_)
   clear hK K
   refine done_ (by kernel_rfl) ?_
   try go_wp2
   refine bodyPost_ret (results_cell_row rfl _ _ gb833 43 #[.bool t848, .int .u64 t849, .int .u64 t850] (0, 0) _ rfl (blk_put (cs := #[.bool t848, .int .u64 t849, .int .u64 0]) (blk_put (cs := #[.bool t848, .int .u64 0, .int .u64 0]) (blk_put (zkq BK833) 0 _ rfl) 1 _ rfl) 2 _ rfl) Try.underlying43 rfl (by kernel_rfl)) rfl ?_
   exact ⟨zaE, zaB⟩
theorem span_without.calls (k : Nat) (a0_0 : Bool) (a0_1 : Int) (a0_2 : Int) (a1_0 : Bool) (a1_1 : Int) (a1_2 : Int) (r1 : Bool) (r2 : Int) (r3 : Int) (w : World) (h : span_without.f k a0_0 a0_1 a0_2 a1_0 a1_1 a1_2 = some (r1, r2, r3)) :
  Calls Try.prog 123 #[.agg #[.bool a0_0, .int .u64 a0_1, .int .u64 a0_2], .agg #[.bool a1_0, .int .u64 a1_1, .int .u64 a1_2]] w fun e w' => e = .returned (.agg #[.bool r1, .int .u64 r2, .int .u64 r3]) ∧ Below w.heap.size w w' := by
 have hu43 := Try.underlying43
 have HB := Aside0.mk (Below.refl w.heap.size w)
 have H := h
 unfold span_without.f at H
 clear h
 by_cases c3 : a1_1 = a1_2
 ·rw [if_pos c3] at H
  have c3b0 : (a1_1 == a1_2) = true := beq_iff_eq.mpr c3
  have c3b1 : (a1_1 != a1_2) = false := bne_eq_false_iff_eq.mpr c3
  clear c3
  by_cases c4 : a0_1 = a1_1
  ·rw [if_pos c4] at H
   have c4b0 : (a0_1 == a1_1) = true := beq_iff_eq.mpr c4
   have c4b1 : (a0_1 != a1_1) = false := bne_eq_false_iff_eq.mpr c4
   clear c4
   obtain ⟨⟨t854, t855, t856⟩, A5, H⟩ := zbs H
   try dsimp only at H
   by_cases c6 : t856 = a1_1
   ·rw [if_pos c6] at H
    have c6b0 : (t856 == a1_1) = true := beq_iff_eq.mpr c6
    have c6b1 : (t856 != a1_1) = false := bne_eq_false_iff_eq.mpr c6
    clear c6
    by_cases c7 : t854 = true
    ·subst c7
     replace H := zit H
     simp only [Option.some.injEq, Prod.mk.injEq] at H
     obtain ⟨rfl, rfl, rfl⟩ := H
     go_enter Try.func123, Try.ntmps123
     go_wp2_with (first | ((with_reducible refine gtd 2 rfl ?_); refine zbx 2 #[.bool a0_0, .int .u64 a0_1, .int .u64 a0_2] 43 (h := ?_); intro gb851 hg w8 hbox hb; have GW851 := zkZ hg (zaB (p := Below w.heap.size w _)); replace HB := Aside0.mk (below_step zaB hb); have BK851 := Aside0.mk (hbox); clear hb hbox hg) | ((with_reducible refine gtd 3 rfl ?_); refine zbx 3 #[.bool a1_0, .int .u64 a1_1, .int .u64 a1_2] 43 (h := ?_); intro gb852 hg w9 hbox hb; refine zbn1 HB BK851 hg hb hbox (c := ?_); clear HB BK851 hb hbox hg; intro GW852 NB851_852 BK851 HB BK852) | ((with_reducible refine gtd 4 rfl ?_); refine zbx 4 #[.bool false, .int .u64 0, .int .u64 0] 43 (h := ?_); intro gb853 hg w10 hbox hb; refine zbn2 HB BK851 BK852 hg hb hbox (c := ?_); clear HB BK851 BK852 hb hbox hg; intro GW853 NB851_853 NB852_853 BK851 BK852 HB BK853; refine zt2 NB851_852 NB852_853 fun _ _ _ _ => ?_; refine zu3 BK852 fun _ _ _ _ _ _ => ?_; refine zt1 NB851_853 fun _ _ => ?_; refine zu3 BK851 fun _ _ _ _ _ _ => ?_) | ((with_reducible refine gtc 122 rfl ?_); refine zgL 20 Try.func122 (span_side.calls k a0_0 a0_1 a0_2 a1_1 true true true t855 t856 _ A5.out) (h := ?_); rintro w16 hb; refine zcn3 HB BK851 BK852 BK853 hb (c := ?_); clear HB BK851 BK852 BK853 hb; intro BK851 BK852 BK853 HB; refine zu3 BK851 fun _ _ _ _ _ _ => ?_; refine zu3 BK853 fun _ _ _ _ _ _ => ?_))
     refine bodyPost_ret (results_cell_row rfl _ _ gb853 43 #[.bool true, .int .u64 t855, .int .u64 t856] (0, 0) _ rfl (blk_put (cs := #[.bool true, .int .u64 t855, .int .u64 0]) (blk_put (cs := #[.bool true, .int .u64 0, .int .u64 0]) (blk_put (zkf (zkf (zkf (zkq BK853) (zks NB851_853).out _) (zks NB851_853).out _) (zks NB851_853).out _) 0 _ rfl) 1 _ rfl) 2 _ rfl) Try.underlying43 rfl (by kernel_rfl)) rfl ?_
     exact ⟨zaE, zaB⟩
    replace c7 := Bool.eq_false_iff.mpr c7
    subst c7
    replace H := zif H
    obtain ⟨⟨t857, t858, t859⟩, A19, H⟩ := zbs H
    try dsimp only at H
    simp only [Option.some.injEq, Prod.mk.injEq] at H
    obtain ⟨rfl, rfl, rfl⟩ := H
    go_enter Try.func123, Try.ntmps123
    go_wp2_with (first | ((with_reducible refine gtd 2 rfl ?_); refine zbx 2 #[.bool a0_0, .int .u64 a0_1, .int .u64 a0_2] 43 (h := ?_); intro gb851 hg w20 hbox hb; have GW851 := zkZ hg (zaB (p := Below w.heap.size w _)); replace HB := Aside0.mk (below_step zaB hb); have BK851 := Aside0.mk (hbox); clear hb hbox hg) | ((with_reducible refine gtd 3 rfl ?_); refine zbx 3 #[.bool a1_0, .int .u64 a1_1, .int .u64 a1_2] 43 (h := ?_); intro gb852 hg w21 hbox hb; refine zbn1 HB BK851 hg hb hbox (c := ?_); clear HB BK851 hb hbox hg; intro GW852 NB851_852 BK851 HB BK852) | ((with_reducible refine gtd 4 rfl ?_); refine zbx 4 #[.bool false, .int .u64 0, .int .u64 0] 43 (h := ?_); intro gb853 hg w22 hbox hb; refine zbn2 HB BK851 BK852 hg hb hbox (c := ?_); clear HB BK851 BK852 hb hbox hg; intro GW853 NB851_853 NB852_853 BK851 BK852 HB BK853; refine zt2 NB851_852 NB852_853 fun _ _ _ _ => ?_; refine zu3 BK852 fun _ _ _ _ _ _ => ?_; refine zt1 NB851_853 fun _ _ => ?_; refine zu3 BK851 fun _ _ _ _ _ _ => ?_) | ((with_reducible refine gtc 122 rfl ?_); refine zgL 20 Try.func122 (span_side.calls k a0_0 a0_1 a0_2 a1_1 true true false t855 t856 _ A5.out) (h := ?_); rintro w28 hb; refine zcn3 HB BK851 BK852 BK853 hb (c := ?_); clear HB BK851 BK852 BK853 hb; intro BK851 BK852 BK853 HB; refine zu3 BK851 fun _ _ _ _ _ _ => ?_) | ((with_reducible refine gtc 122 rfl ?_); refine zgL 32 Try.func122 (span_side.calls k false t855 t856 a1_1 false true t857 t858 t859 _ A19.out) (h := ?_); rintro w30 hb; replace BK851 := Aside0.mk (blk_below (o := .cells #[.bool false, .int .u64 t855, .int .u64 t856] 43 (0, 0)) (blk_put (cs := #[.bool false, .int .u64 t855, .int .u64 a0_2]) (blk_put (cs := #[.bool false, .int .u64 a0_1, .int .u64 a0_2]) (blk_put BK851.out 0 _ rfl) 1 _ rfl) 2 _ rfl) hb); replace BK852 := Aside0.mk (blk_below (zkf (zkf (zkf BK852.out (zks NB851_852).out _) (zks NB851_852).out _) (zks NB851_852).out _) hb); replace BK853 := Aside0.mk (blk_below (zkf (zkf (zkf BK853.out (zks NB851_853).out _) (zks NB851_853).out _) (zks NB851_853).out _) hb); replace HB := Aside0.mk (below_step (below_set (below_set (below_set HB.out GW851.out) GW851.out) GW851.out) hb); (try clear hb); refine zu3 BK851 fun _ _ _ _ _ _ => ?_; refine zu3 BK853 fun _ _ _ _ _ _ => ?_))
    refine bodyPost_ret (results_cell_row rfl _ _ gb853 43 #[.bool t857, .int .u64 t858, .int .u64 t859] (0, 0) _ rfl (blk_put (cs := #[.bool t857, .int .u64 t858, .int .u64 0]) (blk_put (cs := #[.bool t857, .int .u64 0, .int .u64 0]) (blk_put (zkf (zkf (zkf (zkq BK853) (zks NB851_853).out _) (zks NB851_853).out _) (zks NB851_853).out _) 0 _ rfl) 1 _ rfl) 2 _ rfl) Try.underlying43 rfl (by kernel_rfl)) rfl ?_
    exact ⟨zaE, zaB⟩
   rw [if_neg c6] at H
   have c6b0 : (t856 == a1_1) = false := beq_eq_false_iff_ne.mpr c6
   have c6b1 : (t856 != a1_1) = true := bne_iff_ne.mpr c6
   simp only [Option.some.injEq, Prod.mk.injEq] at H
   obtain ⟨rfl, rfl, rfl⟩ := H
   go_enter Try.func123, Try.ntmps123
   go_wp2_with (first | ((with_reducible refine gtd 2 rfl ?_); refine zbx 2 #[.bool a0_0, .int .u64 a0_1, .int .u64 a0_2] 43 (h := ?_); intro gb851 hg w33 hbox hb; have GW851 := zkZ hg (zaB (p := Below w.heap.size w _)); replace HB := Aside0.mk (below_step zaB hb); have BK851 := Aside0.mk (hbox); clear hb hbox hg) | ((with_reducible refine gtd 3 rfl ?_); refine zbx 3 #[.bool a1_0, .int .u64 a1_1, .int .u64 a1_2] 43 (h := ?_); intro gb852 hg w34 hbox hb; refine zbn1 HB BK851 hg hb hbox (c := ?_); clear HB BK851 hb hbox hg; intro GW852 NB851_852 BK851 HB BK852) | ((with_reducible refine gtd 4 rfl ?_); refine zbx 4 #[.bool false, .int .u64 0, .int .u64 0] 43 (h := ?_); intro gb853 hg w35 hbox hb; refine zbn2 HB BK851 BK852 hg hb hbox (c := ?_); clear HB BK851 BK852 hb hbox hg; intro GW853 NB851_853 NB852_853 BK851 BK852 HB BK853; refine zt2 NB851_852 NB852_853 fun _ _ _ _ => ?_; refine zu3 BK852 fun _ _ _ _ _ _ => ?_; refine zt1 NB851_853 fun _ _ => ?_; refine zu3 BK851 fun _ _ _ _ _ _ => ?_) | ((with_reducible refine gtc 122 rfl ?_); refine zgL 20 Try.func122 (span_side.calls k a0_0 a0_1 a0_2 a1_1 true true t854 t855 t856 _ A5.out) (h := ?_); rintro w41 hb; refine zcn3 HB BK851 BK852 BK853 hb (c := ?_); clear HB BK851 BK852 BK853 hb; intro BK851 BK852 BK853 HB; refine zu3 BK851 fun _ _ _ _ _ _ => ?_; refine zu3 BK853 fun _ _ _ _ _ _ => ?_))
   refine bodyPost_ret (results_cell_row rfl _ _ gb853 43 #[.bool t854, .int .u64 t855, .int .u64 t856] (0, 0) _ rfl (blk_put (cs := #[.bool t854, .int .u64 t855, .int .u64 0]) (blk_put (cs := #[.bool t854, .int .u64 0, .int .u64 0]) (blk_put (zkf (zkf (zkf (zkq BK853) (zks NB851_853).out _) (zks NB851_853).out _) (zks NB851_853).out _) 0 _ rfl) 1 _ rfl) 2 _ rfl) Try.underlying43 rfl (by kernel_rfl)) rfl ?_
   exact ⟨zaE, zaB⟩
  rw [if_neg c4] at H
  have c4b0 : (a0_1 == a1_1) = false := beq_eq_false_iff_ne.mpr c4
  have c4b1 : (a0_1 != a1_1) = true := bne_iff_ne.mpr c4
  by_cases c44 : a0_2 = a1_1
  ·rw [if_pos c44] at H
   have c44b0 : (a0_2 == a1_1) = true := beq_iff_eq.mpr c44
   have c44b1 : (a0_2 != a1_1) = false := bne_eq_false_iff_eq.mpr c44
   clear c44
   by_cases c45 : a0_0 = true
   ·subst c45
    replace H := zit H
    simp only [Option.some.injEq, Prod.mk.injEq] at H
    obtain ⟨rfl, rfl, rfl⟩ := H
    go_enter Try.func123, Try.ntmps123
    go_wp2_with (first | ((with_reducible refine gtd 2 rfl ?_); refine zbx 2 #[.bool true, .int .u64 a0_1, .int .u64 a0_2] 43 (h := ?_); intro gb851 hg w46 hbox hb; have GW851 := zkZ hg (zaB (p := Below w.heap.size w _)); replace HB := Aside0.mk (below_step zaB hb); have BK851 := Aside0.mk (hbox); clear hb hbox hg) | ((with_reducible refine gtd 3 rfl ?_); refine zbx 3 #[.bool a1_0, .int .u64 a1_1, .int .u64 a1_2] 43 (h := ?_); intro gb852 hg w47 hbox hb; refine zbn1 HB BK851 hg hb hbox (c := ?_); clear HB BK851 hb hbox hg; intro GW852 NB851_852 BK851 HB BK852) | ((with_reducible refine gtd 4 rfl ?_); refine zbx 4 #[.bool false, .int .u64 0, .int .u64 0] 43 (h := ?_); intro gb853 hg w48 hbox hb; refine zbn2 HB BK851 BK852 hg hb hbox (c := ?_); clear HB BK851 BK852 hb hbox hg; intro GW853 NB851_853 NB852_853 BK851 BK852 HB BK853; refine zt2 NB851_852 NB852_853 fun _ _ _ _ => ?_; refine zu3 BK852 fun _ _ _ _ _ _ => ?_; refine zt1 NB851_853 fun _ _ => ?_; refine zu3 BK851 fun _ _ _ _ _ _ => ?_; refine zu3 BK853 fun _ _ _ _ _ _ => ?_))
    refine bodyPost_ret (results_cell_row rfl _ _ gb853 43 #[.bool true, .int .u64 a0_1, .int .u64 a0_2] (0, 0) _ rfl (blk_put (cs := #[.bool true, .int .u64 a0_1, .int .u64 0]) (blk_put (cs := #[.bool true, .int .u64 0, .int .u64 0]) (blk_put (zkq BK853) 0 _ rfl) 1 _ rfl) 2 _ rfl) Try.underlying43 rfl (by kernel_rfl)) rfl ?_
    exact ⟨zaE, zaB⟩
   replace c45 := Bool.eq_false_iff.mpr c45
   subst c45
   replace H := zif H
   obtain ⟨⟨t860, t861, t862⟩, A55, H⟩ := zbs H
   try dsimp only at H
   simp only [Option.some.injEq, Prod.mk.injEq] at H
   obtain ⟨rfl, rfl, rfl⟩ := H
   go_enter Try.func123, Try.ntmps123
   go_wp2_with (first | ((with_reducible refine gtd 2 rfl ?_); refine zbx 2 #[.bool false, .int .u64 a0_1, .int .u64 a0_2] 43 (h := ?_); intro gb851 hg w56 hbox hb; have GW851 := zkZ hg (zaB (p := Below w.heap.size w _)); replace HB := Aside0.mk (below_step zaB hb); have BK851 := Aside0.mk (hbox); clear hb hbox hg) | ((with_reducible refine gtd 3 rfl ?_); refine zbx 3 #[.bool a1_0, .int .u64 a1_1, .int .u64 a1_2] 43 (h := ?_); intro gb852 hg w57 hbox hb; refine zbn1 HB BK851 hg hb hbox (c := ?_); clear HB BK851 hb hbox hg; intro GW852 NB851_852 BK851 HB BK852) | ((with_reducible refine gtd 4 rfl ?_); refine zbx 4 #[.bool false, .int .u64 0, .int .u64 0] 43 (h := ?_); intro gb853 hg w58 hbox hb; refine zbn2 HB BK851 BK852 hg hb hbox (c := ?_); clear HB BK851 BK852 hb hbox hg; intro GW853 NB851_853 NB852_853 BK851 BK852 HB BK853; refine zt2 NB851_852 NB852_853 fun _ _ _ _ => ?_; refine zu3 BK852 fun _ _ _ _ _ _ => ?_; refine zt1 NB851_853 fun _ _ => ?_; refine zu3 BK851 fun _ _ _ _ _ _ => ?_) | ((with_reducible refine gtc 122 rfl ?_); refine zgL 32 Try.func122 (span_side.calls k false a0_1 a0_2 a1_1 false true t860 t861 t862 _ A55.out) (h := ?_); rintro w64 hb; refine zcn3 HB BK851 BK852 BK853 hb (c := ?_); clear HB BK851 BK852 BK853 hb; intro BK851 BK852 BK853 HB; refine zu3 BK851 fun _ _ _ _ _ _ => ?_; refine zu3 BK853 fun _ _ _ _ _ _ => ?_))
   refine bodyPost_ret (results_cell_row rfl _ _ gb853 43 #[.bool t860, .int .u64 t861, .int .u64 t862] (0, 0) _ rfl (blk_put (cs := #[.bool t860, .int .u64 t861, .int .u64 0]) (blk_put (cs := #[.bool t860, .int .u64 0, .int .u64 0]) (blk_put (zkf (zkf (zkf (zkq BK853) (zks NB851_853).out _) (zks NB851_853).out _) (zks NB851_853).out _) 0 _ rfl) 1 _ rfl) 2 _ rfl) Try.underlying43 rfl (by kernel_rfl)) rfl ?_
   exact ⟨zaE, zaB⟩
  rw [if_neg c44] at H
  have c44b0 : (a0_2 == a1_1) = false := beq_eq_false_iff_ne.mpr c44
  have c44b1 : (a0_2 != a1_1) = true := bne_iff_ne.mpr c44
  simp only [Option.some.injEq, Prod.mk.injEq] at H
  obtain ⟨rfl, rfl, rfl⟩ := H
  go_enter Try.func123, Try.ntmps123
  go_wp2_with (first | ((with_reducible refine gtd 2 rfl ?_); refine zbx 2 #[.bool a0_0, .int .u64 a0_1, .int .u64 a0_2] 43 (h := ?_); intro gb851 hg w67 hbox hb; have GW851 := zkZ hg (zaB (p := Below w.heap.size w _)); replace HB := Aside0.mk (below_step zaB hb); have BK851 := Aside0.mk (hbox); clear hb hbox hg) | ((with_reducible refine gtd 3 rfl ?_); refine zbx 3 #[.bool a1_0, .int .u64 a1_1, .int .u64 a1_2] 43 (h := ?_); intro gb852 hg w68 hbox hb; refine zbn1 HB BK851 hg hb hbox (c := ?_); clear HB BK851 hb hbox hg; intro GW852 NB851_852 BK851 HB BK852) | ((with_reducible refine gtd 4 rfl ?_); refine zbx 4 #[.bool false, .int .u64 0, .int .u64 0] 43 (h := ?_); intro gb853 hg w69 hbox hb; refine zbn2 HB BK851 BK852 hg hb hbox (c := ?_); clear HB BK851 BK852 hb hbox hg; intro GW853 NB851_853 NB852_853 BK851 BK852 HB BK853; refine zt2 NB851_852 NB852_853 fun _ _ _ _ => ?_; refine zu3 BK852 fun _ _ _ _ _ _ => ?_; refine zt1 NB851_853 fun _ _ => ?_; refine zu3 BK851 fun _ _ _ _ _ _ => ?_; refine zu3 BK853 fun _ _ _ _ _ _ => ?_))
  refine bodyPost_ret (results_cell_row rfl _ _ gb853 43 #[.bool a0_0, .int .u64 a0_1, .int .u64 a0_2] (0, 0) _ rfl (blk_put (cs := #[.bool a0_0, .int .u64 a0_1, .int .u64 0]) (blk_put (cs := #[.bool a0_0, .int .u64 0, .int .u64 0]) (blk_put (zkq BK853) 0 _ rfl) 1 _ rfl) 2 _ rfl) Try.underlying43 rfl (by kernel_rfl)) rfl ?_
  exact ⟨zaE, zaB⟩
 rw [if_neg c3] at H
 have c3b0 : (a1_1 == a1_2) = false := beq_eq_false_iff_ne.mpr c3
 have c3b1 : (a1_1 != a1_2) = true := bne_iff_ne.mpr c3
 simp only [Option.some.injEq, Prod.mk.injEq] at H
 obtain ⟨rfl, rfl, rfl⟩ := H
 go_enter Try.func123, Try.ntmps123
 go_wp2_with (first | ((with_reducible refine gtd 2 rfl ?_); refine zbx 2 #[.bool a0_0, .int .u64 a0_1, .int .u64 a0_2] 43 (h := ?_); intro gb851 hg w76 hbox hb; have GW851 := zkZ hg (zaB (p := Below w.heap.size w _)); replace HB := Aside0.mk (below_step zaB hb); have BK851 := Aside0.mk (hbox); clear hb hbox hg) | ((with_reducible refine gtd 3 rfl ?_); refine zbx 3 #[.bool a1_0, .int .u64 a1_1, .int .u64 a1_2] 43 (h := ?_); intro gb852 hg w77 hbox hb; refine zbn1 HB BK851 hg hb hbox (c := ?_); clear HB BK851 hb hbox hg; intro GW852 NB851_852 BK851 HB BK852) | ((with_reducible refine gtd 4 rfl ?_); refine zbx 4 #[.bool false, .int .u64 0, .int .u64 0] 43 (h := ?_); intro gb853 hg w78 hbox hb; refine zbn2 HB BK851 BK852 hg hb hbox (c := ?_); clear HB BK851 BK852 hb hbox hg; intro GW853 NB851_853 NB852_853 BK851 BK852 HB BK853; refine zt2 NB851_852 NB852_853 fun _ _ _ _ => ?_; refine zu3 BK852 fun _ _ _ _ _ _ => ?_; refine zt1 NB851_853 fun _ _ => ?_; refine zu3 BK851 fun _ _ _ _ _ _ => ?_; refine zu3 BK853 fun _ _ _ _ _ _ => ?_))
 refine bodyPost_ret (results_cell_row rfl _ _ gb853 43 #[.bool a0_0, .int .u64 a0_1, .int .u64 a0_2] (0, 0) _ rfl (blk_put (cs := #[.bool a0_0, .int .u64 a0_1, .int .u64 0]) (blk_put (cs := #[.bool a0_0, .int .u64 0, .int .u64 0]) (blk_put (zkq BK853) 0 _ rfl) 1 _ rfl) 2 _ rfl) Try.underlying43 rfl (by kernel_rfl)) rfl ?_
 exact ⟨zaE, zaB⟩
end Go.Proofs.Ytmadjhmecfbcmaa.F
end
