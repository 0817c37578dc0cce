/- The walk of the law SlipRises and what it computes, part 2 of 7: no conditions. -/
import Derived.Test.YtmadjhmecfbcmaaASlipRises1
import Derived.Shelf.Small.Bits
import Derived.Shelf.Strconv.Itoa0
import Derived.Shelf.Bits.Mul64
import Derived.Test.YtmadjhmecfbcmaaProg
import Derived.Lib.BitFns
set_option linter.unusedVariables false
set_option linter.unusedSimpArgs false
section
namespace Go.Proofs
open Go.Shelf
def Try.lays134_ren : Go.Shelf.Ren := ⟨fun | 134 => 186 | 129 => 161 | n => n, fun | 53 => 22 | 3 => 3 | 4 => 4 | 46 => 126 | 5 => 5 | 9 => 9 | n => n, fun | n => n⟩
theorem Try.lays134 : Go.Proofs.Lays.n134 Try.prog Try.lays134_ren := {
 mixed := by kernel_rfl
 f129 := Try.func161.trans (congrArg some (by kernel_rfl))
 f134 := Try.func186.trans (congrArg some (by kernel_rfl))
 t3 := Try.underlying3
 a3 := Try.isAgg3
 z3 := Try.sizeOf3
 v3 := Try.zeroValue3
 t4 := Try.underlying4
 a4 := Try.isAgg4
 z4 := Try.sizeOf4
 v4 := Try.zeroValue4
 t5 := Try.underlying5
 a5 := Try.isAgg5
 z5 := Try.sizeOf5
 v5 := Try.zeroValue5
 t9 := Try.underlying9
 a9 := Try.isAgg9
 z9 := Try.sizeOf9
 v9 := Try.zeroValue9
 t46 := Try.underlying126
 a46 := Try.isAgg126
 z46 := Try.sizeOf126
 v46 := Try.zeroValue126
 t53 := Try.underlying22
 a53 := Try.isAgg22
 z53 := Try.sizeOf22
 v53 := Try.zeroValue22 }
theorem Try.bits_LeadingZeros64 (x : Int) (w : World) (h0 : 0 ≤ x) (h1 : x ≤ 18446744073709551615) :
  Calls Try.prog 186 #[.int .u64 x] w fun e w' => e = .returned (.int .i64 (64 - (Lib.bitLen x.toNat : Int))) ∧ w' = w := Any.bits_LeadingZeros64 Try.lays134 x w h0 h1
def Try.lays129_ren : Go.Shelf.Ren := ⟨fun | 129 => 161 | n => n, fun | 53 => 22 | 3 => 3 | 4 => 4 | 46 => 126 | 5 => 5 | 9 => 9 | n => n, fun | n => n⟩
theorem Try.lays129 : Go.Proofs.Lays.n129 Try.prog Try.lays129_ren := {
 mixed := by kernel_rfl
 f129 := Try.func161.trans (congrArg some (by kernel_rfl))
 t3 := Try.underlying3
 a3 := Try.isAgg3
 z3 := Try.sizeOf3
 v3 := Try.zeroValue3
 t4 := Try.underlying4
 a4 := Try.isAgg4
 z4 := Try.sizeOf4
 v4 := Try.zeroValue4
 t5 := Try.underlying5
 a5 := Try.isAgg5
 z5 := Try.sizeOf5
 v5 := Try.zeroValue5
 t9 := Try.underlying9
 a9 := Try.isAgg9
 z9 := Try.sizeOf9
 v9 := Try.zeroValue9
 t46 := Try.underlying126
 a46 := Try.isAgg126
 z46 := Try.sizeOf126
 v46 := Try.zeroValue126
 t53 := Try.underlying22
 a53 := Try.isAgg22
 z53 := Try.sizeOf22
 v53 := Try.zeroValue22 }
theorem Try.bits_Len64 (x : Int) (w : World) (h0 : 0 ≤ x) (h1 : x ≤ 18446744073709551615) :
  Calls Try.prog 161 #[.int .u64 x] w fun e w' => e = .returned (.int .i64 (Lib.bitLen x.toNat)) ∧ w' = w := Any.bits_Len64 Try.lays129 x w h0 h1
def Try.lays264_ren : Go.Shelf.Ren := ⟨fun | 264 => 160 | n => n, fun | 53 => 22 | 46 => 126 | n => n, fun | n => n⟩
theorem Try.lays264 : Go.Proofs.Lays.n264 Try.prog Try.lays264_ren := {
 mixed := by kernel_rfl
 f264 := Try.func160.trans (congrArg some (by kernel_rfl))
 t46 := Try.underlying126
 a46 := Try.isAgg126
 z46 := Try.sizeOf126
 v46 := Try.zeroValue126
 t53 := Try.underlying22
 a53 := Try.isAgg22
 z53 := Try.sizeOf22
 v53 := Try.zeroValue22 }
open Go.RowKit Go.Lib in
theorem Try.bits_Mul64 (x y : Nat) (hx : x < 18446744073709551616) (hy : y < 18446744073709551616) (w : World) :
    Calls Try.prog 160 #[.int .u64 x, .int .u64 y] w fun e w' => e = .returned (.tuple #[.int .u64 ((x * y / 18446744073709551616 : Nat) : Int), .int .u64 ((x * y % 18446744073709551616 : Nat) : Int)]) ∧ w' = w := Any.bits_Mul64 Try.lays264 x y hx hy w
end Go.Proofs
end
section
namespace Go.Proofs.Ytmadjhmecfbcmaa.F
open Go.RowKit Go.Proofs.YtmadjhmecfbcmaaW.PrintWords Go.Proofs.YtmadjhmecfbcmaaW.PrintLast Go.Proofs.YtmadjhmecfbcmaaW.PrintMore
set_option linter.unusedVariables false
structure S43 where
 f0 : Bool
 f1 : Int
 f2 : Int
def z43 : S43 := ⟨false, (0 : Int), (0 : Int)⟩
def k43 : Kd S43 := Kd.iso (Kd.pair Kd.bool (Kd.pair (Kd.int .u64) (Kd.int .u64))) (fun x : S43 => (x.f0, x.f1, x.f2))
def rd_T43 (xs : List S43) (i : Int) : S43 := xs.getD i.toNat z43
def pattern_Quiet.f  : Option (Int) := some 9221120237041090560
def pattern_Parts.f (a0 : Int) : Option (Bool × Int × Int) := some (((a0 / 9223372036854775808) == 1), wrap64 (Go.bits .and .u64 (a0 / 4503599627370496) 2047), Go.bits .and .u64 a0 4503599627370495)
mutual
def pattern_Class.j0 : Nat → Int → Int → Bool → Option (Int)
 | 0, _, _, _ => none
 | k + 1, x4, x5, p0 => if p0 = true then (some 3) else (if x4 = 2047 then (some 4) else (if x4 = 0 then (pattern_Class.j1 k x4 (x5 == 0)) else (pattern_Class.j1 k x4 false)))
def pattern_Class.j1 : Nat → Int → Bool → Option (Int)
 | 0, _, _ => none
 | k + 1, x4, q0 => if q0 = true then (some 0) else (if x4 = 0 then (some 1) else (some 2))
end
def pattern_Class.f (k : Nat) (a0 : Int) : Option (Int) := (pattern_Parts.f a0).bind fun p0 => (if p0.2.1 = 2047 then (pattern_Class.j0 k p0.2.1 p0.2.2 (p0.2.2 == 0)) else (pattern_Class.j0 k p0.2.1 p0.2.2 false))
def pattern_Split.f (k : Nat) (a0 : Int) : Option (Int × Int) := (pattern_Parts.f a0).bind fun p0 => ((pattern_Class.f k a0).bind fun q0 => (if q0 = 2 then (some (Go.bits .or .u64 4503599627370496 p0.2.2, wrap64 (p0.2.1 - 1075))) else (if q0 = 1 then (some (p0.2.2, (-1074))) else (some (0, 0)))))
def soft_of.f (k : Nat) (a0 : Int) : Option (Int × Int × Bool × Int × Int) := (pattern_Split.f k a0).bind fun p0 => ((pattern_Class.f k a0).bind fun q0 => (some (a0, q0, ((a0 / 9223372036854775808) == 1), p0.1, p0.2)))
def soft_either.f (a0_0 : Int) (a0_1 : Int) (a0_2 : Bool) (a0_3 : Int) (a0_4 : Int) (a1_0 : Int) (a1_1 : Int) (a1_2 : Bool) (a1_3 : Int) (a1_4 : Int) (a2 : Int) : Option (Bool) := if a0_1 = a2 then (some true) else (some (a1_1 == a2))
def soft_invalid.f  : Option (Int × Int) := (pattern_Quiet.f).bind fun p0 => (some (p0, 16))
def pattern_Make.j0 : Nat → Bool → Int → Int → Bool → Option (Int × Int)
 | 0, _, _, _, _ => none
 | k + 1, x0, x1, x2, p0 => if p0 = true then (some (0, 1)) else (if x0 = true then (some (Go.bits .or .u64 (Go.bits .or .u64 (IntKind.u64.wrap ((IntKind.u64.wrap (x1)) * 4503599627370496)) x2) 9223372036854775808, 0)) else (some (Go.bits .or .u64 (IntKind.u64.wrap ((IntKind.u64.wrap (x1)) * 4503599627370496)) x2, 0)))
def pattern_Make.f (k : Nat) (a0 : Bool) (a1 : Int) (a2 : Int) : Option (Int × Int) := if a1 < 0 then (pattern_Make.j0 k a0 a1 a2 true) else (if a1 > 2047 then (pattern_Make.j0 k a0 a1 a2 true) else (pattern_Make.j0 k a0 a1 a2 (decide (a2 > 4503599627370495))))
def soft_zero.f (k : Nat) (a0 : Bool) : Option (Int) := (pattern_Make.f k a0 0 0).bind fun p0 => (some p0.1)
def bits_Len64.f (a0 : Int) : Option Int := if 0 ≤ a0 ∧ a0 ≤ 18446744073709551615 then some (Lib.bitLen a0.toNat : Int) else none
def wide_U128_Len.f (a0_0 : Int) (a0_1 : Int) : Option (Int) := if a0_0 > 0 then ((bits_Len64.f a0_0).bind fun p0 => (some (wrap64 (64 + p0)))) else ((bits_Len64.f a0_1).bind fun q0 => (some q0))
def wide_U128_Shl.l0 : Nat → Int → Int → Int → Option (Int × Int)
 | 0, _, _, _ => none
 | k + 1, x1, p0, q0 => if x1 ≥ 64 then (if (q0 == 0) = true then (some (q0, 0)) else (wide_U128_Shl.l0 k (wrap64 (x1 - 64)) q0 0)) else (if x1 ≤ 0 then (some (p0, q0)) else (if 0 ≤ x1 then (if 0 ≤ (wrap64 (64 - x1)) then (some (Go.bits .or .u64 (shl .u64 p0 x1) (shr .u64 q0 (wrap64 (64 - x1))), shl .u64 q0 x1)) else (none)) else (none)))
def wide_U128_Shl.f (k : Nat) (a0_0 : Int) (a0_1 : Int) (a1 : Int) : Option (Int × Int) := wide_U128_Shl.l0 k a1 a0_0 a0_1
def wide_U128_Shr.l0 : Nat → Int → Bool → Int → Int → Option (Int × Int × Bool)
 | 0, _, _, _, _ => none
 | k + 1, x1, x6, p0, q0 => if x1 ≥ 64 then (if x6 = true then (if (p0 == 0) = true then (some (0, p0, true)) else (wide_U128_Shr.l0 k (wrap64 (x1 - 64)) true 0 p0)) else (if (p0 == 0) = true then (some (0, p0, (q0 != 0))) else (wide_U128_Shr.l0 k (wrap64 (x1 - 64)) (q0 != 0) 0 p0))) else (if x1 ≤ 0 then (some (p0, q0, x6)) else (if 0 ≤ x1 then (if 0 ≤ (wrap64 (64 - x1)) then (if x6 = true then (some (shr .u64 p0 x1, Go.bits .or .u64 (shr .u64 q0 x1) (shl .u64 p0 (wrap64 (64 - x1))), true)) else (some (shr .u64 p0 x1, Go.bits .or .u64 (shr .u64 q0 x1) (shl .u64 p0 (wrap64 (64 - x1))), ((shl .u64 q0 (wrap64 (64 - x1))) != 0)))) else (none)) else (none)))
def wide_U128_Shr.f (k : Nat) (a0_0 : Int) (a0_1 : Int) (a1 : Int) : Option (Int × Int × Bool) := wide_U128_Shr.l0 k a1 false a0_0 a0_1
def round_number_away.f (a0_0 : Bool) (a0_1 : Int) (a0_2 : Int) (a0_3 : Int) (a0_4 : Bool) (a1 : Int) : Option (Bool) := if a1 = 1 then (if a0_0 = true then (if a1 = 2 then (some a0_0) else (some false)) else (some true)) else (if a1 = 2 then (some a0_0) else (some false))
def round_number_towards.f (a0_0 : Bool) (a0_1 : Int) (a0_2 : Int) (a0_3 : Int) (a0_4 : Bool) (a1 : Int) : Option (Bool) := if a1 = 1 then (if a0_0 = true then (some true) else (if a1 = 2 then (some (!a0_0)) else (some false))) else (if a1 = 2 then (some (!a0_0)) else (some false))
def round_number_up.f (a0_0 : Bool) (a0_1 : Int) (a0_2 : Int) (a0_3 : Int) (a0_4 : Bool) (a1 : Int) (a2 : Bool) (a3 : Bool) (a4 : Bool) : Option (Bool) := (round_number_away.f a0_0 a0_1 a0_2 a0_3 a0_4 a1).bind fun p0 => (if p0 = true then (if a3 = true then (some true) else (some a4)) else ((round_number_towards.f a0_0 a0_1 a0_2 a0_3 a0_4 a1).bind fun q0 => (if q0 = true then (some false) else (if a3 = true then (if a4 = true then (some true) else (some a2)) else (some false)))))
def pattern_Inf.f (k : Nat) (a0 : Bool) : Option (Int) := (pattern_Make.f k a0 2047 0).bind fun p0 => (some p0.1)
def round_number_over.f (k : Nat) (a0_0 : Bool) (a0_1 : Int) (a0_2 : Int) (a0_3 : Int) (a0_4 : Bool) (a1 : Int) : Option (Int × Int) := (pattern_Inf.f k a0_0).bind fun p0 => ((round_number_towards.f a0_0 a0_1 a0_2 a0_3 a0_4 a1).bind fun q0 => (if q0 = true then (some (IntKind.u64.wrap (p0 - 1), 5)) else (some (p0, 5))))
mutual
def round_number_float.j0 : Nat → Int → Int → Int → Bool → Bool → Bool → Int → Int → Int → Bool → Int → Int → Option (Int × Int)
 | 0, _, _, _, _, _, _, _, _, _, _, _, _ => none
 | k + 1, x1, x6, x7, x9, p0, q0, u0, v0, y0, z0, e0, f0 => (round_number_up.f q0 u0 v0 y0 z0 x1 ((Go.bits .and .u64 f0 1) == 1) x9 p0).bind fun g0 => (if g0 = true then (round_number_float.j1 k x1 x6 x7 x9 p0 (IntKind.u64.wrap (f0 + 1)) q0 u0 v0 y0 z0) else (round_number_float.j1 k x1 x6 x7 x9 p0 f0 q0 u0 v0 y0 z0))
def round_number_float.j1 : Nat → Int → Int → Int → Bool → Bool → Int → Bool → Int → Int → Int → Bool → Option (Int × Int)
 | 0, _, _, _, _, _, _, _, _, _, _, _ => none
 | k + 1, x1, x6, x7, x9, p0, h0, q0, u0, v0, y0, z0 => if h0 = 9007199254740992 then (round_number_float.j2 k x1 x6 (wrap64 (x7 + 1)) x9 p0 (h0 / 2) q0 u0 v0 y0 z0) else (round_number_float.j2 k x1 x6 x7 x9 p0 h0 q0 u0 v0 y0 z0)
def round_number_float.j2 : Nat → Int → Int → Int → Bool → Bool → Int → Bool → Int → Int → Int → Bool → Option (Int × Int)
 | 0, _, _, _, _, _, _, _, _, _, _, _ => none
 | k + 1, x1, x6, x7, x9, p0, h0, q0, u0, v0, y0, z0 => if x7 > 971 then ((round_number_over.f k q0 u0 v0 y0 z0 x1).bind fun i0 => (some (i0.1, i0.2))) else (if x9 = true then (round_number_float.j3 k x6 x7 h0 0 true q0 u0 v0 y0 z0) else (round_number_float.j3 k x6 x7 h0 0 p0 q0 u0 v0 y0 z0))
def round_number_float.j3 : Nat → Int → Int → Int → Int → Bool → Bool → Int → Int → Int → Bool → Option (Int × Int)
 | 0, _, _, _, _, _, _, _, _, _, _ => none
 | k + 1, x6, x7, h0, p1, q1, q0, u0, v0, y0, z0 => if q1 = true then (if (wrap64 (x6 + y0)) ≤ (-1022) then (if (h0 / 4503599627370496) = 1 then ((pattern_Make.f k q0 (wrap64 ((wrap64 (x7 - (-1074))) + 1)) (Go.bits .and .u64 h0 4503599627370495)).bind fun u1 => (some (u1.1, Go.bits .or .u8 1 2))) else ((pattern_Make.f k q0 0 (Go.bits .and .u64 h0 4503599627370495)).bind fun v1 => (some (v1.1, Go.bits .or .u8 1 2)))) else (if (h0 / 4503599627370496) = 1 then ((pattern_Make.f k q0 (wrap64 ((wrap64 (x7 - (-1074))) + 1)) (Go.bits .and .u64 h0 4503599627370495)).bind fun y1 => (some (y1.1, 1))) else ((pattern_Make.f k q0 0 (Go.bits .and .u64 h0 4503599627370495)).bind fun z1 => (some (z1.1, 1))))) else (if (h0 / 4503599627370496) = 1 then ((pattern_Make.f k q0 (wrap64 ((wrap64 (x7 - (-1074))) + 1)) (Go.bits .and .u64 h0 4503599627370495)).bind fun e1 => (some (e1.1, p1))) else ((pattern_Make.f k q0 0 (Go.bits .and .u64 h0 4503599627370495)).bind fun f1 => (some (f1.1, p1))))
end
def round_number_float.f (k : Nat) (a0_0 : Bool) (a0_1 : Int) (a0_2 : Int) (a0_3 : Int) (a0_4 : Bool) (a1 : Int) : Option (Int × Int) := (wide_U128_Len.f a0_1 a0_2).bind fun p0 => (if (wrap64 ((mx (wrap64 ((wrap64 (p0 - 53)) + a0_3)) (-1074)) - a0_3)) > 0 then ((wide_U128_Shr.f k a0_1 a0_2 (wrap64 ((wrap64 ((mx (wrap64 ((wrap64 (p0 - 53)) + a0_3)) (-1074)) - a0_3)) - 1))).bind fun q0 => (if a0_4 = true then ((wide_U128_Shr.f k q0.1 q0.2.1 1).bind fun u0 => (round_number_float.j0 k a1 p0 (mx (wrap64 ((wrap64 (p0 - 53)) + a0_3)) (-1074)) ((Go.bits .and .u64 q0.2.1 1) == 1) true a0_0 a0_1 a0_2 a0_3 a0_4 u0.1 u0.2.1)) else ((wide_U128_Shr.f k q0.1 q0.2.1 1).bind fun v0 => (round_number_float.j0 k a1 p0 (mx (wrap64 ((wrap64 (p0 - 53)) + a0_3)) (-1074)) ((Go.bits .and .u64 q0.2.1 1) == 1) q0.2.2 a0_0 a0_1 a0_2 a0_3 a0_4 v0.1 v0.2.1)))) else ((wide_U128_Shl.f k a0_1 a0_2 (wrap64 (-(wrap64 ((mx (wrap64 ((wrap64 (p0 - 53)) + a0_3)) (-1074)) - a0_3))))).bind fun y0 => (round_number_float.j0 k a1 p0 (mx (wrap64 ((wrap64 (p0 - 53)) + a0_3)) (-1074)) false a0_4 a0_0 a0_1 a0_2 a0_3 a0_4 y0.1 y0.2)))
def round_Round.f (k : Nat) (a0 : Bool) (a1_0 : Int) (a1_1 : Int) (a2 : Int) (a3 : Bool) (a4 : Int) : Option (Int × Int) := (wide_U128_Len.f a1_0 a1_1).bind fun p0 => (if p0 = 0 then ((pattern_Make.f k a0 0 0).bind fun q0 => (some (q0.1, 0))) else (if a3 = true then ((round_number_float.f k a0 a1_0 a1_1 (mn (mx a2 (-5000)) 5000) (decide (p0 > 53)) a4).bind fun u0 => (some (u0.1, u0.2))) else ((round_number_float.f k a0 a1_0 a1_1 (mn (mx a2 (-5000)) 5000) false a4).bind fun v0 => (some (v0.1, v0.2)))))
def wide_U128_Add.f (a0_0 : Int) (a0_1 : Int) (a1_0 : Int) (a1_1 : Int) : Option (Int × Int × Int) :=
 if 0 ≤ a0_0 ∧ 0 ≤ a0_1 ∧ 0 ≤ a1_0 ∧ 0 ≤ a1_1 ∧ a0_1 < 18446744073709551616 ∧ a1_1 < 18446744073709551616 then
  some ((a0_0 + a1_0 + (a0_1 + a1_1) / 18446744073709551616) % 18446744073709551616, (a0_1 + a1_1) % 18446744073709551616, (a0_0 + a1_0 + (a0_1 + a1_1) / 18446744073709551616) / 18446744073709551616)
 else none
def wide_U128_Sub.f (a0_0 : Int) (a0_1 : Int) (a1_0 : Int) (a1_1 : Int) : Option (Int × Int × Int) :=
 if 0 ≤ a0_0 ∧ 0 ≤ a0_1 ∧ 0 ≤ a1_0 ∧ 0 ≤ a1_1 ∧ a0_0 < 18446744073709551616 ∧ a0_1 < 18446744073709551616 ∧ a1_0 < 18446744073709551616 ∧ a1_1 < 18446744073709551616 then
  some ((a0_0 - a1_0 - (if a0_1 < a1_1 then 1 else 0)) % 18446744073709551616, (a0_1 - a1_1) % 18446744073709551616, if a0_0 < a1_0 + (if a0_1 < a1_1 then 1 else 0) then 1 else 0)
 else none
def soft_num_add.f (k : Nat) (a0_0 : Int) (a0_1 : Int) (a0_2 : Bool) (a0_3 : Int) (a0_4 : Int) (a1_0 : Int) (a1_1 : Int) (a1_2 : Bool) (a1_3 : Int) (a1_4 : Int) (a2 : Int) : Option (Int × Int) := (wide_U128_Shl.f k 0 a0_3 70).bind fun p0 => ((wide_U128_Shl.f k 0 a1_3 70).bind fun q0 => ((wide_U128_Shr.f k q0.1 q0.2 (wrap64 (a0_4 - a1_4))).bind fun u0 => (if (a0_2 == a1_2) = true then ((wide_U128_Add.f p0.1 p0.2 u0.1 u0.2.1).bind fun v0 => ((round_Round.f k a0_2 v0.1 v0.2.1 (wrap64 (a0_4 - 70)) u0.2.2 a2).bind fun y0 => (some (y0.1, y0.2)))) else ((wide_U128_Sub.f p0.1 p0.2 u0.1 u0.2.1).bind fun z0 => (if (z0.1 == 0 && (z0.2.1 == 0)) = true then ((soft_zero.f k (a2 == 2)).bind fun e0 => (some (e0, 0))) else (if u0.2.2 = true then ((wide_U128_Sub.f z0.1 z0.2.1 0 1).bind fun f0 => ((round_Round.f k a0_2 f0.1 f0.2.1 (wrap64 (a0_4 - 70)) u0.2.2 a2).bind fun g0 => (some (g0.1, g0.2)))) else ((round_Round.f k a0_2 z0.1 z0.2.1 (wrap64 (a0_4 - 70)) u0.2.2 a2).bind fun h0 => (some (h0.1, h0.2)))))))))
mutual
def soft_Add.j0 : Nat → Int → Int → Int → Bool → Int → Int → Bool → Int → Int → Int → Int → Bool → Int → Int → Option (Int × Int)
 | 0, _, _, _, _, _, _, _, _, _, _, _, _, _, _ => none
 | k + 1, x0, x1, x2, p0, q0, u0, v0, y0, z0, e0, f0, g0, h0, i0 => if p0 = true then ((soft_invalid.f).bind fun p1 => (some (p1.1, p1.2))) else (if u0 = 3 then (some (x0, 0)) else (if f0 = 3 then (some (x1, 0)) else (if y0 = 0 then (if h0 = 0 then (soft_Add.j1 k x0 x1 x2 (v0 == g0) q0 u0 v0 y0 z0 e0 f0 g0 h0 i0) else (soft_Add.j1 k x0 x1 x2 false q0 u0 v0 y0 z0 e0 f0 g0 h0 i0)) else (soft_Add.j1 k x0 x1 x2 false q0 u0 v0 y0 z0 e0 f0 g0 h0 i0))))
def soft_Add.j1 : Nat → Int → Int → Int → Bool → Int → Int → Bool → Int → Int → Int → Int → Bool → Int → Int → Option (Int × Int)
 | 0, _, _, _, _, _, _, _, _, _, _, _, _, _, _ => none
 | k + 1, x0, x1, x2, q1, q0, u0, v0, y0, z0, e0, f0, g0, h0, i0 => if q1 = true then (some (x0, 0)) else (if y0 = 0 then (soft_Add.j2 k x0 x1 x2 (h0 == 0) q0 u0 v0 y0 z0 e0 f0 g0 h0 i0) else (soft_Add.j2 k x0 x1 x2 false q0 u0 v0 y0 z0 e0 f0 g0 h0 i0))
def soft_Add.j2 : Nat → Int → Int → Int → Bool → Int → Int → Bool → Int → Int → Int → Int → Bool → Int → Int → Option (Int × Int)
 | 0, _, _, _, _, _, _, _, _, _, _, _, _, _, _ => none
 | k + 1, x0, x1, x2, u1, q0, u0, v0, y0, z0, e0, f0, g0, h0, i0 => if u1 = true then ((soft_zero.f k (x2 == 2)).bind fun v1 => (some (v1, 0))) else (if y0 = 0 then (some (x1, 0)) else (if h0 = 0 then (some (x0, 0)) else (if z0 < i0 then ((soft_num_add.f k e0 f0 g0 h0 i0 q0 u0 v0 y0 z0 x2).bind fun y1 => (some (y1.1, y1.2))) else (if z0 = i0 then (if y0 < h0 then ((soft_num_add.f k e0 f0 g0 h0 i0 q0 u0 v0 y0 z0 x2).bind fun z1 => (some (z1.1, z1.2))) else ((soft_num_add.f k q0 u0 v0 y0 z0 e0 f0 g0 h0 i0 x2).bind fun e1 => (some (e1.1, e1.2)))) else ((soft_num_add.f k q0 u0 v0 y0 z0 e0 f0 g0 h0 i0 x2).bind fun f1 => (some (f1.1, f1.2)))))))
end
def soft_Add.f (k : Nat) (a0 : Int) (a1 : Int) (a2 : Int) : Option (Int × Int) := (soft_of.f k a0).bind fun p0 => ((soft_of.f k a1).bind fun q0 => ((soft_either.f p0.1 p0.2.1 p0.2.2.1 p0.2.2.2.1 p0.2.2.2.2 q0.1 q0.2.1 q0.2.2.1 q0.2.2.2.1 q0.2.2.2.2 4).bind fun u0 => (if u0 = true then ((pattern_Quiet.f).bind fun v0 => (some (v0, 0))) else (if p0.2.1 = 3 then (if q0.2.1 = 3 then (soft_Add.j0 k a0 a1 a2 (p0.2.2.1 != q0.2.2.1) p0.1 p0.2.1 p0.2.2.1 p0.2.2.2.1 p0.2.2.2.2 q0.1 q0.2.1 q0.2.2.1 q0.2.2.2.1 q0.2.2.2.2) else (soft_Add.j0 k a0 a1 a2 false p0.1 p0.2.1 p0.2.2.1 p0.2.2.2.1 p0.2.2.2.2 q0.1 q0.2.1 q0.2.2.1 q0.2.2.2.1 q0.2.2.2.2)) else (soft_Add.j0 k a0 a1 a2 false p0.1 p0.2.1 p0.2.2.1 p0.2.2.2.1 p0.2.2.2.2 q0.1 q0.2.1 q0.2.2.1 q0.2.2.2.1 q0.2.2.2.2)))))
def pattern_nan.f (k : Nat) (a0 : Int) : Option (Bool) := (pattern_Class.f k a0).bind fun p0 => (some (p0 == 4))
def pattern_Neg.f (k : Nat) (a0 : Int) : Option (Int) := (pattern_nan.f k a0).bind fun p0 => (if p0 = true then (some a0) else (some (Go.bits .xor .u64 a0 9223372036854775808)))
def soft_Sub.f (k : Nat) (a0 : Int) (a1 : Int) (a2 : Int) : Option (Int × Int) := (pattern_Neg.f k a1).bind fun p0 => ((soft_Add.f k a0 p0 a2).bind fun q0 => (some (q0.1, q0.2)))
def bits_Mul64.f (a0 : Int) (a1 : Int) : Option (Int × Int) :=
 if 0 ≤ a0 ∧ 0 ≤ a1 ∧ a0 < 18446744073709551616 ∧ a1 < 18446744073709551616 then some (a0 * a1 / 18446744073709551616, a0 * a1 % 18446744073709551616) else none
def wide_Mul.f (a0 : Int) (a1 : Int) : Option (Int × Int) := (bits_Mul64.f a0 a1).bind fun p0 => (some (p0.1, p0.2))
def soft_Mul.j0 : Nat → Int → Bool → Bool → Int → Int → Bool → Int → Int → Int → Int → Bool → Int → Int → Option (Int × Int)
 | 0, _, _, _, _, _, _, _, _, _, _, _, _, _ => none
 | k + 1, x2, p0, q0, u0, v0, y0, z0, e0, f0, g0, h0, i0, p1 => if q0 = true then ((soft_invalid.f).bind fun q1 => (some (q1.1, q1.2))) else ((soft_either.f u0 v0 y0 z0 e0 f0 g0 h0 i0 p1 3).bind fun u1 => (if u1 = true then ((pattern_Inf.f k p0).bind fun v1 => (some (v1, 0))) else ((wide_Mul.f z0 i0).bind fun y1 => ((round_Round.f k p0 y1.1 y1.2 (wrap64 (e0 + p1)) false x2).bind fun z1 => (some (z1.1, z1.2))))))
def soft_Mul.f (k : Nat) (a0 : Int) (a1 : Int) (a2 : Int) : Option (Int × Int) := (soft_of.f k a0).bind fun p0 => ((soft_of.f k a1).bind fun q0 => ((soft_either.f p0.1 p0.2.1 p0.2.2.1 p0.2.2.2.1 p0.2.2.2.2 q0.1 q0.2.1 q0.2.2.1 q0.2.2.2.1 q0.2.2.2.2 4).bind fun u0 => (if u0 = true then ((pattern_Quiet.f).bind fun v0 => (some (v0, 0))) else ((soft_either.f p0.1 p0.2.1 p0.2.2.1 p0.2.2.2.1 p0.2.2.2.2 q0.1 q0.2.1 q0.2.2.1 q0.2.2.2.1 q0.2.2.2.2 3).bind fun y0 => (if y0 = true then ((soft_either.f p0.1 p0.2.1 p0.2.2.1 p0.2.2.2.1 p0.2.2.2.2 q0.1 q0.2.1 q0.2.2.1 q0.2.2.2.1 q0.2.2.2.2 0).bind fun z0 => (soft_Mul.j0 k a2 (p0.2.2.1 != q0.2.2.1) z0 p0.1 p0.2.1 p0.2.2.1 p0.2.2.2.1 p0.2.2.2.2 q0.1 q0.2.1 q0.2.2.1 q0.2.2.2.1 q0.2.2.2.2)) else (soft_Mul.j0 k a2 (p0.2.2.1 != q0.2.2.1) false p0.1 p0.2.1 p0.2.2.1 p0.2.2.2.1 p0.2.2.2.2 q0.1 q0.2.1 q0.2.2.1 q0.2.2.2.1 q0.2.2.2.2))))))
def bits_LeadingZeros64.f (a0 : Int) : Option Int := if 0 ≤ a0 ∧ a0 ≤ 18446744073709551615 then some (64 - (Lib.bitLen a0.toNat : Int)) else none
mutual
def bits_Div64q.j2 : Nat → Int → Int → Int → Int → Int → Int → Int → Int → Option (Int × Int)
 | 0, _, _, _, _, _, _, _, _ => none
 | k + 1, x2, x8, x9, p0, q0, u0, v0, y0 => if x9 = 0 then (none) else (bits_Div64q.l1 k x2 x8 x9 p0 v0 y0 (IntKind.u64.wrap ((IntKind.u64.wrap ((IntKind.u64.wrap ((IntKind.u64.wrap (q0 * 4294967296)) + u0)) - (IntKind.u64.wrap (y0 * x2)))) - (IntKind.u64.wrap ((IntKind.u64.wrap (Int.tdiv (IntKind.u64.wrap ((IntKind.u64.wrap ((IntKind.u64.wrap (q0 * 4294967296)) + u0)) - (IntKind.u64.wrap (y0 * x2)))) x9)) * x9)))) (IntKind.u64.wrap ((IntKind.u64.wrap ((IntKind.u64.wrap (q0 * 4294967296)) + u0)) - (IntKind.u64.wrap (y0 * x2)))) (IntKind.u64.wrap (Int.tdiv (IntKind.u64.wrap ((IntKind.u64.wrap ((IntKind.u64.wrap (q0 * 4294967296)) + u0)) - (IntKind.u64.wrap (y0 * x2)))) x9)))
def bits_Div64q.l1 : Nat → Int → Int → Int → Int → Int → Int → Int → Int → Int → Option (Int × Int)
 | 0, _, _, _, _, _, _, _, _, _ => none
 | k + 1, x2, x8, x9, p0, v0, y0, z0, e0, f0 => if f0 ≥ 4294967296 then (bits_Div64q.j4 k x2 x8 x9 p0 v0 y0 z0 e0 f0 true) else (bits_Div64q.j4 k x2 x8 x9 p0 v0 y0 z0 e0 f0 (decide ((IntKind.u64.wrap (f0 * p0)) > (IntKind.u64.wrap ((IntKind.u64.wrap (4294967296 * z0)) + v0)))))
def bits_Div64q.j4 : Nat → Int → Int → Int → Int → Int → Int → Int → Int → Int → Bool → Option (Int × Int)
 | 0, _, _, _, _, _, _, _, _, _, _ => none
 | k + 1, x2, x8, x9, p0, v0, y0, z0, e0, f0, g0 => if g0 = true then (if (IntKind.u64.wrap (z0 + x9)) ≥ 4294967296 then (if 0 ≤ x8 then (some (IntKind.u64.wrap ((IntKind.u64.wrap (y0 * 4294967296)) + (IntKind.u64.wrap (f0 - 1))), shr .u64 (IntKind.u64.wrap ((IntKind.u64.wrap ((IntKind.u64.wrap (e0 * 4294967296)) + v0)) - (IntKind.u64.wrap ((IntKind.u64.wrap (f0 - 1)) * x2)))) x8)) else (none)) else (bits_Div64q.l1 k x2 x8 x9 p0 v0 y0 (IntKind.u64.wrap (z0 + x9)) e0 (IntKind.u64.wrap (f0 - 1)))) else (if 0 ≤ x8 then (some (IntKind.u64.wrap ((IntKind.u64.wrap (y0 * 4294967296)) + f0), shr .u64 (IntKind.u64.wrap ((IntKind.u64.wrap ((IntKind.u64.wrap (e0 * 4294967296)) + v0)) - (IntKind.u64.wrap (f0 * x2)))) x8)) else (none))
def bits_Div64q.l0 : Nat → Int → Int → Int → Int → Int → Int → Int → Int → Int → Option (Int × Int)
 | 0, _, _, _, _, _, _, _, _, _ => none
 | k + 1, x2, x8, x9, p0, q0, u0, v0, y0, z0 => if y0 ≥ 4294967296 then (bits_Div64q.j1 k x2 x8 x9 p0 q0 u0 v0 y0 z0 true) else (bits_Div64q.j1 k x2 x8 x9 p0 q0 u0 v0 y0 z0 (decide ((IntKind.u64.wrap (y0 * p0)) > (IntKind.u64.wrap ((IntKind.u64.wrap (4294967296 * z0)) + u0)))))
def bits_Div64q.j1 : Nat → Int → Int → Int → Int → Int → Int → Int → Int → Int → Bool → Option (Int × Int)
 | 0, _, _, _, _, _, _, _, _, _, _ => none
 | k + 1, x2, x8, x9, p0, q0, u0, v0, y0, z0, h0 => if h0 = true then (if (IntKind.u64.wrap (z0 + x9)) ≥ 4294967296 then (bits_Div64q.j2 k x2 x8 x9 p0 q0 u0 v0 (IntKind.u64.wrap (y0 - 1))) else (bits_Div64q.l0 k x2 x8 x9 p0 q0 u0 v0 (IntKind.u64.wrap (y0 - 1)) (IntKind.u64.wrap (z0 + x9)))) else (bits_Div64q.j2 k x2 x8 x9 p0 q0 u0 v0 y0)
end
def bits_Div64q.f (k : Nat) (a0 : Int) (a1 : Int) (a2 : Int) : Option (Int × Int) := if a0 = 0 then (if a2 = 0 then (none) else (some (IntKind.u64.wrap (Int.tdiv a1 a2), Int.tmod a1 a2))) else ((bits_LeadingZeros64.f a2).bind fun p0 => (if 0 ≤ (IntKind.u64.wrap (p0)) then (if 0 ≤ (IntKind.u64.wrap (64 - (IntKind.u64.wrap (p0)))) then (if ((shl .u64 a2 (IntKind.u64.wrap (p0))) / 4294967296) = 0 then (none) else (bits_Div64q.l0 k (shl .u64 a2 (IntKind.u64.wrap (p0))) (IntKind.u64.wrap (p0)) ((shl .u64 a2 (IntKind.u64.wrap (p0))) / 4294967296) (Go.bits .and .u64 (shl .u64 a2 (IntKind.u64.wrap (p0))) 4294967295) (Go.bits .or .u64 (shl .u64 a0 (IntKind.u64.wrap (p0))) (shr .u64 a1 (IntKind.u64.wrap (64 - (IntKind.u64.wrap (p0)))))) ((shl .u64 a1 (IntKind.u64.wrap (p0))) / 4294967296) (Go.bits .and .u64 (shl .u64 a1 (IntKind.u64.wrap (p0))) 4294967295) (IntKind.u64.wrap (Int.tdiv (Go.bits .or .u64 (shl .u64 a0 (IntKind.u64.wrap (p0))) (shr .u64 a1 (IntKind.u64.wrap (64 - (IntKind.u64.wrap (p0)))))) ((shl .u64 a2 (IntKind.u64.wrap (p0))) / 4294967296))) (IntKind.u64.wrap ((Go.bits .or .u64 (shl .u64 a0 (IntKind.u64.wrap (p0))) (shr .u64 a1 (IntKind.u64.wrap (64 - (IntKind.u64.wrap (p0)))))) - (IntKind.u64.wrap ((IntKind.u64.wrap (Int.tdiv (Go.bits .or .u64 (shl .u64 a0 (IntKind.u64.wrap (p0))) (shr .u64 a1 (IntKind.u64.wrap (64 - (IntKind.u64.wrap (p0)))))) ((shl .u64 a2 (IntKind.u64.wrap (p0))) / 4294967296))) * ((shl .u64 a2 (IntKind.u64.wrap (p0))) / 4294967296))))))) else (none)) else (none)))
def bits_Div64.f (a0 : Int) (a1 : Int) (a2 : Int) : Option (Int × Int) :=
 if 0 ≤ a0 ∧ 0 ≤ a1 ∧ a1 < 18446744073709551616 ∧ a0 < a2 ∧ a2 < 18446744073709551616 then
  some ((a0 * 18446744073709551616 + a1) / a2, (a0 * 18446744073709551616 + a1) % a2) else none
def wide_U128_Div.f (a0_0 : Int) (a0_1 : Int) (a1 : Int) : Option (Int × Int × Int) := if a1 = 0 then (some (0, 0, 0)) else ((bits_Div64.f 0 a0_0 a1).bind fun p0 => ((bits_Div64.f p0.2 a0_1 a1).bind fun q0 => (some (p0.1, q0.1, q0.2))))
mutual
def soft_Div.j0 : Nat → Int → Bool → Bool → Int → Int → Bool → Int → Int → Int → Int → Bool → Int → Int → Option (Int × Int)
 | 0, _, _, _, _, _, _, _, _, _, _, _, _, _ => none
 | k + 1, x2, p0, q0, u0, v0, y0, z0, e0, f0, g0, h0, i0, p1 => if q0 = true then ((soft_invalid.f).bind fun q1 => (some (q1.1, q1.2))) else (if v0 = 3 then ((pattern_Inf.f k p0).bind fun u1 => (some (u1, 0))) else (if g0 = 0 then ((pattern_Inf.f k p0).bind fun v1 => (some (v1, 8))) else (if v0 = 0 then (soft_Div.j1 k x2 p0 (v0 == 0) u0 v0 y0 z0 e0 f0 g0 h0 i0 p1) else (soft_Div.j1 k x2 p0 (g0 == 3) u0 v0 y0 z0 e0 f0 g0 h0 i0 p1))))
def soft_Div.j1 : Nat → Int → Bool → Bool → Int → Int → Bool → Int → Int → Int → Int → Bool → Int → Int → Option (Int × Int)
 | 0, _, _, _, _, _, _, _, _, _, _, _, _, _ => none
 | k + 1, x2, p0, y1, u0, v0, y0, z0, e0, f0, g0, h0, i0, p1 => if y1 = true then ((soft_zero.f k p0).bind fun z1 => (some (z1, 0))) else ((wide_U128_Len.f 0 z0).bind fun e1 => (if 0 ≤ (wrap64 (64 - e1)) then ((wide_U128_Div.f (shl .u64 z0 (wrap64 (64 - e1))) 0 i0).bind fun f1 => ((round_Round.f k p0 f1.1 f1.2.1 (wrap64 ((wrap64 ((wrap64 (e0 - (wrap64 (64 - e1)))) - 64)) - p1)) (f1.2.2 != 0) x2).bind fun g1 => (some (g1.1, g1.2)))) else (none)))
end
def soft_Div.f (k : Nat) (a0 : Int) (a1 : Int) (a2 : Int) : Option (Int × Int) := (soft_of.f k a0).bind fun p0 => ((soft_of.f k a1).bind fun q0 => ((soft_either.f p0.1 p0.2.1 p0.2.2.1 p0.2.2.2.1 p0.2.2.2.2 q0.1 q0.2.1 q0.2.2.1 q0.2.2.2.1 q0.2.2.2.2 4).bind fun u0 => (if u0 = true then ((pattern_Quiet.f).bind fun v0 => (some (v0, 0))) else (if p0.2.1 = q0.2.1 then (if p0.2.1 = 3 then (soft_Div.j0 k a2 (p0.2.2.1 != q0.2.2.1) true p0.1 p0.2.1 p0.2.2.1 p0.2.2.2.1 p0.2.2.2.2 q0.1 q0.2.1 q0.2.2.1 q0.2.2.2.1 q0.2.2.2.2) else (soft_Div.j0 k a2 (p0.2.2.1 != q0.2.2.1) (p0.2.1 == 0) p0.1 p0.2.1 p0.2.2.1 p0.2.2.2.1 p0.2.2.2.2 q0.1 q0.2.1 q0.2.2.1 q0.2.2.2.1 q0.2.2.2.2)) else (soft_Div.j0 k a2 (p0.2.2.1 != q0.2.2.1) false p0.1 p0.2.1 p0.2.2.1 p0.2.2.2.1 p0.2.2.2.2 q0.1 q0.2.1 q0.2.2.1 q0.2.2.2.1 q0.2.2.2.2)))))
def soft_Sum.l0 : Nat → Int → Int → List Int → Int → Int → Option (Int)
 | 0, _, _, _, _, _ => none
 | k + 1, x0, x5, x8, x9, p0 => if p0 < x9 then (if 0 ≤ p0 then (if p0 < (x8.length : Int) then ((soft_Add.f k x5 (rd x8 p0) x0).bind fun q0 => (soft_Sum.l0 k x0 q0.1 x8 x9 (wrap64 (p0 + 1)))) else (none)) else (none)) else (some x5)
def pattern_key.f (a0 : Int) : Option (Int) := if (a0 / 9223372036854775808) = 1 then (some (wrap64 (-(wrap64 (Go.bits .andNot .u64 a0 9223372036854775808))))) else (some (wrap64 (Go.bits .andNot .u64 a0 9223372036854775808)))
def pattern_Cmp.j0 : Nat → Int → Int → Bool → Option (Int × Bool)
 | 0, _, _, _ => none
 | k + 1, x0, x1, p0 => if p0 = true then (some (0, false)) else ((pattern_key.f x0).bind fun q0 => ((pattern_key.f x1).bind fun u0 => (if q0 < u0 then (some ((-1), true)) else (if q0 > u0 then (some (1, true)) else (some (0, true))))))
def pattern_Cmp.f (k : Nat) (a0 : Int) (a1 : Int) : Option (Int × Bool) := (pattern_nan.f k a0).bind fun p0 => (if p0 = true then (pattern_Cmp.j0 k a0 a1 true) else ((pattern_nan.f k a1).bind fun q0 => (pattern_Cmp.j0 k a0 a1 q0)))
def pattern_Less.f (k : Nat) (a0 : Int) (a1 : Int) : Option (Bool) := (pattern_Cmp.f k a0 a1).bind fun p0 => (if p0.2 = true then (some (decide (p0.1 < 0))) else (some false))
def span_ninf.f (k : Nat)  : Option (Int) := (pattern_Inf.f k true).bind fun p0 => (some p0)
def span_inf.f (k : Nat)  : Option (Int) := (pattern_Inf.f k false).bind fun p0 => (some p0)
def span_atMost.f (k : Nat) (a0 : Int) (a1 : Int) : Option (Bool) := (pattern_Cmp.f k a0 a1).bind fun p0 => (if p0.2 = true then (some (decide (p0.1 ≤ 0))) else (some false))
def span_none.f  : Option (Bool × Int × Int) := some (true, 0, 0)
def span_norm.f (k : Nat) (a0_0 : Bool) (a0_1 : Int) (a0_2 : Int) : Option (Bool × Int × Int) := if a0_0 = true then ((span_none.f).bind fun p0 => (some (p0.1, p0.2.1, p0.2.2))) else ((span_atMost.f k a0_1 a0_2).bind fun q0 => (if q0 = true then ((span_inf.f k).bind fun u0 => (if a0_1 = u0 then ((span_none.f).bind fun v0 => (some (v0.1, v0.2.1, v0.2.2))) else ((span_ninf.f k).bind fun y0 => (if a0_2 = y0 then ((span_none.f).bind fun z0 => (some (z0.1, z0.2.1, z0.2.2))) else ((pattern_Class.f k a0_1).bind fun c1 => ((pattern_Class.f k a0_2).bind fun c2 => (some (a0_0, (if c1 = 0 then 0 else a0_1), (if c2 = 0 then 0 else a0_2))))))))) else ((span_none.f).bind fun e0 => (some (e0.1, e0.2.1, e0.2.2)))))
def span_Make.f (k : Nat) (a0 : Int) (a1 : Int) : Option (Bool × Int × Int) := (span_norm.f k false a0 a1).bind fun p0 => (some (p0.1, p0.2.1, p0.2.2))
def span_Point.f (k : Nat) (a0 : Int) : Option (Bool × Int × Int) := (span_Make.f k a0 a0).bind fun p0 => (some (p0.1, p0.2.1, p0.2.2))
def span_All.f (k : Nat)  : Option (Bool × Int × Int) := (span_ninf.f k).bind fun p0 => ((span_inf.f k).bind fun q0 => ((span_Make.f k p0 q0).bind fun u0 => (some (u0.1, u0.2.1, u0.2.2))))
def span_Inside.f (k : Nat) (a0_0 : Bool) (a0_1 : Int) (a0_2 : Int) (a1_0 : Bool) (a1_1 : Int) (a1_2 : Int) : Option (Bool) := (span_norm.f k a0_0 a0_1 a0_2).bind fun p0 => ((span_norm.f k a1_0 a1_1 a1_2).bind fun q0 => (if p0.1 = true then (some true) else (if q0.1 = true then (some false) else ((span_atMost.f k q0.2.1 p0.2.1).bind fun u0 => (if u0 = true then ((span_atMost.f k p0.2.2 q0.2.2).bind fun v0 => (some v0)) else (some false))))))
def span_Has.f (k : Nat) (a0_0 : Bool) (a0_1 : Int) (a0_2 : Int) (a1 : Int) : Option (Bool) := (pattern_Class.f k a1).bind fun p0 => (if p0 = 3 then (some false) else ((span_Point.f k a1).bind fun q0 => (if q0.1 = true then (some false) else ((span_Point.f k a1).bind fun u0 => ((span_Inside.f k u0.1 u0.2.1 u0.2.2 a0_0 a0_1 a0_2).bind fun v0 => (some v0))))))
def pattern_Min.f (k : Nat) (l0 : List Int) : Option Int :=
 match l0 with
 | [x, y] => (pattern_nan.f k x).bind fun t => if t = true then none else (pattern_Less.f k x x).bind fun _ => (pattern_nan.f k y).bind fun u => if u = true then none else (pattern_Less.f k y x).bind fun b => some (if b = true then y else x)
 | _ => none
def pattern_Max.f (k : Nat) (l0 : List Int) : Option Int :=
 match l0 with
 | [x, y] => (pattern_nan.f k x).bind fun t => if t = true then none else (pattern_Less.f k x x).bind fun _ => (pattern_nan.f k y).bind fun u => if u = true then none else (pattern_Less.f k x y).bind fun b => some (if b = true then y else x)
 | _ => none
def span_Join.l0 : Nat → List (S43) → Int → Int → Bool → Int → Int → Option (Bool × Int × Int)
 | 0, _, _, _, _, _, _ => none
 | k + 1, x7, x8, x9, p0, q0, u0 => if x9 < x8 then (if 0 ≤ x9 then (if x9 < (x7.length : Int) then ((span_norm.f k ((rd_T43 x7 x9).f0) ((rd_T43 x7 x9).f1) ((rd_T43 x7 x9).f2)).bind fun v0 => (if v0.1 = true then (span_Join.l0 k x7 x8 (wrap64 (x9 + 1)) p0 q0 u0) else (if p0 = true then (span_Join.l0 k x7 x8 (wrap64 (x9 + 1)) v0.1 v0.2.1 v0.2.2) else ((pattern_Min.f k (([q0, v0.2.1] : List Int))).bind fun y0 => ((pattern_Max.f k (([u0, v0.2.2] : List Int))).bind fun z0 => ((span_Make.f k y0 z0).bind fun e0 => (span_Join.l0 k x7 x8 (wrap64 (x9 + 1)) e0.1 e0.2.1 e0.2.2))))))) else (none)) else (none)) else (some (p0, q0, u0))
def span_Join.f (k : Nat) (l0 : List (S43)) : Option (Bool × Int × Int) := (span_none.f).bind fun p0 => (span_Join.l0 k l0 (l0.length : Int) 0 p0.1 p0.2.1 p0.2.2)
def span_Neg.f (k : Nat) (a0_0 : Bool) (a0_1 : Int) (a0_2 : Int) : Option (Bool × Int × Int) := (span_norm.f k a0_0 a0_1 a0_2).bind fun p0 => (if p0.1 = true then (some (p0.1, p0.2.1, p0.2.2)) else ((pattern_Neg.f k p0.2.2).bind fun q0 => ((pattern_Neg.f k p0.2.1).bind fun u0 => ((span_Make.f k q0 u0).bind fun v0 => (some (v0.1, v0.2.1, v0.2.2))))))
def span_Abs.j0 : Nat → Bool → Bool → Int → Int → Option (Bool × Int × Int)
 | 0, _, _, _, _ => none
 | k + 1, x5, p0, q0, u0 => if x5 = true then (some (p0, q0, u0)) else ((span_atMost.f k u0 0).bind fun v0 => (if v0 = true then ((span_Neg.f k p0 q0 u0).bind fun y0 => (some (y0.1, y0.2.1, y0.2.2))) else ((pattern_Neg.f k q0).bind fun z0 => ((pattern_Max.f k (([z0, u0] : List Int))).bind fun e0 => ((span_Make.f k 0 e0).bind fun f0 => (some (f0.1, f0.2.1, f0.2.2)))))))
def span_Abs.f (k : Nat) (a0_0 : Bool) (a0_1 : Int) (a0_2 : Int) : Option (Bool × Int × Int) := (span_norm.f k a0_0 a0_1 a0_2).bind fun p0 => (if p0.1 = true then (span_Abs.j0 k p0.1 p0.1 p0.2.1 p0.2.2) else ((span_atMost.f k 0 p0.2.1).bind fun q0 => (span_Abs.j0 k q0 p0.1 p0.2.1 p0.2.2)))
def span_Most.f (k : Nat) (a0_0 : Bool) (a0_1 : Int) (a0_2 : Int) : Option (Int) := (span_Abs.f k a0_0 a0_1 a0_2).bind fun p0 => (some p0.2.2)
def slip_inf.f (k : Nat)  : Option (Int) := (pattern_Inf.f k false).bind fun p0 => (some p0)
def slip_zero.f (k : Nat) (a0 : Int) : Option (Bool) := (pattern_Class.f k a0).bind fun p0 => (some (p0 == 0))
def slip_Good.f (k : Nat) (a0 : Int) : Option (Int) := (slip_zero.f k a0).bind fun p0 => (if p0 = true then (some 0) else ((pattern_Class.f k a0).bind fun q0 => (if q0 = 4 then ((slip_inf.f k).bind fun u0 => (some u0)) else (if (a0 / 9223372036854775808) = 1 then ((slip_inf.f k).bind fun v0 => (some v0)) else (some a0)))))
def slip_Widen.l0 : Nat → Int → Int → List Int → Int → Int → Option (Int)
 | 0, _, _, _, _, _ => none
 | k + 1, x1, x7, p0, q0, u0 => if u0 < q0 then (if 0 ≤ u0 then (if u0 < (p0.length : Int) then ((pattern_Cmp.f k x1 (rd p0 u0)).bind fun v0 => (if v0.2 = true then (if v0.1 ≤ 0 then ((pattern_Less.f k (rd p0 u0) x7).bind fun y0 => (if y0 = true then (slip_Widen.l0 k x1 (rd p0 u0) p0 q0 (wrap64 (u0 + 1))) else (slip_Widen.l0 k x1 x7 p0 q0 (wrap64 (u0 + 1))))) else (slip_Widen.l0 k x1 x7 p0 q0 (wrap64 (u0 + 1)))) else (slip_Widen.l0 k x1 x7 p0 q0 (wrap64 (u0 + 1))))) else (none)) else (none)) else (some x7)
def slip_Widen.f (k : Nat) (a0 : Int) (a1 : Int) (l2 : List Int) : Option (Int) := (slip_Good.f k a0).bind fun p0 => ((slip_Good.f k a1).bind fun q0 => ((pattern_Less.f k p0 q0).bind fun u0 => (if u0 = true then ((slip_inf.f k).bind fun v0 => (slip_Widen.l0 k q0 v0 l2 (l2.length : Int) 0)) else (some p0))))
def slip_Join.l0 : Nat → Int → List Int → Int → Int → Option (Int)
 | 0, _, _, _, _ => none
 | k + 1, x3, x6, x7, x8 => if x8 < x7 then (if 0 ≤ x8 then (if x8 < (x6.length : Int) then ((slip_Good.f k (rd x6 x8)).bind fun p0 => ((pattern_Max.f k (([x3, p0] : List Int))).bind fun q0 => (slip_Join.l0 k q0 x6 x7 (wrap64 (x8 + 1))))) else (none)) else (none)) else (some x3)
def slip_Join.f (k : Nat) (l0 : List Int) : Option (Int) := slip_Join.l0 k 0 l0 (l0.length : Int) 0
def slip_mul.j0 : Nat → Int → Int → Bool → Option (Int)
 | 0, _, _, _ => none
 | k + 1, x0, x1, p0 => if p0 = true then (some 0) else ((soft_Mul.f k x0 x1 1).bind fun q0 => ((slip_Good.f k q0.1).bind fun u0 => (some u0)))
def slip_mul.f (k : Nat) (a0 : Int) (a1 : Int) : Option (Int) := (slip_zero.f k a0).bind fun p0 => (if p0 = true then (slip_mul.j0 k a0 a1 true) else ((slip_zero.f k a1).bind fun q0 => (slip_mul.j0 k a0 a1 q0)))
def slip_Round.f (k : Nat) (a0 : Int) : Option (Int) := (slip_Good.f k a0).bind fun p0 => (if p0 = 0 then (some 0) else ((slip_inf.f k).bind fun q0 => (if p0 = q0 then (some p0) else ((slip_mul.f k p0 4368491638549381120).bind fun u0 => ((pattern_Max.f k (([u0, 1] : List Int))).bind fun v0 => (some v0))))))
def slip_sides_fades.f (k : Nat) (a0_0 : Bool) (a0_1 : Int) (a0_2 : Int) (a0_3 : Bool) (a0_4 : Int) (a0_5 : Int) (a0_6 : Bool) (a0_7 : Int) (a0_8 : Int) (a0_9 : Int) (a0_10 : Int) (a1 : Int) : Option (Bool) := if a1 = 7 then ((span_Most.f k a0_0 a0_1 a0_2).bind fun p0 => (if p0 = 0 then (some false) else ((span_Most.f k a0_3 a0_4 a0_5).bind fun q0 => (some (q0 != 0))))) else (if a1 = 8 then ((span_Most.f k a0_0 a0_1 a0_2).bind fun u0 => (some (u0 != 0))) else (some false))
def slip_add.f (k : Nat) (a0 : Int) (a1 : Int) : Option (Int) := (soft_Add.f k a0 a1 1).bind fun p0 => ((slip_Good.f k p0.1).bind fun q0 => (some q0))
def slip_div.f (k : Nat) (a0 : Int) (a1 : Int) : Option (Int) := (soft_Div.f k a0 a1 1).bind fun p0 => ((slip_Good.f k p0.1).bind fun q0 => (some q0))
def slip_sides_quotient.f (k : Nat) (a0_0 : Bool) (a0_1 : Int) (a0_2 : Int) (a0_3 : Bool) (a0_4 : Int) (a0_5 : Int) (a0_6 : Bool) (a0_7 : Int) (a0_8 : Int) (a0_9 : Int) (a0_10 : Int) (a1 : Int) : Option (Int) := (span_Has.f k a0_3 a0_4 a0_5 0).bind fun p0 => (if p0 = true then ((slip_inf.f k).bind fun q0 => (some q0)) else ((span_Abs.f k a0_3 a0_4 a0_5).bind fun u0 => ((soft_Sub.f k u0.2.1 a0_10 2).bind fun v0 => ((pattern_Less.f k 0 v0.1).bind fun y0 => (if y0 = true then ((span_Most.f k a0_0 a0_1 a0_2).bind fun z0 => ((slip_div.f k z0 u0.2.1).bind fun e0 => ((slip_mul.f k e0 a0_10).bind fun f0 => ((slip_add.f k f0 a0_9).bind fun g0 => ((slip_div.f k g0 v0.1).bind fun h0 => ((slip_add.f k h0 a1).bind fun i0 => (some i0))))))) else ((slip_inf.f k).bind fun j0 => (some j0)))))))
mutual
def slip_Do.j0 : Nat → Int → Bool → Bool → Int → Int → Bool → Int → Int → Bool → Int → Int → Int → Int → Option (Int)
 | 0, _, _, _, _, _, _, _, _, _, _, _, _, _ => none
 | k + 1, x0, p0, q0, u0, v0, y0, z0, e0, f0, g0, h0, i0, p1 => if p0 = true then (some 0) else ((span_Most.f k f0 g0 h0).bind fun q1 => ((slip_Round.f k q1).bind fun u1 => ((slip_sides_fades.f k q0 u0 v0 y0 z0 e0 f0 g0 h0 i0 p1 x0).bind fun v1 => (if v1 = true then (slip_Do.j1 k x0 u1 (u1 == 0) q0 u0 v0 y0 z0 e0 f0 g0 h0 i0 p1) else (slip_Do.j1 k x0 u1 false q0 u0 v0 y0 z0 e0 f0 g0 h0 i0 p1)))))
def slip_Do.j1 : Nat → Int → Int → Bool → Bool → Int → Int → Bool → Int → Int → Bool → Int → Int → Int → Int → Option (Int)
 | 0, _, _, _, _, _, _, _, _, _, _, _, _, _, _ => none
 | k + 1, x0, y1, z1, q0, u0, v0, y0, z0, e0, f0, g0, h0, i0, p1 => if z1 = true then (slip_Do.j2 k x0 1 q0 u0 v0 y0 z0 e0 f0 g0 h0 i0 p1) else (slip_Do.j2 k x0 y1 q0 u0 v0 y0 z0 e0 f0 g0 h0 i0 p1)
def slip_Do.j2 : Nat → Int → Int → Bool → Int → Int → Bool → Int → Int → Bool → Int → Int → Int → Int → Option (Int)
 | 0, _, _, _, _, _, _, _, _, _, _, _, _, _ => none
 | k + 1, x0, y1, q0, u0, v0, y0, z0, e0, f0, g0, h0, i0, p1 => if x0 = 5 then (slip_Do.j3 k y1 x0 (x0 == 5) q0 u0 v0 y0 z0 e0 f0 g0 h0 i0 p1) else (slip_Do.j3 k y1 x0 (x0 == 6) q0 u0 v0 y0 z0 e0 f0 g0 h0 i0 p1)
def slip_Do.j3 : Nat → Int → Int → Bool → Bool → Int → Int → Bool → Int → Int → Bool → Int → Int → Int → Int → Option (Int)
 | 0, _, _, _, _, _, _, _, _, _, _, _, _, _, _ => none
 | k + 1, y1, e1, f1, q0, u0, v0, y0, z0, e0, f0, g0, h0, i0, p1 => if f1 = true then ((slip_add.f k i0 p1).bind fun g1 => ((slip_add.f k g1 y1).bind fun h1 => (some h1))) else (if e1 = 7 then ((slip_inf.f k).bind fun i1 => (if i0 = i1 then (slip_Do.j4 k y1 true q0 u0 v0 y0 z0 e0 f0 g0 h0 i0 p1) else ((slip_inf.f k).bind fun p2 => (slip_Do.j4 k y1 (p1 == p2) q0 u0 v0 y0 z0 e0 f0 g0 h0 i0 p1)))) else (if e1 = 8 then ((slip_sides_quotient.f k q0 u0 v0 y0 z0 e0 f0 g0 h0 i0 p1 y1).bind fun q2 => (some q2)) else (if e1 = 17 then (slip_Do.j5 k e1 (e1 == 17) q0 u0 v0 y0 z0 e0 f0 g0 h0 i0 p1) else (slip_Do.j5 k e1 (e1 == 21) q0 u0 v0 y0 z0 e0 f0 g0 h0 i0 p1))))
def slip_Do.j4 : Nat → Int → Bool → Bool → Int → Int → Bool → Int → Int → Bool → Int → Int → Int → Int → Option (Int)
 | 0, _, _, _, _, _, _, _, _, _, _, _, _, _ => none
 | k + 1, y1, u2, q0, u0, v0, y0, z0, e0, f0, g0, h0, i0, p1 => if u2 = true then ((slip_inf.f k).bind fun v2 => (some v2)) else ((span_Most.f k q0 u0 v0).bind fun y2 => ((slip_mul.f k y2 p1).bind fun z2 => ((span_Most.f k y0 z0 e0).bind fun e2 => ((slip_mul.f k e2 i0).bind fun f2 => ((slip_add.f k z2 f2).bind fun g2 => ((slip_mul.f k i0 p1).bind fun h2 => ((slip_add.f k g2 h2).bind fun i2 => ((slip_add.f k i2 y1).bind fun p3 => (some p3)))))))))
def slip_Do.j5 : Nat → Int → Bool → Bool → Int → Int → Bool → Int → Int → Bool → Int → Int → Int → Int → Option (Int)
 | 0, _, _, _, _, _, _, _, _, _, _, _, _, _ => none
 | k + 1, e1, q3, q0, u0, v0, y0, z0, e0, f0, g0, h0, i0, p1 => if q3 = true then (some i0) else (if e1 = 20 then (some 0) else ((slip_inf.f k).bind fun u3 => (some u3)))
end
def slip_Do.f (k : Nat) (a0 : Int) (a1_0 : Bool) (a1_1 : Int) (a1_2 : Int) (a2_0 : Bool) (a2_1 : Int) (a2_2 : Int) (a3_0 : Bool) (a3_1 : Int) (a3_2 : Int) (a4 : Int) (a5 : Int) : Option (Int) := (span_Join.f k (([(⟨a1_0, a1_1, a1_2⟩ : S43)] : List (S43)))).bind fun p0 => ((span_Join.f k (([(⟨a2_0, a2_1, a2_2⟩ : S43)] : List (S43)))).bind fun q0 => ((span_Join.f k (([(⟨a3_0, a3_1, a3_2⟩ : S43)] : List (S43)))).bind fun u0 => ((slip_Good.f k a4).bind fun v0 => ((slip_Good.f k a5).bind fun y0 => (if p0.1 = true then (slip_Do.j0 k a0 true p0.1 p0.2.1 p0.2.2 q0.1 q0.2.1 q0.2.2 u0.1 u0.2.1 u0.2.2 v0 y0) else (if u0.1 = true then (slip_Do.j0 k a0 true p0.1 p0.2.1 p0.2.2 q0.1 q0.2.1 q0.2.2 u0.1 u0.2.1 u0.2.2 v0 y0) else (if 5 ≤ a0 then (if a0 ≤ 16 then (slip_Do.j0 k a0 q0.1 p0.1 p0.2.1 p0.2.2 q0.1 q0.2.1 q0.2.2 u0.1 u0.2.1 u0.2.2 v0 y0) else (slip_Do.j0 k a0 false p0.1 p0.2.1 p0.2.2 q0.1 q0.2.1 q0.2.2 u0.1 u0.2.1 u0.2.2 v0 y0)) else (slip_Do.j0 k a0 false p0.1 p0.2.1 p0.2.2 q0.1 q0.2.1 q0.2.2 u0.1 u0.2.1 u0.2.2 v0 y0))))))))
def flyballlaw19_works.f (k : Nat)  : Option (Bool) := (span_Make.f k 0 4607182418800017408).bind fun p0 => ((span_Make.f k 0 4611686018427387904).bind fun q0 => ((slip_Round.f k 4607182418800017408).bind fun u0 => (if u0 = 4368491638549381120 then ((slip_Do.f k 5 p0.1 p0.2.1 p0.2.2 p0.1 p0.2.1 p0.2.2 q0.1 q0.2.1 q0.2.2 0 0).bind fun v0 => (if v0 = 4372995238176751616 then ((span_Point.f k 4607182418800017408).bind fun y0 => ((span_All.f k).bind fun z0 => ((slip_Do.f k 8 y0.1 y0.2.1 y0.2.2 q0.1 q0.2.1 q0.2.2 z0.1 z0.2.1 z0.2.2 0 0).bind fun e0 => ((pattern_Inf.f k false).bind fun f0 => (if e0 = f0 then ((slip_Round.f k 0).bind fun g0 => (if g0 = 0 then ((slip_Join.f k (([4607182418800017408, 4611686018427387904, 0] : List Int))).bind fun h0 => (if h0 = 4611686018427387904 then ((slip_Join.f k ([] : List Int)).bind fun i0 => (if i0 = 0 then ((slip_Widen.f k 4607182418800017408 4611686018427387904 (([4616189618054758400] : List Int))).bind fun j0 => (if j0 = 4616189618054758400 then ((slip_Widen.f k 4611686018427387904 4607182418800017408 ([] : List Int)).bind fun p1 => (if p1 = 4611686018427387904 then ((slip_Good.f k 13830554455654793216).bind fun q1 => ((pattern_Inf.f k false).bind fun u1 => (if q1 = u1 then ((slip_Good.f k 9223372036854775808).bind fun v1 => (some (v1 == 0))) else (some false)))) else (some false))) else (some false))) else (some false))) else (some false))) else (some false))) else (some false)))))) else (some false))) else (some false))))
def flyballlaw19_SlipRises.j0 : Nat → Int → Int → Int → Int → Bool → Bool → Bool → Int → Int → Bool → Int → Int → Bool → Int → Int → Bool → Int → Int → Option (Bool)
 | 0, _, _, _, _, _, _, _, _, _, _, _, _, _, _, _, _, _, _ => none
 | k + 1, x0, x5, x6, x7, p0, q0, u0, v0, y0, z0, e0, f0, g0, h0, i0, p1, q1, u1 => if q0 = true then (some p0) else ((slip_Do.f k x0 u0 v0 y0 z0 e0 f0 g0 h0 i0 x5 x6).bind fun v1 => ((span_Join.f k (([(⟨u0, v0, y0⟩ : S43), (⟨p1, q1, u1⟩ : S43)] : List (S43)))).bind fun y1 => ((span_Join.f k (([(⟨z0, e0, f0⟩ : S43), (⟨p1, q1, u1⟩ : S43)] : List (S43)))).bind fun z1 => ((span_Join.f k (([(⟨g0, h0, i0⟩ : S43), (⟨p1, q1, u1⟩ : S43)] : List (S43)))).bind fun e1 => ((slip_Join.f k (([x5, x7] : List Int))).bind fun f1 => ((slip_Join.f k (([x6, x7] : List Int))).bind fun g1 => ((slip_Do.f k x0 y1.1 y1.2.1 y1.2.2 z1.1 z1.2.1 z1.2.2 e1.1 e1.2.1 e1.2.2 f1 g1).bind fun h1 => (if p0 = true then ((pattern_Less.f k h1 v1).bind fun i1 => (some (!i1))) else (some false)))))))))
def flyballlaw19_SlipRises.f (k : Nat) (a0 : Int) (a1_0 : Bool) (a1_1 : Int) (a1_2 : Int) (a2_0 : Bool) (a2_1 : Int) (a2_2 : Int) (a3_0 : Bool) (a3_1 : Int) (a3_2 : Int) (a4_0 : Bool) (a4_1 : Int) (a4_2 : Int) (a5 : Int) (a6 : Int) (a7 : Int) : Option (Bool) := (flyballlaw19_works.f k).bind fun p0 => (if p0 = true then ((span_Join.f k (([(⟨a1_0, a1_1, a1_2⟩ : S43)] : List (S43)))).bind fun q0 => ((span_Join.f k (([(⟨a2_0, a2_1, a2_2⟩ : S43)] : List (S43)))).bind fun u0 => ((span_Join.f k (([(⟨a3_0, a3_1, a3_2⟩ : S43)] : List (S43)))).bind fun v0 => (if q0.1 = true then (flyballlaw19_SlipRises.j0 k a0 a5 a6 a7 p0 true a1_0 a1_1 a1_2 a2_0 a2_1 a2_2 a3_0 a3_1 a3_2 a4_0 a4_1 a4_2) else (if u0.1 = true then (flyballlaw19_SlipRises.j0 k a0 a5 a6 a7 p0 true a1_0 a1_1 a1_2 a2_0 a2_1 a2_2 a3_0 a3_1 a3_2 a4_0 a4_1 a4_2) else (flyballlaw19_SlipRises.j0 k a0 a5 a6 a7 p0 v0.1 a1_0 a1_1 a1_2 a2_0 a2_1 a2_2 a3_0 a3_1 a3_2 a4_0 a4_1 a4_2)))))) else (some false))
end Go.Proofs.Ytmadjhmecfbcmaa.F
end
section
namespace Go.Proofs.Ytmadjhmecfbcmaa.F
open Go.RowKit Go.Proofs.YtmadjhmecfbcmaaW.PrintWords Go.Proofs.YtmadjhmecfbcmaaW.PrintLast Go.Proofs.YtmadjhmecfbcmaaW.PrintMore
attribute [local go_sem] max2_int min2_int max_two min_two max_three min_three max_four min_four
set_option linter.unusedVariables false
set_option linter.unusedSimpArgs false
def errW : Option Int → Value
 | none => .nilIface
 | some c => .iface 0 (.int .i64 c)
theorem errW_none : errW none = .nilIface := rfl
theorem errW_some (c : Int) : errW (some c) = .iface 0 (.int .i64 c) := rfl
theorem k43_open {w : World} {x : S43} {cs : List Value} (h : k43.K w x cs) : cs = [.bool x.f0, .int .u64 x.f1, .int .u64 x.f2] := by
 obtain ⟨_, _, rfl, rfl, ⟨_, _, rfl, rfl, rfl⟩⟩ := h
 exact rfl
theorem k43_mkM (w : World) (base : Nat) (ok : Nat → Prop) (x : S43)  : k43.M w base ok x [.bool x.f0, .int .u64 x.f1, .int .u64 x.f2] := ⟨[.bool x.f0], [.int .u64 x.f1, .int .u64 x.f2], rfl, rfl, ⟨[.int .u64 x.f1], [.int .u64 x.f2], rfl, rfl, rfl⟩⟩
theorem at_T43 {w : World} {A : Option Addr} {n : Nat} {xs : List S43} (h : Kd.C k43 w A n xs) (i : Int) (h0 : 0 ≤ i) (h1 : i < n) : ∃ ad , A = some ad ∧ w.cell? (ad.add (i.toNat * 3)) = some (.bool (rd_T43 xs i).f0) ∧ w.cell? ⟨(ad.add (i.toNat * 3)).block, (ad.add (i.toNat * 3)).off + 1, none⟩ = some (.int .u64 (rd_T43 xs i).f1) ∧ w.cell? ⟨(ad.add (i.toNat * 3)).block, (ad.add (i.toNat * 3)).off + 2, none⟩ = some (.int .u64 (rd_T43 xs i).f2) := by
 obtain ⟨ad, c, e, _, hK, hc0⟩ := Kd.C_get h z43 i h0 h1
 have hc : ∀ j u, c[j]? = some u → w.cell? (ad.add (i.toNat * 3 + j)) = some u := hc0
 obtain rfl := k43_open hK
 exact ⟨ad, e, hc 0 _ rfl, by rw [← add_field _ _ 1 (by omega)]; exact hc 1 _ rfl, by rw [← add_field _ _ 2 (by omega)]; exact hc 2 _ rfl⟩
end Go.Proofs.Ytmadjhmecfbcmaa.F
end
section
namespace Go.Proofs.Ytmadjhmecfbcmaa.F
open Go.RowKit Go.Proofs.YtmadjhmecfbcmaaW.PrintWords Go.Proofs.YtmadjhmecfbcmaaW.PrintLast Go.Proofs.YtmadjhmecfbcmaaW.PrintMore
section
variable {P : Program} {ops : Array Oper} {Q : Exit → Act → World → Prop} {rest : List Oper} {o : Oper} {a : Act} {w w' w1 W W' : World} {g n : Nat} {ob : Obj} {t : TypeId}
theorem gtc (f : FuncId) {as_ : Array Operand} {ts : Array TypeId} (_ho : o.op = .call { callee := .value (.func f), args := as_, argTypes := ts }) (h : wpList P ops Q (o :: rest) a W) : wpList P ops Q (o :: rest) a W := h
theorem gtd (N : Tmp) (_hN : o.dst = some N) (h : wpList P ops Q (o :: rest) a W) : wpList P ops Q (o :: rest) a W := h
theorem zkb (h : Aside0 (w.heap[g]? = some ob)) (hb : Below w'.heap.size w' w1) (k : Below w.heap.size w w' := by (first | exact Below.refl _ _ | (repeat (first | exact Below.refl _ _ | (with_reducible first | apply pw_below_drewN | apply below_drew1 | apply below_alloc))))) : Aside0 (w1.heap[g]? = some ob) := ⟨blk_below (blk_below h.out k) hb⟩
theorem zkq (h : Aside0 (w.heap[g]? = some ob)) (k : Below w.heap.size w w' := by (first | exact Below.refl _ _ | (repeat (first | exact Below.refl _ _ | (with_reducible first | apply pw_below_drewN | apply below_drew1 | apply below_alloc))))) : w'.heap[g]? = some ob := blk_below h.out k
theorem zkB (h : Aside0 (Below w.heap.size w W)) (hb : Below W'.heap.size W' w1) (k : Below W.heap.size W W' := by (first | exact Below.refl _ _ | (repeat (first | exact Below.refl _ _ | (with_reducible first | apply pw_below_drewN | apply below_drew1 | apply below_alloc))))) : Aside0 (Below w.heap.size w w1) := ⟨below_step (below_step h.out k) hb⟩
theorem zkl (h : Aside0 (w.heap[g]? = some ob)) (hg : n = w'.heap.size) (k : Below w.heap.size w w' := by (first | exact Below.refl _ _ | (repeat (first | exact Below.refl _ _ | (with_reducible first | apply pw_below_drewN | apply below_drew1 | apply below_alloc))))) : Aside0 (g ≠ n) := ⟨by rw [hg]; exact Nat.ne_of_lt (blk_lt (zkq h k))⟩
theorem zkz (h : Aside0 (Below w.heap.size w W)) (hg : n = W'.heap.size) (k : Below W.heap.size W W' := by (first | exact Below.refl _ _ | (repeat (first | exact Below.refl _ _ | (with_reducible first | apply pw_below_drewN | apply below_drew1 | apply below_alloc))))) : Aside0 (w.heap.size ≤ n) := ⟨by rw [hg]; exact below_size (below_step h.out k)⟩
theorem zkL (hg : n = w.heap.size) (h : w.heap[g]? = some ob) : Aside0 (g ≠ n) := ⟨by rw [hg]; exact Nat.ne_of_lt (blk_lt h)⟩
theorem zkZ (hg : n = W.heap.size) (h : Below w.heap.size w W) : Aside0 (w.heap.size ≤ n) := ⟨by rw [hg]; exact below_size h⟩
variable {v0 v1 v2 v3 v4 v5 v6 v7 v8 v9 v10 : Value} {l : List Value}
theorem zc0 (h : Aside0 (w.heap[g]? = some (.cells (v0 :: l).toArray t (0, 0)))) : w.cell? ⟨g, 0, none⟩ = some v0 := (blk_cell h.out 0).trans rfl
theorem zc1 (h : Aside0 (w.heap[g]? = some (.cells (v0 :: v1 :: l).toArray t (0, 0)))) : w.cell? ⟨g, 1, none⟩ = some v1 := (blk_cell h.out 1).trans rfl
theorem zc2 (h : Aside0 (w.heap[g]? = some (.cells (v0 :: v1 :: v2 :: l).toArray t (0, 0)))) : w.cell? ⟨g, 2, none⟩ = some v2 := (blk_cell h.out 2).trans rfl
theorem zc3 (h : Aside0 (w.heap[g]? = some (.cells (v0 :: v1 :: v2 :: v3 :: l).toArray t (0, 0)))) : w.cell? ⟨g, 3, none⟩ = some v3 := (blk_cell h.out 3).trans rfl
theorem zc4 (h : Aside0 (w.heap[g]? = some (.cells (v0 :: v1 :: v2 :: v3 :: v4 :: l).toArray t (0, 0)))) : w.cell? ⟨g, 4, none⟩ = some v4 := (blk_cell h.out 4).trans rfl
theorem zc5 (h : Aside0 (w.heap[g]? = some (.cells (v0 :: v1 :: v2 :: v3 :: v4 :: v5 :: l).toArray t (0, 0)))) : w.cell? ⟨g, 5, none⟩ = some v5 := (blk_cell h.out 5).trans rfl
theorem zc6 (h : Aside0 (w.heap[g]? = some (.cells (v0 :: v1 :: v2 :: v3 :: v4 :: v5 :: v6 :: l).toArray t (0, 0)))) : w.cell? ⟨g, 6, none⟩ = some v6 := (blk_cell h.out 6).trans rfl
theorem zc7 (h : Aside0 (w.heap[g]? = some (.cells (v0 :: v1 :: v2 :: v3 :: v4 :: v5 :: v6 :: v7 :: l).toArray t (0, 0)))) : w.cell? ⟨g, 7, none⟩ = some v7 := (blk_cell h.out 7).trans rfl
theorem ze2 (h : Aside0 (w.heap[g]? = some (.cells (v0 :: v1 :: l).toArray t (0, 0)))) : w.cell? ⟨g, 0, none⟩ = some v0 ∧ w.cell? ⟨g, 1, none⟩ = some v1 := ⟨zc0 h, zc1 h⟩
theorem zk3 {R : Prop} (h : Aside0 (w.heap[g]? = some (.cells (v0 :: v1 :: v2 :: l).toArray t (0, 0)))) (r : R) : w.cell? ⟨g, 0, none⟩ = some v0 ∧ w.cell? ⟨g, 1, none⟩ = some v1 ∧ w.cell? ⟨g, 2, none⟩ = some v2 ∧ R := ⟨zc0 h, zc1 h, zc2 h, r⟩
theorem ze3 (h : Aside0 (w.heap[g]? = some (.cells (v0 :: v1 :: v2 :: l).toArray t (0, 0)))) : w.cell? ⟨g, 0, none⟩ = some v0 ∧ w.cell? ⟨g, 1, none⟩ = some v1 ∧ w.cell? ⟨g, 2, none⟩ = some v2 := ⟨zc0 h, zc1 h, zc2 h⟩
theorem zk5 {R : Prop} (h : Aside0 (w.heap[g]? = some (.cells (v0 :: v1 :: v2 :: v3 :: v4 :: l).toArray t (0, 0)))) (r : R) : w.cell? ⟨g, 0, none⟩ = some v0 ∧ w.cell? ⟨g, 1, none⟩ = some v1 ∧ w.cell? ⟨g, 2, none⟩ = some v2 ∧ w.cell? ⟨g, 3, none⟩ = some v3 ∧ w.cell? ⟨g, 4, none⟩ = some v4 ∧ R := ⟨zc0 h, zc1 h, zc2 h, zc3 h, zc4 h, r⟩
theorem ze5 (h : Aside0 (w.heap[g]? = some (.cells (v0 :: v1 :: v2 :: v3 :: v4 :: l).toArray t (0, 0)))) : w.cell? ⟨g, 0, none⟩ = some v0 ∧ w.cell? ⟨g, 1, none⟩ = some v1 ∧ w.cell? ⟨g, 2, none⟩ = some v2 ∧ w.cell? ⟨g, 3, none⟩ = some v3 ∧ w.cell? ⟨g, 4, none⟩ = some v4 := ⟨zc0 h, zc1 h, zc2 h, zc3 h, zc4 h⟩
theorem zff {g' j j' : Nat} {u v : Value} (h : Aside0 (g ≠ g')) (e : w.cell? ⟨g, j, none⟩ = some v) : (w.setCell ⟨g', j', none⟩ u).cell? ⟨g, j, none⟩ = some v := (cell_far (p := ⟨g', j', none⟩) h.out _).trans e
theorem zfz (h : Aside0 (w.heap[g]? = some (.cells l.toArray t (0, 0)))) (i : Nat) : w.frozen? ⟨g, i, none⟩ = false := blk_frozen h.out i
theorem zkf {p : Addr} (h : w.heap[g]? = some ob) (hp : g ≠ p.block) (u : Value) : (w.setCell p u).heap[g]? = some ob := (Below.heap_setCell w p u g hp).trans h
theorem zks {x y : Nat} (h : Aside0 (x ≠ y)) : Aside0 (y ≠ x) := ⟨h.out.symm⟩
theorem zt1 {x0 y0 : Nat} {p : Prop} (h0 : Aside0 (x0 ≠ y0)) (k : x0 ≠ y0 → y0 ≠ x0 → p) : p := k h0.out h0.out.symm
theorem zt2 {x0 y0 x1 y1 : Nat} {p : Prop} (h0 : Aside0 (x0 ≠ y0)) (h1 : Aside0 (x1 ≠ y1)) (k : x0 ≠ y0 → y0 ≠ x0 → x1 ≠ y1 → y1 ≠ x1 → p) : p := k h0.out h0.out.symm h1.out h1.out.symm
theorem zt3 {x0 y0 x1 y1 x2 y2 : Nat} {p : Prop} (h0 : Aside0 (x0 ≠ y0)) (h1 : Aside0 (x1 ≠ y1)) (h2 : Aside0 (x2 ≠ y2)) (k : x0 ≠ y0 → y0 ≠ x0 → x1 ≠ y1 → y1 ≠ x1 → x2 ≠ y2 → y2 ≠ x2 → p) : p := k h0.out h0.out.symm h1.out h1.out.symm h2.out h2.out.symm
theorem zt4 {x0 y0 x1 y1 x2 y2 x3 y3 : Nat} {p : Prop} (h0 : Aside0 (x0 ≠ y0)) (h1 : Aside0 (x1 ≠ y1)) (h2 : Aside0 (x2 ≠ y2)) (h3 : Aside0 (x3 ≠ y3)) (k : x0 ≠ y0 → y0 ≠ x0 → x1 ≠ y1 → y1 ≠ x1 → x2 ≠ y2 → y2 ≠ x2 → x3 ≠ y3 → y3 ≠ x3 → p) : p := k h0.out h0.out.symm h1.out h1.out.symm h2.out h2.out.symm h3.out h3.out.symm
theorem zt5 {x0 y0 x1 y1 x2 y2 x3 y3 x4 y4 : Nat} {p : Prop} (h0 : Aside0 (x0 ≠ y0)) (h1 : Aside0 (x1 ≠ y1)) (h2 : Aside0 (x2 ≠ y2)) (h3 : Aside0 (x3 ≠ y3)) (h4 : Aside0 (x4 ≠ y4)) (k : x0 ≠ y0 → y0 ≠ x0 → x1 ≠ y1 → y1 ≠ x1 → x2 ≠ y2 → y2 ≠ x2 → x3 ≠ y3 → y3 ≠ x3 → x4 ≠ y4 → y4 ≠ x4 → p) : p := k h0.out h0.out.symm h1.out h1.out.symm h2.out h2.out.symm h3.out h3.out.symm h4.out h4.out.symm
theorem zt6 {x0 y0 x1 y1 x2 y2 x3 y3 x4 y4 x5 y5 : Nat} {p : Prop} (h0 : Aside0 (x0 ≠ y0)) (h1 : Aside0 (x1 ≠ y1)) (h2 : Aside0 (x2 ≠ y2)) (h3 : Aside0 (x3 ≠ y3)) (h4 : Aside0 (x4 ≠ y4)) (h5 : Aside0 (x5 ≠ y5)) (k : x0 ≠ y0 → y0 ≠ x0 → x1 ≠ y1 → y1 ≠ x1 → x2 ≠ y2 → y2 ≠ x2 → x3 ≠ y3 → y3 ≠ x3 → x4 ≠ y4 → y4 ≠ x4 → x5 ≠ y5 → y5 ≠ x5 → p) : p := k h0.out h0.out.symm h1.out h1.out.symm h2.out h2.out.symm h3.out h3.out.symm h4.out h4.out.symm h5.out h5.out.symm
theorem zu2 {p : Prop} (h : Aside0 (w.heap[g]? = some (.cells (v0 :: v1 :: l).toArray t (0, 0)))) (k : w.cell? ⟨g, 0, none⟩ = some v0 → w.cell? ⟨g, 1, none⟩ = some v1 → w.frozen? ⟨g, 0, none⟩ = false → w.frozen? ⟨g, 1, none⟩ = false → p) : p := k (zc0 h) (zc1 h) (blk_frozen h.out 0) (blk_frozen h.out 1)
theorem zu3 {p : Prop} (h : Aside0 (w.heap[g]? = some (.cells (v0 :: v1 :: v2 :: l).toArray t (0, 0)))) (k : w.cell? ⟨g, 0, none⟩ = some v0 → w.cell? ⟨g, 1, none⟩ = some v1 → w.cell? ⟨g, 2, none⟩ = some v2 → w.frozen? ⟨g, 0, none⟩ = false → w.frozen? ⟨g, 1, none⟩ = false → w.frozen? ⟨g, 2, none⟩ = false → p) : p := k (zc0 h) (zc1 h) (zc2 h) (blk_frozen h.out 0) (blk_frozen h.out 1) (blk_frozen h.out 2)
theorem zu5 {p : Prop} (h : Aside0 (w.heap[g]? = some (.cells (v0 :: v1 :: v2 :: v3 :: v4 :: l).toArray t (0, 0)))) (k : w.cell? ⟨g, 0, none⟩ = some v0 → w.cell? ⟨g, 1, none⟩ = some v1 → w.cell? ⟨g, 2, none⟩ = some v2 → w.cell? ⟨g, 3, none⟩ = some v3 → w.cell? ⟨g, 4, none⟩ = some v4 → w.frozen? ⟨g, 0, none⟩ = false → w.frozen? ⟨g, 1, none⟩ = false → w.frozen? ⟨g, 2, none⟩ = false → w.frozen? ⟨g, 3, none⟩ = false → w.frozen? ⟨g, 4, none⟩ = false → p) : p := k (zc0 h) (zc1 h) (zc2 h) (zc3 h) (zc4 h) (blk_frozen h.out 0) (blk_frozen h.out 1) (blk_frozen h.out 2) (blk_frozen h.out 3) (blk_frozen h.out 4)
theorem zc8 (h : Aside0 (w.heap[g]? = some (.cells (v0 :: v1 :: v2 :: v3 :: v4 :: v5 :: v6 :: v7 :: v8 :: l).toArray t (0, 0)))) : w.cell? ⟨g, 8, none⟩ = some v8 := (blk_cell h.out 8).trans rfl
theorem zc9 (h : Aside0 (w.heap[g]? = some (.cells (v0 :: v1 :: v2 :: v3 :: v4 :: v5 :: v6 :: v7 :: v8 :: v9 :: l).toArray t (0, 0)))) : w.cell? ⟨g, 9, none⟩ = some v9 := (blk_cell h.out 9).trans rfl
theorem zc10 (h : Aside0 (w.heap[g]? = some (.cells (v0 :: v1 :: v2 :: v3 :: v4 :: v5 :: v6 :: v7 :: v8 :: v9 :: v10 :: l).toArray t (0, 0)))) : w.cell? ⟨g, 10, none⟩ = some v10 := (blk_cell h.out 10).trans rfl
theorem zu11 {p : Prop} (h : Aside0 (w.heap[g]? = some (.cells (v0 :: v1 :: v2 :: v3 :: v4 :: v5 :: v6 :: v7 :: v8 :: v9 :: v10 :: l).toArray t (0, 0)))) (k : w.cell? ⟨g, 0, none⟩ = some v0 → w.cell? ⟨g, 1, none⟩ = some v1 → w.cell? ⟨g, 2, none⟩ = some v2 → w.cell? ⟨g, 3, none⟩ = some v3 → w.cell? ⟨g, 4, none⟩ = some v4 → w.cell? ⟨g, 5, none⟩ = some v5 → w.cell? ⟨g, 6, none⟩ = some v6 → w.cell? ⟨g, 7, none⟩ = some v7 → w.cell? ⟨g, 8, none⟩ = some v8 → w.cell? ⟨g, 9, none⟩ = some v9 → w.cell? ⟨g, 10, none⟩ = some v10 → w.frozen? ⟨g, 0, none⟩ = false → w.frozen? ⟨g, 1, none⟩ = false → w.frozen? ⟨g, 2, none⟩ = false → w.frozen? ⟨g, 3, none⟩ = false → w.frozen? ⟨g, 4, none⟩ = false → w.frozen? ⟨g, 5, none⟩ = false → w.frozen? ⟨g, 6, none⟩ = false → w.frozen? ⟨g, 7, none⟩ = false → w.frozen? ⟨g, 8, none⟩ = false → w.frozen? ⟨g, 9, none⟩ = false → w.frozen? ⟨g, 10, none⟩ = false → p) : p := k (zc0 h) (zc1 h) (zc2 h) (zc3 h) (zc4 h) (zc5 h) (zc6 h) (zc7 h) (zc8 h) (zc9 h) (zc10 h) (blk_frozen h.out 0) (blk_frozen h.out 1) (blk_frozen h.out 2) (blk_frozen h.out 3) (blk_frozen h.out 4) (blk_frozen h.out 5) (blk_frozen h.out 6) (blk_frozen h.out 7) (blk_frozen h.out 8) (blk_frozen h.out 9) (blk_frozen h.out 10)
theorem zpu {α : Type} {x y : α} (h : x = y := by first | (simp only [putAll, Act.put, List.setIfInBounds_toArray, List.set_cons_zero, List.set_cons_succ]; done) | (simp only [putAll, Act.put, List.setIfInBounds_toArray, List.set_cons_zero, List.set_cons_succ]; rfl)) : x = y := h
theorem zRW {p q : Prop} (h : q) (k : q → p := by intro h_; (with_reducible repeat (first | apply Kd.R_alloc | apply Kd.R_drewN | apply Kd.R_drew)); exact h_) : p := k h
theorem zbn1 {g1 : Nat} {o1 : Obj} {p : Prop} (HB : Aside0 (Below w.heap.size w W)) (h1 : Aside0 (W.heap[g1]? = some o1)) (hg : n = W'.heap.size) (hb : Below W'.heap.size W' w1) (hbox : w1.heap[n]? = some ob) (k : Below W.heap.size W W' := by (first | exact Below.refl _ _ | (repeat (first | exact Below.refl _ _ | (with_reducible first | apply pw_below_drewN | apply below_drew1 | apply below_alloc))))) (c : Aside0 (w.heap.size ≤ n) → Aside0 (g1 ≠ n) → Aside0 (w1.heap[g1]? = some o1) → Aside0 (Below w.heap.size w w1) → Aside0 (w1.heap[n]? = some ob) → p) : p := c (zkz HB hg k) (zkl h1 hg k) (zkb h1 hb k) (zkB HB hb k) ⟨hbox⟩
theorem zbn2 {g1 g2 : Nat} {o1 o2 : Obj} {p : Prop} (HB : Aside0 (Below w.heap.size w W)) (h1 : Aside0 (W.heap[g1]? = some o1)) (h2 : Aside0 (W.heap[g2]? = some o2)) (hg : n = W'.heap.size) (hb : Below W'.heap.size W' w1) (hbox : w1.heap[n]? = some ob) (k : Below W.heap.size W W' := by (first | exact Below.refl _ _ | (repeat (first | exact Below.refl _ _ | (with_reducible first | apply pw_below_drewN | apply below_drew1 | apply below_alloc))))) (c : Aside0 (w.heap.size ≤ n) → Aside0 (g1 ≠ n) → Aside0 (g2 ≠ n) → Aside0 (w1.heap[g1]? = some o1) → Aside0 (w1.heap[g2]? = some o2) → Aside0 (Below w.heap.size w w1) → Aside0 (w1.heap[n]? = some ob) → p) : p := c (zkz HB hg k) (zkl h1 hg k) (zkl h2 hg k) (zkb h1 hb k) (zkb h2 hb k) (zkB HB hb k) ⟨hbox⟩
theorem zcn2 {g1 g2 : Nat} {o1 o2 : Obj} {p : Prop} (HB : Aside0 (Below w.heap.size w W)) (h1 : Aside0 (W.heap[g1]? = some o1)) (h2 : Aside0 (W.heap[g2]? = some o2)) (hb : Below W'.heap.size W' w1) (k : Below W.heap.size W W' := by (first | exact Below.refl _ _ | (repeat (first | exact Below.refl _ _ | (with_reducible first | apply pw_below_drewN | apply below_drew1 | apply below_alloc))))) (c : Aside0 (w1.heap[g1]? = some o1) → Aside0 (w1.heap[g2]? = some o2) → Aside0 (Below w.heap.size w w1) → p) : p := c (zkb h1 hb k) (zkb h2 hb k) (zkB HB hb k)
theorem zbn3 {g1 g2 g3 : Nat} {o1 o2 o3 : Obj} {p : Prop} (HB : Aside0 (Below w.heap.size w W)) (h1 : Aside0 (W.heap[g1]? = some o1)) (h2 : Aside0 (W.heap[g2]? = some o2)) (h3 : Aside0 (W.heap[g3]? = some o3)) (hg : n = W'.heap.size) (hb : Below W'.heap.size W' w1) (hbox : w1.heap[n]? = some ob) (k : Below W.heap.size W W' := by (first | exact Below.refl _ _ | (repeat (first | exact Below.refl _ _ | (with_reducible first | apply pw_below_drewN | apply below_drew1 | apply below_alloc))))) (c : Aside0 (w.heap.size ≤ n) → Aside0 (g1 ≠ n) → Aside0 (g2 ≠ n) → Aside0 (g3 ≠ n) → Aside0 (w1.heap[g1]? = some o1) → Aside0 (w1.heap[g2]? = some o2) → Aside0 (w1.heap[g3]? = some o3) → Aside0 (Below w.heap.size w w1) → Aside0 (w1.heap[n]? = some ob) → p) : p := c (zkz HB hg k) (zkl h1 hg k) (zkl h2 hg k) (zkl h3 hg k) (zkb h1 hb k) (zkb h2 hb k) (zkb h3 hb k) (zkB HB hb k) ⟨hbox⟩
theorem zcn3 {g1 g2 g3 : Nat} {o1 o2 o3 : Obj} {p : Prop} (HB : Aside0 (Below w.heap.size w W)) (h1 : Aside0 (W.heap[g1]? = some o1)) (h2 : Aside0 (W.heap[g2]? = some o2)) (h3 : Aside0 (W.heap[g3]? = some o3)) (hb : Below W'.heap.size W' w1) (k : Below W.heap.size W W' := by (first | exact Below.refl _ _ | (repeat (first | exact Below.refl _ _ | (with_reducible first | apply pw_below_drewN | apply below_drew1 | apply below_alloc))))) (c : Aside0 (w1.heap[g1]? = some o1) → Aside0 (w1.heap[g2]? = some o2) → Aside0 (w1.heap[g3]? = some o3) → Aside0 (Below w.heap.size w w1) → p) : p := c (zkb h1 hb k) (zkb h2 hb k) (zkb h3 hb k) (zkB HB hb k)
theorem zcn4 {g1 g2 g3 g4 : Nat} {o1 o2 o3 o4 : Obj} {p : Prop} (HB : Aside0 (Below w.heap.size w W)) (h1 : Aside0 (W.heap[g1]? = some o1)) (h2 : Aside0 (W.heap[g2]? = some o2)) (h3 : Aside0 (W.heap[g3]? = some o3)) (h4 : Aside0 (W.heap[g4]? = some o4)) (hb : Below W'.heap.size W' w1) (k : Below W.heap.size W W' := by (first | exact Below.refl _ _ | (repeat (first | exact Below.refl _ _ | (with_reducible first | apply pw_below_drewN | apply below_drew1 | apply below_alloc))))) (c : Aside0 (w1.heap[g1]? = some o1) → Aside0 (w1.heap[g2]? = some o2) → Aside0 (w1.heap[g3]? = some o3) → Aside0 (w1.heap[g4]? = some o4) → Aside0 (Below w.heap.size w w1) → p) : p := c (zkb h1 hb k) (zkb h2 hb k) (zkb h3 hb k) (zkb h4 hb k) (zkB HB hb k)
theorem zcn5 {g1 g2 g3 g4 g5 : Nat} {o1 o2 o3 o4 o5 : Obj} {p : Prop} (HB : Aside0 (Below w.heap.size w W)) (h1 : Aside0 (W.heap[g1]? = some o1)) (h2 : Aside0 (W.heap[g2]? = some o2)) (h3 : Aside0 (W.heap[g3]? = some o3)) (h4 : Aside0 (W.heap[g4]? = some o4)) (h5 : Aside0 (W.heap[g5]? = some o5)) (hb : Below W'.heap.size W' w1) (k : Below W.heap.size W W' := by (first | exact Below.refl _ _ | (repeat (first | exact Below.refl _ _ | (with_reducible first | apply pw_below_drewN | apply below_drew1 | apply below_alloc))))) (c : Aside0 (w1.heap[g1]? = some o1) → Aside0 (w1.heap[g2]? = some o2) → Aside0 (w1.heap[g3]? = some o3) → Aside0 (w1.heap[g4]? = some o4) → Aside0 (w1.heap[g5]? = some o5) → Aside0 (Below w.heap.size w w1) → p) : p := c (zkb h1 hb k) (zkb h2 hb k) (zkb h3 hb k) (zkb h4 hb k) (zkb h5 hb k) (zkB HB hb k)
theorem zcn6 {g1 g2 g3 g4 g5 g6 : Nat} {o1 o2 o3 o4 o5 o6 : Obj} {p : Prop} (HB : Aside0 (Below w.heap.size w W)) (h1 : Aside0 (W.heap[g1]? = some o1)) (h2 : Aside0 (W.heap[g2]? = some o2)) (h3 : Aside0 (W.heap[g3]? = some o3)) (h4 : Aside0 (W.heap[g4]? = some o4)) (h5 : Aside0 (W.heap[g5]? = some o5)) (h6 : Aside0 (W.heap[g6]? = some o6)) (hb : Below W'.heap.size W' w1) (k : Below W.heap.size W W' := by (first | exact Below.refl _ _ | (repeat (first | exact Below.refl _ _ | (with_reducible first | apply pw_below_drewN | apply below_drew1 | apply below_alloc))))) (c : Aside0 (w1.heap[g1]? = some o1) → Aside0 (w1.heap[g2]? = some o2) → Aside0 (w1.heap[g3]? = some o3) → Aside0 (w1.heap[g4]? = some o4) → Aside0 (w1.heap[g5]? = some o5) → Aside0 (w1.heap[g6]? = some o6) → Aside0 (Below w.heap.size w w1) → p) : p := c (zkb h1 hb k) (zkb h2 hb k) (zkb h3 hb k) (zkb h4 hb k) (zkb h5 hb k) (zkb h6 hb k) (zkB HB hb k)
theorem zcn7 {g1 g2 g3 g4 g5 g6 g7 : Nat} {o1 o2 o3 o4 o5 o6 o7 : Obj} {p : Prop} (HB : Aside0 (Below w.heap.size w W)) (h1 : Aside0 (W.heap[g1]? = some o1)) (h2 : Aside0 (W.heap[g2]? = some o2)) (h3 : Aside0 (W.heap[g3]? = some o3)) (h4 : Aside0 (W.heap[g4]? = some o4)) (h5 : Aside0 (W.heap[g5]? = some o5)) (h6 : Aside0 (W.heap[g6]? = some o6)) (h7 : Aside0 (W.heap[g7]? = some o7)) (hb : Below W'.heap.size W' w1) (k : Below W.heap.size W W' := by (first | exact Below.refl _ _ | (repeat (first | exact Below.refl _ _ | (with_reducible first | apply pw_below_drewN | apply below_drew1 | apply below_alloc))))) (c : Aside0 (w1.heap[g1]? = some o1) → Aside0 (w1.heap[g2]? = some o2) → Aside0 (w1.heap[g3]? = some o3) → Aside0 (w1.heap[g4]? = some o4) → Aside0 (w1.heap[g5]? = some o5) → Aside0 (w1.heap[g6]? = some o6) → Aside0 (w1.heap[g7]? = some o7) → Aside0 (Below w.heap.size w w1) → p) : p := c (zkb h1 hb k) (zkb h2 hb k) (zkb h3 hb k) (zkb h4 hb k) (zkb h5 hb k) (zkb h6 hb k) (zkb h7 hb k) (zkB HB hb k)
theorem zrl {p : Prop} (h : p := by first | rfl | (simp; done) | (simp [*]; done)) : p := h
theorem zle {x y : Nat} (h : x ≤ y := by first | omega | exact Nat.le_refl _) : x ≤ y := h
theorem zit {α : Type} {c : Prop} [Decidable c] {a b x : α} (H : (if c then a else b) = x) (hc : c := by exact rfl) : a = x := (if_pos hc).symm.trans H
theorem zif {α : Type} {c : Prop} [Decidable c] {a b x : α} (H : (if c then a else b) = x) (hc : ¬ c := by decide) : b = x := (if_neg hc).symm.trans H
theorem zaB {p : Prop} (h : p := by repeat (first | (with_reducible first | exact HB.out | apply below_alloc | apply pw_below_drewN | apply below_drew1) | refine below_set ?_ (Aside0.out (by assumption)) | exact HB.out)) : p := h
theorem zaE {p : Prop} (h : p := by first | rfl | (simp [errW_none, errW_some] <;> rfl) | (simp [*, errW_none, errW_some] <;> rfl)) : p := h
theorem zbx (N : Tmp) (cs : Array Value) (t : TypeId) (hN : o.dst = some N := by with_reducible rfl) (hg : o.guard = none := by rfl)
  (hr : (execOp a.eval o).run P W = .ok (.value (.pointer (some ⟨W.heap.size, 0, none⟩))) (W.alloc (.cells cs t (0, 0))) := by first | (go_simp; done) | (go_simp; rfl))
  (h : ∀ g, g = W.heap.size → ∀ w1, w1.heap[g]? = some (.cells cs t (0, 0)) → Below W.heap.size W w1 → wpList P ops Q rest (a.put o.dst (.pointer (some ⟨g, 0, none⟩))) w1) : wpList P ops Q (o :: rest) a W :=
 box_event hg hN hr h
end
section
variable {P : Program} {ops : Array Oper} {Q : Exit → Act → World → Prop} {md : Region.Mode} {S : World → Prop} {ds : List Nat} {oi : Oper} {v : Value} {fuel : Nat} {l l' : Array Bool} {a a' : Act} {w W x : World} {K : Act → World → Prop} {rest : List Oper}
theorem zpA (i : Nat) (N : Tmp) (hi : ops[i]? = some oi := by exact rfl) (hN : oi.dst = some N := by exact rfl) (_hl : l.setIfInBounds i true = l' := by simp only [List.setIfInBounds_toArray, List.set_cons_zero, List.set_cons_succ]; exact rfl)
  (hc : anyB md ops l l' i = true := by first | exact any_of HT_.out (by kernel_rfl) | kernel_rfl) (hy : Yields P ops oi v a := by (refine Or.inl ⟨by rfl, ?_⟩; intro w'; go_simp; with_reducible rfl))
  (hQ : ∀ c a w, Q (.panic c) (a.put oi.dst v) w → Q (.panic c) a w := by exact fun _ _ _ h => h) (ha : a.put (some N) v = a' := by simp only [Act.put, List.setIfInBounds_toArray, List.set_cons_zero, List.set_cons_succ, i64_w, i32_w]; rfl)
  (h : wpAnyLast P md ops Q S ds fuel l' a' w) : wpAnyLast P md ops Q S ds (fuel + 1) l a w := pure_ l' hi hN hc hQ hy ha h
theorem zpU (i : Nat) (N : Tmp) (hi : ops[i]? = some oi := by exact rfl) (hN : oi.dst = some N := by exact rfl) (_hl : l.setIfInBounds i true = l' := by simp only [List.setIfInBounds_toArray, List.set_cons_zero, List.set_cons_succ]; exact rfl)
  (hc : anyB md ops l l' i = true := by first | exact any_of HT_.out (by kernel_rfl) | kernel_rfl) (hy : Yields P ops oi undef a := by exact Or.inr ⟨by rfl, rfl⟩)
  (hQ : ∀ c a w, Q (.panic c) (a.put oi.dst undef) w → Q (.panic c) a w := by exact fun _ _ _ h => h) (ha : a.put (some N) undef = a' := by simp only [Act.put, List.setIfInBounds_toArray, List.set_cons_zero, List.set_cons_succ, i64_w, i32_w]; rfl)
  (h : wpAnyLast P md ops Q S ds fuel l' a' w) : wpAnyLast P md ops Q S ds (fuel + 1) l a w := pure_ l' hi hN hc hQ hy ha h
theorem ztA (i : Nat) (N : Tmp) (hi : ops[i]? = some oi := by exact rfl) (hN : oi.dst = some N := by exact rfl) (_hl : l.setIfInBounds i true = l' := by simp only [List.setIfInBounds_toArray, List.set_cons_zero, List.set_cons_succ]; exact rfl)
  (hc : takeB md ops ds l l' i = true := by first | exact take_ofW HT_.out HW_.out (by kernel_rfl) | kernel_rfl) (hy : YieldsIf P ops S oi v a := by (refine Or.inl ⟨by rfl, ?_⟩; intro w' s_; (repeat (obtain ⟨_, s_⟩ := s_)); go_simp; with_reducible rfl))
  (hQ : ∀ c a w, Q (.panic c) (a.put oi.dst v) w → Q (.panic c) a w := by exact fun _ _ _ h => h) (hS : S w := by exact hHeld) (ha : a.put (some N) v = a' := by simp only [Act.put, List.setIfInBounds_toArray, List.set_cons_zero, List.set_cons_succ, i64_w, i32_w]; rfl)
  (h : wpAnyLast P md ops Q S ds fuel l' a' w) : wpAnyLast P md ops Q S ds (fuel + 1) l a w := take_ l' hi hN hc hQ hy hS ha h
theorem zoA (i : Nat) (N : Tmp) (hi : ops[i]? = some oi := by exact rfl) (hN : oi.dst = some N := by exact rfl) (_hl : l.setIfInBounds i true = l' := by simp only [List.setIfInBounds_toArray, List.set_cons_zero, List.set_cons_succ]; exact rfl)
  (hc : readyB md ops l l' i = true := by first | exact one_of HT_.out (by kernel_rfl) | kernel_rfl) (hd : i ∉ ds := by decide)
  (h : ∀ K : Act → World → Prop, Shut (∀ a' w', S w' → (S w' → wpAnyLast P md ops Q S ds fuel l' a' w') → K a' w') → if Region.wanted oi (yielded ops a.tmps) = true then Oper.wp P oi a w K Q else K (a.put (some N) undef) w) :
  wpAnyLast P md ops Q S ds (fuel + 1) l a w := one_ l' hi hN hc hd h
theorem znA (N : Tmp) (ha : a.put (some N) v = a' := by simp only [Act.put, List.setIfInBounds_toArray, List.set_cons_zero, List.set_cons_succ, i64_w, i32_w]; rfl) (h : wpAnyLast P md ops Q S ds fuel l a' w) : wpAnyLast P md ops Q S ds fuel l (a.put (some N) v) w := norm_ ha h
theorem zgA {f : FuncId} {fn : Func} {ars : Array Operand} {ts : Array TypeId} {args : Array Value} {N : Option Tmp} {R : World → Prop} (hf : P.funcs[f]? = some fn) (hc : Calls P f args w (fun e w' => e = .returned v ∧ R w')) (hname : (fn.name == "runtime.NumGoroutine") = false := by kernel_rfl) (hb : fn.body.isSome = true := by exact rfl)
  (hw : Region.wanted oi (yielded ops a.tmps) = true := by rfl) (hN : oi.dst = N := by exact rfl) (hop : oi.op = .call { callee := .value (.func f), args := ars, argTypes := ts } := by exact rfl)
  (hargs : ars.map a.eval = args := by (try simp only [List.map_toArray, List.map_cons, List.map_nil]); first | done | rfl | (simp only [List.length_drop, List.length_take]; rfl))
  (h : ∀ w', R w' → K (a.put N v) w') : if Region.wanted oi (yielded ops a.tmps) = true then Oper.wp P oi a w K Q else K (a.put N undef) w :=
 goes_ hf hname hb args hw hN hop hargs (hc.mono fun _ _ h2 => ⟨v, h2.1, h _ h2.2⟩)
theorem zgL {f : FuncId} {fn : Func} {ars : Array Operand} {ts : Array TypeId} {args : Array Value} (N : Tmp) {R : World → Prop} (hf : P.funcs[f]? = some fn) (hc : Calls P f args w (fun e w' => e = .returned v ∧ R w')) (hd : oi.dst = some N := by exact rfl) (hg : oi.guard = none := by exact rfl) (hname : (fn.name == "runtime.NumGoroutine") = false := by kernel_rfl) (hb : fn.body.isSome = true := by exact rfl)
  (hop : oi.op = .call { callee := .value (.func f), args := ars, argTypes := ts } := by exact rfl)
  (hargs : ars.map a.eval = args := by (try simp only [List.map_toArray, List.map_cons, List.map_nil]); first | done | rfl | (simp only [List.length_drop, List.length_take]; rfl))
  (h : ∀ w', R w' → wpList P ops Q rest (a.put (some N) v) w') : wpList P ops Q (oi :: rest) a w :=
 goesL_ (some N) hd hg hf hname hb args hop hargs (hc.mono fun _ _ h2 => ⟨v, h2.1, h _ h2.2⟩)
theorem zgV {f : FuncId} {fn : Func} {ars : Array Operand} {ts : Array TypeId} {args : Array Value} (N : Option Tmp) {R : World → Prop} (cal : Operand) (hf : P.funcs[f]? = some fn) (hc : Calls P f args w (fun e w' => e = .returned v ∧ R w')) (hcal : a.eval cal = a.eval (.func f)) (hd : oi.dst = N := by exact rfl) (hg : oi.guard = none := by exact rfl) (hname : (fn.name == "runtime.NumGoroutine") = false := by kernel_rfl) (hb : fn.body.isSome = true := by exact rfl)
  (hop : oi.op = .call { callee := .value cal, args := ars, argTypes := ts } := by exact rfl)
  (hargs : ars.map a.eval = args := by (try simp only [List.map_toArray, List.map_cons, List.map_nil]); first | done | rfl | (simp only [List.length_drop, List.length_take]; rfl))
  (h : ∀ w', R w' → wpList P ops Q rest (a.put N v) w') : wpList P ops Q (oi :: rest) a w := by
 refine wpList_plain hg fun K hK => ?_
 have he := enters_ hf hname hb args w
 have hrun : (execOp a.eval oi).run P w = .ok (.enter f args) w := by
  unfold execOp
  have e : a.eval (.func f) = .func (.func f) #[] #[] := rfl
  simp [hop, resolve, hcal, e, Deferred.ofValue, invoke, hargs, he]
 unfold Oper.wp
 rw [hrun, Oper.upon_enter]
 refine hc.mono fun e w'' hh => ?_
 obtain ⟨rfl, hk⟩ := hh
 subst hd
 exact hK _ _ (h _ hk)
theorem zkg {g : Nat} {ob : Obj} (e : W = x) (h : W.heap[g]? = some ob) : Aside0 (x.heap[g]? = some ob) := ⟨e ▸ h⟩
theorem zkG {B : Nat} (e : W = x) (h : Below B w W) : Aside0 (Below B w x) := ⟨e ▸ h⟩
theorem zbs {α β : Type} {y : Option α} {f : α → Option β} {r : β} (h : y.bind f = some r) : ∃ b, Aside0 (y = some b) ∧ f b = some r := by
 obtain ⟨b, h1, h2⟩ := Option.bind_eq_some_iff.mp h
 exact ⟨b, ⟨h1⟩, h2⟩
end
end Go.Proofs.Ytmadjhmecfbcmaa.F
end
section
namespace Go.Proofs.Ytmadjhmecfbcmaa.F
open Go.RowKit Go.Proofs.YtmadjhmecfbcmaaW.PrintWords Go.Proofs.YtmadjhmecfbcmaaW.PrintLast Go.Proofs.YtmadjhmecfbcmaaW.PrintMore
attribute [local go_sem] max2_int min2_int max_two min_two max_three min_three max_four min_four
set_option linter.unusedVariables false
set_option linter.unusedSimpArgs false
set_option maxHeartbeats 8000000
set_option maxRecDepth 100000
theorem pattern_Parts.calls (a0 : Int) (r1 : Bool) (r2 : Int) (r3 : Int) (w : World) (h : pattern_Parts.f a0 = some (r1, r2, r3)) :
  Calls Try.prog 98 #[.int .u64 a0] w fun e w' => e = .returned (.tuple #[.bool r1, .int .i64 r2, .int .u64 r3]) ∧ Drawn0 w w' := by
 have H := h
 unfold pattern_Parts.f at H
 clear h
 simp only [Option.some.injEq, Prod.mk.injEq] at H
 obtain ⟨rfl, rfl, rfl⟩ := H
 go_enter Try.func98, Try.ntmps98
 go_wp2
 go_ret3
 exact ⟨by first | rfl | (simp; done) | (simp [*]; done), by repeat (first | exact Drawn0.refl _ | apply Drawn0.step)⟩
theorem pattern_Class.calls (k : Nat) (a0 : Int) (r : Int) (w : World) (h : pattern_Class.f k a0 = some r) :
  Calls Try.prog 24 #[.int .u64 a0] w fun e w' => e = .returned (.int .u8 r) ∧ Drawn0 w w' := by
 have H := h
 unfold pattern_Class.f at H
 clear h
 obtain ⟨⟨t101, t102, t103⟩, A2, H⟩ := zbs H
 try dsimp only at H
 have HC3 := Aside0.mk H
 clear H
 go_enter Try.func24, Try.ntmps24
 go_upto_region 2 with (first | ((with_reducible refine gtc 98 rfl ?_); refine zgL 8 Try.func98 (pattern_Parts.calls a0 t101 t102 t103 _ A2.out) (h := ?_); rintro w' ⟨nd, rfl⟩))
 (try simp only [Act.put, List.setIfInBounds_toArray, List.set_cons_zero, List.set_cons_succ])
 go_cut [12] (fun v12 wc => ∃ (kq : Nat) (x12_2 : Bool), v12 = .bool x12_2 ∧ Aside0 (pattern_Class.j0 kq t102 t103 x12_2 = some r) ∧ Aside0 (kq ≤ k) ∧ Drawn0 w wc)
 case first =>
  have H := HC3.out
  clear HC3
  by_cases c4 : t102 = 2047
  ·rw [if_pos c4] at H
   have c4b0 : (t102 == 2047) = true := beq_iff_eq.mpr c4
   have c4b1 : (t102 != 2047) = false := bne_eq_false_iff_eq.mpr c4
   clear c4
   (first | rw [c4b0] | (simp only [i64_w, i32_w]; rw [c4b0]) | skip)
   have H' := Aside0.mk H
   clear H
   go_wp2
   go_meet
   case rel => exact ⟨_, ((t103 == 0)), zrl, H', ⟨zle⟩, by repeat (first | exact Drawn0.refl _ | apply Drawn0.step)⟩
  rw [if_neg c4] at H
  have c4b0 : (t102 == 2047) = false := beq_eq_false_iff_ne.mpr c4
  have c4b1 : (t102 != 2047) = true := bne_iff_ne.mpr c4
  (first | rw [c4b0] | (simp only [i64_w, i32_w]; rw [c4b0]) | skip)
  have H' := Aside0.mk H
  clear H
  go_wp2
  go_meet
  case rel => exact ⟨_, (false), zrl, H', ⟨zle⟩, by repeat (first | exact Drawn0.refl _ | apply Drawn0.step)⟩
 case rest =>
  clear HC3
  try clear c4b0
  try clear c4b1
  obtain ⟨kq, x12_2, rfl, HA, HJ2, ⟨mc2, rfl⟩⟩ := hcut
  cases kq with
  | zero => exact absurd HA.out (by simp [pattern_Class.j0])
  | succ kj2 =>
   have H := HA.out
   clear HA
   simp only [pattern_Class.j0] at H
   by_cases c5 : x12_2 = true
   ·subst c5
    replace H := zit H
    obtain rfl := Option.some.inj H
    go_wp2
    go_ret
    exact ⟨by first | rfl | (simp; done) | (simp [*]; done), by repeat (first | exact Drawn0.refl _ | apply Drawn0.step)⟩
   replace c5 := Bool.eq_false_iff.mpr c5
   subst c5
   replace H := zif H
   by_cases c6 : t102 = 2047
   ·rw [if_pos c6] at H
    have c6b0 : (t102 == 2047) = true := beq_iff_eq.mpr c6
    have c6b1 : (t102 != 2047) = false := bne_eq_false_iff_eq.mpr c6
    clear c6
    obtain rfl := Option.some.inj H
    go_wp2
    go_ret
    exact ⟨by first | rfl | (simp; done) | (simp [*]; done), by repeat (first | exact Drawn0.refl _ | apply Drawn0.step)⟩
   rw [if_neg c6] at H
   have c6b0 : (t102 == 2047) = false := beq_eq_false_iff_ne.mpr c6
   have c6b1 : (t102 != 2047) = true := bne_iff_ne.mpr c6
   have HC7 := Aside0.mk H
   clear H
   go_upto_region 6 with (fail)
   go_cut [22] (fun v22 wc => ∃ (kq : Nat) (x22_6 : Bool), v22 = .bool x22_6 ∧ Aside0 (pattern_Class.j1 kq t102 x22_6 = some r) ∧ Aside0 (kq ≤ kj2) ∧ Drawn0 w wc)
   case first =>
    have H := HC7.out
    clear HC7
    by_cases c8 : t102 = 0
    ·rw [if_pos c8] at H
     have c8b0 : (t102 == 0) = true := beq_iff_eq.mpr c8
     have c8b1 : (t102 != 0) = false := bne_eq_false_iff_eq.mpr c8
     clear c8
     (first | rw [c8b0] | (simp only [i64_w, i32_w]; rw [c8b0]) | skip)
     have H' := Aside0.mk H
     clear H
     go_wp2
     go_meet
     case rel => exact ⟨_, ((t103 == 0)), zrl, H', ⟨by have := HJ2.out; first | omega | exact Nat.le_refl _⟩, by repeat (first | exact Drawn0.refl _ | apply Drawn0.step)⟩
    rw [if_neg c8] at H
    have c8b0 : (t102 == 0) = false := beq_eq_false_iff_ne.mpr c8
    have c8b1 : (t102 != 0) = true := bne_iff_ne.mpr c8
    (first | rw [c8b0] | (simp only [i64_w, i32_w]; rw [c8b0]) | skip)
    have H' := Aside0.mk H
    clear H
    go_wp2
    go_meet
    case rel => exact ⟨_, (false), zrl, H', ⟨by have := HJ2.out; first | omega | exact Nat.le_refl _⟩, by repeat (first | exact Drawn0.refl _ | apply Drawn0.step)⟩
   case rest =>
    clear HC7
    try clear c4b0
    try clear c4b1
    try clear c6b0
    try clear c6b1
    try clear c8b0
    try clear c8b1
    obtain ⟨kq, x22_6, rfl, HA, HJ6, ⟨mc6, rfl⟩⟩ := hcut
    cases kq with
    | zero => exact absurd HA.out (by simp [pattern_Class.j1])
    | succ kj6 =>
     have H := HA.out
     clear HA
     simp only [pattern_Class.j1] at H
     by_cases c9 : x22_6 = true
     ·subst c9
      replace H := zit H
      obtain rfl := Option.some.inj H
      go_wp2
      go_ret
      exact ⟨by first | rfl | (simp; done) | (simp [*]; done), by repeat (first | exact Drawn0.refl _ | apply Drawn0.step)⟩
     replace c9 := Bool.eq_false_iff.mpr c9
     subst c9
     replace H := zif H
     by_cases c10 : t102 = 0
     ·rw [if_pos c10] at H
      have c10b0 : (t102 == 0) = true := beq_iff_eq.mpr c10
      have c10b1 : (t102 != 0) = false := bne_eq_false_iff_eq.mpr c10
      clear c10
      obtain rfl := Option.some.inj H
      go_wp2
      go_ret
      exact ⟨by first | rfl | (simp; done) | (simp [*]; done), by repeat (first | exact Drawn0.refl _ | apply Drawn0.step)⟩
     rw [if_neg c10] at H
     have c10b0 : (t102 == 0) = false := beq_eq_false_iff_ne.mpr c10
     have c10b1 : (t102 != 0) = true := bne_iff_ne.mpr c10
     obtain rfl := Option.some.inj H
     go_wp2
     go_ret
     exact ⟨by first | rfl | (simp; done) | (simp [*]; done), by repeat (first | exact Drawn0.refl _ | apply Drawn0.step)⟩
theorem pattern_nan.calls (k : Nat) (a0 : Int) (r : Bool) (w : World) (h : pattern_nan.f k a0 = some r) :
  Calls Try.prog 109 #[.int .u64 a0] w fun e w' => e = .returned (.bool r) ∧ Drawn0 w w' := by
 have H : ((pattern_Class.f k a0).bind fun t224 => (some (t224 == 4))) = some r := h
 clear h
 obtain ⟨t224, A2, H⟩ := zbs H
 try dsimp only at H
 obtain rfl := Option.some.inj H
 go_enter Try.func109, Try.ntmps109
 go_wp2_with (first | ((with_reducible refine gtc 24 rfl ?_); refine zgL 4 Try.func24 (pattern_Class.calls k a0 t224 _ A2.out) (h := ?_); rintro w' ⟨nd, rfl⟩))
 go_ret
 exact ⟨by first | rfl | (simp; done) | (simp [*]; done), by repeat (first | exact Drawn0.refl _ | apply Drawn0.step)⟩
theorem pattern_key.calls (a0 : Int) (r : Int) (w : World) (h : pattern_key.f a0 = some r) :
  Calls Try.prog 110 #[.int .u64 a0] w fun e w' => e = .returned (.int .i64 r) ∧ Drawn0 w w' := by
 have H := h
 unfold pattern_key.f at H
 clear h
 by_cases c2 : (a0 / 9223372036854775808) = 1
 ·rw [if_pos c2] at H
  have c2b0 : ((a0 / 9223372036854775808) == 1) = true := beq_iff_eq.mpr c2
  have c2b1 : ((a0 / 9223372036854775808) != 1) = false := bne_eq_false_iff_eq.mpr c2
  clear c2
  obtain rfl := Option.some.inj H
  go_enter Try.func110, Try.ntmps110
  go_wp2
  go_ret
  exact ⟨by first | rfl | (simp; done) | (simp [*]; done), by repeat (first | exact Drawn0.refl _ | apply Drawn0.step)⟩
 rw [if_neg c2] at H
 have c2b0 : ((a0 / 9223372036854775808) == 1) = false := beq_eq_false_iff_ne.mpr c2
 have c2b1 : ((a0 / 9223372036854775808) != 1) = true := bne_iff_ne.mpr c2
 obtain rfl := Option.some.inj H
 go_enter Try.func110, Try.ntmps110
 go_wp2
 go_ret
 exact ⟨by first | rfl | (simp; done) | (simp [*]; done), by repeat (first | exact Drawn0.refl _ | apply Drawn0.step)⟩
theorem pattern_Cmp.calls (k : Nat) (a0 : Int) (a1 : Int) (r1 : Int) (r2 : Bool) (w : World) (h : pattern_Cmp.f k a0 a1 = some (r1, r2)) :
  Calls Try.prog 33 #[.int .u64 a0, .int .u64 a1] w fun e w' => e = .returned (.tuple #[.int .i64 r1, .bool r2]) ∧ Drawn0 w w' := by
 have H := h
 unfold pattern_Cmp.f at H
 clear h
 have HC3 := Aside0.mk H
 clear H
 go_enter Try.func33, Try.ntmps33
 go_upto_region 1 with (fail)
 go_cut [13] (fun v13 wc => ∃ (kq : Nat) (x13_2 : Bool), v13 = .bool x13_2 ∧ Aside0 (pattern_Cmp.j0 kq a0 a1 x13_2 = some (r1, r2)) ∧ Aside0 (kq ≤ k) ∧ Drawn0 w wc)
 case first =>
  have H := HC3.out
  clear HC3
  obtain ⟨t664, A4, H⟩ := zbs H
  try dsimp only at H
  by_cases c5 : t664 = true
  ·subst c5
   replace H := zit H
   have H' := Aside0.mk H
   clear H
   go_wp2_with (first | ((with_reducible refine gtc 109 rfl ?_); refine zgL 9 Try.func109 (pattern_nan.calls k a0 true _ A4.out) (h := ?_); rintro w' ⟨nd, rfl⟩))
   go_meet
   case rel => exact ⟨_, (true), zrl, H', ⟨zle⟩, by repeat (first | exact Drawn0.refl _ | apply Drawn0.step)⟩
  replace c5 := Bool.eq_false_iff.mpr c5
  subst c5
  replace H := zif H
  obtain ⟨t665, A6, H⟩ := zbs H
  try dsimp only at H
  have H' := Aside0.mk H
  clear H
  go_wp2_with (first | ((with_reducible refine gtc 109 rfl ?_); refine zgL 9 Try.func109 (pattern_nan.calls k a0 false _ A4.out) (h := ?_); rintro w' ⟨nd, rfl⟩) | (go_at_call 109; (with_reducible refine (pattern_nan.calls k a1 t665 _ A6.out).mono ?_); rintro e w' ⟨rfl, ⟨nd, rfl⟩⟩))
  go_meet
  case rel => exact ⟨_, (t665), zrl, H', ⟨zle⟩, by repeat (first | exact Drawn0.refl _ | apply Drawn0.step)⟩
 case rest =>
  clear HC3
  obtain ⟨kq, x13_2, rfl, HA, HJ2, ⟨mc2, rfl⟩⟩ := hcut
  cases kq with
  | zero => exact absurd HA.out (by simp [pattern_Cmp.j0])
  | succ kj2 =>
   have H := HA.out
   clear HA
   simp only [pattern_Cmp.j0] at H
   by_cases c7 : x13_2 = true
   ·subst c7
    replace H := zit H
    simp only [Option.some.injEq, Prod.mk.injEq] at H
    obtain ⟨rfl, rfl⟩ := H
    go_wp2
    go_ret2
    exact ⟨by first | rfl | (simp; done) | (simp [*]; done), by repeat (first | exact Drawn0.refl _ | apply Drawn0.step)⟩
   replace c7 := Bool.eq_false_iff.mpr c7
   subst c7
   replace H := zif H
   obtain ⟨t666, A8, H⟩ := zbs H
   try dsimp only at H
   obtain ⟨t667, A9, H⟩ := zbs H
   try dsimp only at H
   by_cases c10 : t666 < t667
   ·rw [if_pos c10] at H
    have c10b0 : decide (t666 < t667) = true := decide_eq_true c10
    clear c10
    simp only [Option.some.injEq, Prod.mk.injEq] at H
    obtain ⟨rfl, rfl⟩ := H
    go_wp2_with (first | ((with_reducible refine gtc 110 rfl ?_); refine zgL 15 Try.func110 (pattern_key.calls a0 t666 _ A8.out) (h := ?_); rintro w' ⟨nd, rfl⟩) | ((with_reducible refine gtc 110 rfl ?_); refine zgL 17 Try.func110 (pattern_key.calls a1 t667 _ A9.out) (h := ?_); rintro w' ⟨nd, rfl⟩))
    go_ret2
    exact ⟨by first | rfl | (simp; done) | (simp [*]; done), by repeat (first | exact Drawn0.refl _ | apply Drawn0.step)⟩
   rw [if_neg c10] at H
   have c10b0 : decide (t666 < t667) = false := decide_eq_false c10
   clear c10
   by_cases c11 : t666 > t667
   ·rw [if_pos c11] at H
    have c11b0 : decide (t667 < t666) = true := decide_eq_true c11
    clear c11
    simp only [Option.some.injEq, Prod.mk.injEq] at H
    obtain ⟨rfl, rfl⟩ := H
    go_wp2_with (first | ((with_reducible refine gtc 110 rfl ?_); refine zgL 15 Try.func110 (pattern_key.calls a0 t666 _ A8.out) (h := ?_); rintro w' ⟨nd, rfl⟩) | ((with_reducible refine gtc 110 rfl ?_); refine zgL 17 Try.func110 (pattern_key.calls a1 t667 _ A9.out) (h := ?_); rintro w' ⟨nd, rfl⟩))
    go_ret2
    exact ⟨by first | rfl | (simp; done) | (simp [*]; done), by repeat (first | exact Drawn0.refl _ | apply Drawn0.step)⟩
   rw [if_neg c11] at H
   have c11b0 : decide (t667 < t666) = false := decide_eq_false c11
   clear c11
   simp only [Option.some.injEq, Prod.mk.injEq] at H
   obtain ⟨rfl, rfl⟩ := H
   go_wp2_with (first | ((with_reducible refine gtc 110 rfl ?_); refine zgL 15 Try.func110 (pattern_key.calls a0 t666 _ A8.out) (h := ?_); rintro w' ⟨nd, rfl⟩) | ((with_reducible refine gtc 110 rfl ?_); refine zgL 17 Try.func110 (pattern_key.calls a1 t667 _ A9.out) (h := ?_); rintro w' ⟨nd, rfl⟩))
   go_ret2
   exact ⟨by first | rfl | (simp; done) | (simp [*]; done), by repeat (first | exact Drawn0.refl _ | apply Drawn0.step)⟩
theorem pattern_Less.calls (k : Nat) (a0 : Int) (a1 : Int) (r : Bool) (w : World) (h : pattern_Less.f k a0 a1 = some r) :
  Calls Try.prog 34 #[.int .u64 a0, .int .u64 a1] w fun e w' => e = .returned (.bool r) ∧ Drawn0 w w' := by
 have H := h
 unfold pattern_Less.f at H
 clear h
 obtain ⟨⟨t685, t686⟩, A3, H⟩ := zbs H
 try dsimp only at H
 by_cases c4 : t686 = true
 ·subst c4
  replace H := zit H
  obtain rfl := Option.some.inj H
  go_enter Try.func34, Try.ntmps34
  go_wp2_with (first | ((with_reducible refine gtc 33 rfl ?_); refine zgL 10 Try.func33 (pattern_Cmp.calls k a0 a1 t685 true _ A3.out) (h := ?_); rintro w' ⟨nd, rfl⟩))
  go_ret
  exact ⟨by first | rfl | (simp; done) | (simp [*]; done), by repeat (first | exact Drawn0.refl _ | apply Drawn0.step)⟩
 replace c4 := Bool.eq_false_iff.mpr c4
 subst c4
 replace H := zif H
 obtain rfl := Option.some.inj H
 go_enter Try.func34, Try.ntmps34
 go_wp2_with (first | ((with_reducible refine gtc 33 rfl ?_); refine zgL 10 Try.func33 (pattern_Cmp.calls k a0 a1 t685 false _ A3.out) (h := ?_); rintro w' ⟨nd, rfl⟩))
 go_ret
 exact ⟨by first | rfl | (simp; done) | (simp [*]; done), by repeat (first | exact Drawn0.refl _ | apply Drawn0.step)⟩
theorem span_none.calls  (r1 : Bool) (r2 : Int) (r3 : Int) (w : World) (h : span_none.f  = some (r1, r2, r3)) :
  Calls Try.prog 118 #[] w fun e w' => e = .returned (.agg #[.bool r1, .int .u64 r2, .int .u64 r3]) ∧ Below w.heap.size w w' := by
 have hu43 := Try.underlying43
 have HB := Aside0.mk (Below.refl w.heap.size w)
 have H : (some (true, 0, 0)) = some (r1, r2, r3) := h
 clear h
 simp only [Option.some.injEq, Prod.mk.injEq] at H
 obtain ⟨rfl, rfl, rfl⟩ := H
 go_enter Try.func118, Try.ntmps118
 go_wp2_with (first | ((with_reducible refine gtd 0 rfl ?_); refine zbx 0 #[.bool false, .int .u64 0, .int .u64 0] 43 (h := ?_); intro gb716 hg w1 hbox hb; have GW716 := zkZ hg (zaB (p := Below w.heap.size w _)); replace HB := Aside0.mk (below_step zaB hb); have BK716 := Aside0.mk (hbox); clear hb hbox hg; refine zu3 BK716 fun _ _ _ _ _ _ => ?_))
 refine bodyPost_ret (results_cell_row rfl _ _ gb716 43 #[.bool true, .int .u64 0, .int .u64 0] (0, 0) _ rfl (blk_put (cs := #[.bool true, .int .u64 0, .int .u64 0]) (blk_put (cs := #[.bool true, .int .u64 0, .int .u64 0]) (blk_put (zkq BK716) 0 _ rfl) 1 _ rfl) 2 _ rfl) Try.underlying43 rfl (by kernel_rfl)) rfl ?_
 exact ⟨zaE, zaB⟩
theorem pattern_Make.calls (k : Nat) (a0 : Bool) (a1 : Int) (a2 : Int) (r1 : Int) (r2 : Int) (w : World) (h : pattern_Make.f k a0 a1 a2 = some (r1, r2)) :
  Calls Try.prog 150 #[.bool a0, .int .i64 a1, .int .u64 a2] w fun e w' => e = .returned (.tuple #[.int .u64 r1, .int .i64 r2]) ∧ Drawn0 w w' := by
 have H := h
 unfold pattern_Make.f at H
 clear h
 have HC4 := Aside0.mk H
 clear H
 go_enter Try.func150, Try.ntmps150
 go_upto_region 1 with (fail)
 go_cut [18] (fun v18 wc => ∃ (kq : Nat) (x18_3 : Bool), v18 = .bool x18_3 ∧ Aside0 (pattern_Make.j0 kq a0 a1 a2 x18_3 = some (r1, r2)) ∧ Aside0 (kq ≤ k) ∧ Drawn0 w wc)
 case first =>
  have H := HC4.out
  clear HC4
  by_cases c5 : a1 < 0
  ·rw [if_pos c5] at H
   have c5b0 : decide (a1 < 0) = true := decide_eq_true c5
   clear c5
   (first | rw [c5b0] | (simp only [i64_w, i32_w]; rw [c5b0]) | skip)
   have H' := Aside0.mk H
   clear H
   go_wp2
   go_meet
   case rel => exact ⟨_, (true), zrl, H', ⟨zle⟩, by repeat (first | exact Drawn0.refl _ | apply Drawn0.step)⟩
  rw [if_neg c5] at H
  have c5b0 : decide (a1 < 0) = false := decide_eq_false c5
  clear c5
  (first | rw [c5b0] | (simp only [i64_w, i32_w]; rw [c5b0]) | skip)
  by_cases c6 : a1 > 2047
  ·rw [if_pos c6] at H
   have c6b0 : decide (2047 < a1) = true := decide_eq_true c6
   clear c6
   have H' := Aside0.mk H
   clear H
   go_wp2
   go_meet
   case rel => exact ⟨_, (true), zrl, H', ⟨zle⟩, by repeat (first | exact Drawn0.refl _ | apply Drawn0.step)⟩
  rw [if_neg c6] at H
  have c6b0 : decide (2047 < a1) = false := decide_eq_false c6
  clear c6
  have H' := Aside0.mk H
  clear H
  go_wp2
  go_meet
  case rel => exact ⟨_, (decide (a2 > 4503599627370495)), zrl, H', ⟨zle⟩, by repeat (first | exact Drawn0.refl _ | apply Drawn0.step)⟩
 case rest =>
  clear HC4
  try clear c5b0
  try clear c6b0
  obtain ⟨kq, x18_3, rfl, HA, HJ3, ⟨mc3, rfl⟩⟩ := hcut
  cases kq with
  | zero => exact absurd HA.out (by simp [pattern_Make.j0])
  | succ kj3 =>
   have H := HA.out
   clear HA
   simp only [pattern_Make.j0] at H
   by_cases c7 : x18_3 = true
   ·subst c7
    replace H := zit H
    simp only [Option.some.injEq, Prod.mk.injEq] at H
    obtain ⟨rfl, rfl⟩ := H
    go_wp2
    go_ret2
    exact ⟨by first | rfl | (simp; done) | (simp [*]; done), by repeat (first | exact Drawn0.refl _ | apply Drawn0.step)⟩
   replace c7 := Bool.eq_false_iff.mpr c7
   subst c7
   replace H := zif H
   by_cases c8 : a0 = true
   ·subst c8
    replace H := zit H
    simp only [Option.some.injEq, Prod.mk.injEq] at H
    obtain ⟨rfl, rfl⟩ := H
    go_wp2
    go_ret2
    exact ⟨by first | rfl | (simp; done) | (simp [*]; done), by repeat (first | exact Drawn0.refl _ | apply Drawn0.step)⟩
   replace c8 := Bool.eq_false_iff.mpr c8
   subst c8
   replace H := zif H
   simp only [Option.some.injEq, Prod.mk.injEq] at H
   obtain ⟨rfl, rfl⟩ := H
   go_wp2
   go_ret2
   exact ⟨by first | rfl | (simp; done) | (simp [*]; done), by repeat (first | exact Drawn0.refl _ | apply Drawn0.step)⟩
theorem pattern_Inf.calls (k : Nat) (a0 : Bool) (r : Int) (w : World) (h : pattern_Inf.f k a0 = some r) :
  Calls Try.prog 79 #[.bool a0] w fun e w' => e = .returned (.int .u64 r) ∧ Drawn0 w w' := by
 have H : ((pattern_Make.f k a0 2047 0).bind fun bt129 => (some bt129.1)) = some r := h
 clear h
 obtain ⟨⟨t129, t130⟩, A2, H⟩ := zbs H
 try dsimp only at H
 obtain rfl := Option.some.inj H
 go_enter Try.func79, Try.ntmps79
 go_wp2_with (first | ((with_reducible refine gtc 150 rfl ?_); refine zgL 7 Try.func150 (pattern_Make.calls k a0 2047 0 t129 t130 _ A2.out) (h := ?_); rintro w' ⟨nd, rfl⟩))
 go_ret
 exact ⟨by first | rfl | (simp; done) | (simp [*]; done), by repeat (first | exact Drawn0.refl _ | apply Drawn0.step)⟩
theorem span_ninf.calls (k : Nat)  (r : Int) (w : World) (h : span_ninf.f k  = some r) :
  Calls Try.prog 113 #[] w fun e w' => e = .returned (.int .u64 r) ∧ Drawn0 w w' := by
 have H : ((pattern_Inf.f k true).bind fun t712 => (some t712)) = some r := h
 clear h
 obtain ⟨t712, A1, H⟩ := zbs H
 try dsimp only at H
 obtain rfl := Option.some.inj H
 go_enter Try.func113, Try.ntmps113
 go_wp2_with (first | ((with_reducible refine gtc 79 rfl ?_); refine zgL 1 Try.func79 (pattern_Inf.calls k true t712 _ A1.out) (h := ?_); rintro w' ⟨nd, rfl⟩))
 go_ret
 exact ⟨by first | rfl | (simp; done) | (simp [*]; done), by repeat (first | exact Drawn0.refl _ | apply Drawn0.step)⟩
theorem span_inf.calls (k : Nat)  (r : Int) (w : World) (h : span_inf.f k  = some r) :
  Calls Try.prog 114 #[] w fun e w' => e = .returned (.int .u64 r) ∧ Drawn0 w w' := by
 have H : ((pattern_Inf.f k false).bind fun t713 => (some t713)) = some r := h
 clear h
 obtain ⟨t713, A1, H⟩ := zbs H
 try dsimp only at H
 obtain rfl := Option.some.inj H
 go_enter Try.func114, Try.ntmps114
 go_wp2_with (first | ((with_reducible refine gtc 79 rfl ?_); refine zgL 1 Try.func79 (pattern_Inf.calls k false t713 _ A1.out) (h := ?_); rintro w' ⟨nd, rfl⟩))
 go_ret
 exact ⟨by first | rfl | (simp; done) | (simp [*]; done), by repeat (first | exact Drawn0.refl _ | apply Drawn0.step)⟩
theorem span_atMost.calls (k : Nat) (a0 : Int) (a1 : Int) (r : Bool) (w : World) (h : span_atMost.f k a0 a1 = some r) :
  Calls Try.prog 117 #[.int .u64 a0, .int .u64 a1] w fun e w' => e = .returned (.bool r) ∧ Drawn0 w w' := by
 have H := h
 unfold span_atMost.f at H
 clear h
 obtain ⟨⟨t714, t715⟩, A3, H⟩ := zbs H
 try dsimp only at H
 by_cases c4 : t715 = true
 ·subst c4
  replace H := zit H
  obtain rfl := Option.some.inj H
  go_enter Try.func117, Try.ntmps117
  go_wp2_with (first | ((with_reducible refine gtc 33 rfl ?_); refine zgL 10 Try.func33 (pattern_Cmp.calls k a0 a1 t714 true _ A3.out) (h := ?_); rintro w' ⟨nd, rfl⟩))
  go_ret
  exact ⟨by first | rfl | (simp; done) | (simp [*]; done), by repeat (first | exact Drawn0.refl _ | apply Drawn0.step)⟩
 replace c4 := Bool.eq_false_iff.mpr c4
 subst c4
 replace H := zif H
 obtain rfl := Option.some.inj H
 go_enter Try.func117, Try.ntmps117
 go_wp2_with (first | ((with_reducible refine gtc 33 rfl ?_); refine zgL 10 Try.func33 (pattern_Cmp.calls k a0 a1 t714 false _ A3.out) (h := ?_); rintro w' ⟨nd, rfl⟩))
 go_ret
 exact ⟨by first | rfl | (simp; done) | (simp [*]; done), by repeat (first | exact Drawn0.refl _ | apply Drawn0.step)⟩
theorem span_norm.loop (k : Nat) (a0_1 a0_2 c1 c2 t723 t727 : Int) (w : World) (A10 : Aside0 (span_atMost.f k a0_1 a0_2 = some true)) (A12 : Aside0 (span_inf.f k = some t723)) (c13b0 : (a0_1 == t723) = false) (c13b1 : (a0_1 != t723) = true) (A21 : Aside0 (span_ninf.f k = some t727)) (c22b0 : (a0_2 == t727) = false) (c22b1 : (a0_2 != t727) = true) (A30 : Aside0 (pattern_Class.f k a0_1 = some c1)) (A31 : Aside0 (pattern_Class.f k a0_2 = some c2)) :
  Calls Try.prog 112 #[.agg #[.bool false, .int .u64 a0_1, .int .u64 a0_2]] w fun e w' => e = .returned (.agg #[.bool false, .int .u64 (if c1 = 0 then 0 else a0_1), .int .u64 (if c2 = 0 then 0 else a0_2)]) ∧ Below w.heap.size w w' := by
     have hu_ := Try.underlying43
     have HB := Aside0.mk (Below.refl w.heap.size w)
     go_enter Try.func112, Try.ntmps112
     go_wp2_with (first | ((with_reducible refine gtd 1 rfl ?_); refine zbx 1 #[.bool false, .int .u64 a0_1, .int .u64 a0_2] 43 (h := ?_); intro gb717 hg w30 hbox hb; have GW717 := zkZ hg (zaB (p := Below w.heap.size w _)); replace HB := Aside0.mk (below_step zaB hb); have BK717 := Aside0.mk (hbox); clear hb hbox hg) | ((with_reducible refine gtd 2 rfl ?_); refine zbx 2 #[.bool false, .int .u64 0, .int .u64 0] 43 (h := ?_); intro gb718 hg w31 hbox hb; refine zbn1 HB BK717 hg hb hbox (c := ?_); clear HB BK717 hb hbox hg; intro GW718 NB717_718 BK717 HB BK718; refine zt1 NB717_718 fun _ _ => ?_; refine zu3 BK717 fun z33_0 z33_1 z33_2 f33_0 f33_1 f33_2 => ?_) | (go_at_call 117; (with_reducible refine (span_atMost.calls k a0_1 a0_2 true _ A10.out).mono ?_); rintro e w' ⟨rfl, ⟨nd, rfl⟩⟩; (try first | exact ⟨rfl, _, World.drewN_drewN _ _ _⟩ | exact ⟨rfl, _, Eq.trans (World.drewN_drewN _ _ _) (congrArg (World.drewN _) (Nat.add_assoc _ _ _))⟩)) | (go_at_call 114; (with_reducible refine (span_inf.calls k  t723 _ A12.out).mono ?_); rintro e w' ⟨rfl, ⟨nd, rfl⟩⟩; (try first | exact ⟨rfl, _, World.drewN_drewN _ _ _⟩ | exact ⟨rfl, _, Eq.trans (World.drewN_drewN _ _ _) (congrArg (World.drewN _) (Nat.add_assoc _ _ _))⟩)) | (go_at_call 113; (with_reducible refine (span_ninf.calls k  t727 _ A21.out).mono ?_); rintro e w' ⟨rfl, ⟨nd, rfl⟩⟩; (try first | exact ⟨rfl, _, World.drewN_drewN _ _ _⟩ | exact ⟨rfl, _, Eq.trans (World.drewN_drewN _ _ _) (congrArg (World.drewN _) (Nat.add_assoc _ _ _))⟩); refine zu3 BK718 fun z34_0 z34_1 z34_2 f34_0 f34_1 f34_2 => ?_))
     repeat (go_quiet (first | ((with_reducible refine gtd 1 rfl ?_); refine zbx 1 #[.bool false, .int .u64 a0_1, .int .u64 a0_2] 43 (h := ?_); intro gb717 hg w30 hbox hb; have GW717 := zkZ hg (zaB (p := Below w.heap.size w _)); replace HB := Aside0.mk (below_step zaB hb); have BK717 := Aside0.mk (hbox); clear hb hbox hg) | ((with_reducible refine gtd 2 rfl ?_); refine zbx 2 #[.bool false, .int .u64 0, .int .u64 0] 43 (h := ?_); intro gb718 hg w31 hbox hb; refine zbn1 HB BK717 hg hb hbox (c := ?_); clear HB BK717 hb hbox hg; intro GW718 NB717_718 BK717 HB BK718; refine zt1 NB717_718 fun _ _ => ?_; refine zu3 BK717 fun z33_0 z33_1 z33_2 f33_0 f33_1 f33_2 => ?_) | (go_at_call 117; (with_reducible refine (span_atMost.calls k a0_1 a0_2 true _ A10.out).mono ?_); rintro e w' ⟨rfl, ⟨nd, rfl⟩⟩; (try first | exact ⟨rfl, _, World.drewN_drewN _ _ _⟩ | exact ⟨rfl, _, Eq.trans (World.drewN_drewN _ _ _) (congrArg (World.drewN _) (Nat.add_assoc _ _ _))⟩)) | (go_at_call 114; (with_reducible refine (span_inf.calls k  t723 _ A12.out).mono ?_); rintro e w' ⟨rfl, ⟨nd, rfl⟩⟩; (try first | exact ⟨rfl, _, World.drewN_drewN _ _ _⟩ | exact ⟨rfl, _, Eq.trans (World.drewN_drewN _ _ _) (congrArg (World.drewN _) (Nat.add_assoc _ _ _))⟩)) | (go_at_call 113; (with_reducible refine (span_ninf.calls k  t727 _ A21.out).mono ?_); rintro e w' ⟨rfl, ⟨nd, rfl⟩⟩; (try first | exact ⟨rfl, _, World.drewN_drewN _ _ _⟩ | exact ⟨rfl, _, Eq.trans (World.drewN_drewN _ _ _) (congrArg (World.drewN _) (Nat.add_assoc _ _ _))⟩); refine zu3 BK718 fun z34_0 z34_1 z34_2 f34_0 f34_1 f34_2 => ?_)); try go_wp2_with (first | ((with_reducible refine gtd 1 rfl ?_); refine zbx 1 #[.bool false, .int .u64 a0_1, .int .u64 a0_2] 43 (h := ?_); intro gb717 hg w30 hbox hb; have GW717 := zkZ hg (zaB (p := Below w.heap.size w _)); replace HB := Aside0.mk (below_step zaB hb); have BK717 := Aside0.mk (hbox); clear hb hbox hg) | ((with_reducible refine gtd 2 rfl ?_); refine zbx 2 #[.bool false, .int .u64 0, .int .u64 0] 43 (h := ?_); intro gb718 hg w31 hbox hb; refine zbn1 HB BK717 hg hb hbox (c := ?_); clear HB BK717 hb hbox hg; intro GW718 NB717_718 BK717 HB BK718; refine zt1 NB717_718 fun _ _ => ?_; refine zu3 BK717 fun z33_0 z33_1 z33_2 f33_0 f33_1 f33_2 => ?_) | (go_at_call 117; (with_reducible refine (span_atMost.calls k a0_1 a0_2 true _ A10.out).mono ?_); rintro e w' ⟨rfl, ⟨nd, rfl⟩⟩; (try first | exact ⟨rfl, _, World.drewN_drewN _ _ _⟩ | exact ⟨rfl, _, Eq.trans (World.drewN_drewN _ _ _) (congrArg (World.drewN _) (Nat.add_assoc _ _ _))⟩)) | (go_at_call 114; (with_reducible refine (span_inf.calls k  t723 _ A12.out).mono ?_); rintro e w' ⟨rfl, ⟨nd, rfl⟩⟩; (try first | exact ⟨rfl, _, World.drewN_drewN _ _ _⟩ | exact ⟨rfl, _, Eq.trans (World.drewN_drewN _ _ _) (congrArg (World.drewN _) (Nat.add_assoc _ _ _))⟩)) | (go_at_call 113; (with_reducible refine (span_ninf.calls k  t727 _ A21.out).mono ?_); rintro e w' ⟨rfl, ⟨nd, rfl⟩⟩; (try first | exact ⟨rfl, _, World.drewN_drewN _ _ _⟩ | exact ⟨rfl, _, Eq.trans (World.drewN_drewN _ _ _) (congrArg (World.drewN _) (Nat.add_assoc _ _ _))⟩); refine zu3 BK718 fun z34_0 z34_1 z34_2 f34_0 f34_1 f34_2 => ?_)))
     clear z33_0 z33_1 z33_2 f33_0 f33_1 f33_2 z34_0 z34_1 z34_2 f34_0 f34_1 f34_2
     have hgs := Nat.ne_of_lt (blk_lt BK717.out)
     have BS := Aside0.mk (blk_new (w31.drewN nq) (Obj.cells #[.pointer (some ⟨gb717, 1, none⟩), .pointer (some ⟨gb717, 2, none⟩)] 160 (0, 0)))
     have BK717n := Aside0.mk (zkq BK717 : ((w31.drewN nq).alloc (Obj.cells #[.pointer (some ⟨gb717, 1, none⟩), .pointer (some ⟨gb717, 2, none⟩)] 160 (0, 0))).heap[gb717]? = _)
     have BK718n := Aside0.mk (zkq BK718 : ((w31.drewN nq).alloc (Obj.cells #[.pointer (some ⟨gb717, 1, none⟩), .pointer (some ⟨gb717, 2, none⟩)] 160 (0, 0))).heap[gb718]? = _)
     have HBn : Aside0 (Below w.heap.size w ((w31.drewN nq).alloc (Obj.cells #[.pointer (some ⟨gb717, 1, none⟩), .pointer (some ⟨gb717, 2, none⟩)] 160 (0, 0)))) := ⟨zaB⟩
     clear BK717 BK718 HB
     have BS2 : Aside0 (((w31.drewN nq).alloc (Obj.cells #[.pointer (some ⟨gb717, 1, none⟩), .pointer (some ⟨gb717, 2, none⟩)] 160 (0, 0))).heap[w31.heap.size]? = some (Obj.cells #[.pointer (some ⟨gb717, 1, none⟩), .pointer (some ⟨gb717, 2, none⟩)] 160 (0, 0))) := ⟨BS.out⟩
     clear BS
     generalize ((w31.drewN nq).alloc (Obj.cells #[.pointer (some ⟨gb717, 1, none⟩), .pointer (some ⟨gb717, 2, none⟩)] 160 (0, 0))) = ws at BK717n BK718n HBn BS2 ⊢
     generalize w31.heap.size = gs at hgs BS2 ⊢
     have BK717 := BK717n
     have BK718 := BK718n
     have HB := HBn
     have BS := BS2
     clear BK717n BK718n HBn BS2
     refine wp_loop_rounds 3 ?_
     rw [rounds_succ]
     by_cases z1 : c1 = 0
     ·by_cases z2 : c2 = 0
      ·have d1 : (c1 == 0) = true := beq_iff_eq.mpr z1
       have d2 : (c2 == 0) = true := beq_iff_eq.mpr z2
       have q0 := zc0 BK717
       have q1 := zc1 BK717
       have q2 := zc2 BK717
       have q3 := zc0 BS
       have q4 := zc1 BS
       have q5 := zfz BK717
       go_wp2_with ((with_reducible refine gtc 24 rfl ?_); refine zgL 39 Try.func24 (pattern_Class.calls k a0_1 c1 _ A30.out) (h := ?_); rintro wq ⟨nd, rfl⟩)
       clear q0 q1 q2 q3 q4 q5
       have BK717n := Aside0.mk (blk_put (cs := #[.bool false, .int .u64 a0_1, .int .u64 a0_2]) (cs' := #[.bool false, .int .u64 0, .int .u64 a0_2]) (zkq BK717 : (ws.drewN nd).heap[gb717]? = _) 1 (.int .u64 0) rfl)
       have BSn := Aside0.mk (zkf (p := ⟨gb717, 1, none⟩) (zkq BS : (ws.drewN nd).heap[gs]? = _) hgs.symm (.int .u64 0))
       have BK718n := Aside0.mk (zkf (p := ⟨gb717, 1, none⟩) (zkq BK718 : (ws.drewN nd).heap[gb718]? = _) (zks NB717_718).out (.int .u64 0))
       have HBn : Aside0 (Below w.heap.size w ((ws.drewN nd).setCell ⟨gb717, 1, none⟩ (.int .u64 0))) := ⟨below_set (pw_below_drewN HB.out _) GW717.out⟩
       clear BK717 BS BK718 HB
       generalize ((ws.drewN nd).setCell ⟨gb717, 1, none⟩ (.int .u64 0)) = ws2 at BK717n BSn BK718n HBn ⊢
       have BK717 := BK717n
       have BS := BSn
       have BK718 := BK718n
       have HB := HBn
       clear BK717n BSn BK718n HBn
       rw [rounds_succ]
       have q0 := zc0 BK717
       have q1 := zc1 BK717
       have q2 := zc2 BK717
       have q3 := zc0 BS
       have q4 := zc1 BS
       have q5 := zfz BK717
       go_wp2_with ((with_reducible refine gtc 24 rfl ?_); refine zgL 39 Try.func24 (pattern_Class.calls k a0_2 c2 _ A31.out) (h := ?_); rintro wq ⟨nd, rfl⟩)
       clear q0 q1 q2 q3 q4 q5
       have BK717n := Aside0.mk (blk_put (cs := #[.bool false, .int .u64 0, .int .u64 a0_2]) (cs' := #[.bool false, .int .u64 0, .int .u64 0]) (zkq BK717 : (ws2.drewN nd).heap[gb717]? = _) 2 (.int .u64 0) rfl)
       have BSn := Aside0.mk (zkf (p := ⟨gb717, 2, none⟩) (zkq BS : (ws2.drewN nd).heap[gs]? = _) hgs.symm (.int .u64 0))
       have BK718n := Aside0.mk (zkf (p := ⟨gb717, 2, none⟩) (zkq BK718 : (ws2.drewN nd).heap[gb718]? = _) (zks NB717_718).out (.int .u64 0))
       have HBn : Aside0 (Below w.heap.size w ((ws2.drewN nd).setCell ⟨gb717, 2, none⟩ (.int .u64 0))) := ⟨below_set (pw_below_drewN HB.out _) GW717.out⟩
       clear BK717 BS BK718 HB
       generalize ((ws2.drewN nd).setCell ⟨gb717, 2, none⟩ (.int .u64 0)) = ws3 at BK717n BSn BK718n HBn ⊢
       have BK717 := BK717n
       have BS := BSn
       have BK718 := BK718n
       have HB := HBn
       clear BK717n BSn BK718n HBn
       rw [rounds_succ]
       have q0 := zc0 BK717
       have q1 := zc1 BK717
       have q2 := zc2 BK717
       have q3 := zc0 BS
       have q4 := zc1 BS
       have q5 := zfz BK717
       have q6 := zc0 BK718
       have q7 := zc1 BK718
       have q8 := zc2 BK718
       have q9 := zfz BK718
       go_wp2
       refine bodyPost_ret (results_cell_row rfl _ _ gb718 43 #[.bool false, .int .u64 0, .int .u64 0] (0, 0) _ rfl (blk_put (cs := #[.bool false, .int .u64 0, .int .u64 0]) (blk_put (cs := #[.bool false, .int .u64 0, .int .u64 0]) (blk_put (zkq BK718) 0 _ rfl) 1 _ rfl) 2 _ rfl) Try.underlying43 rfl (by kernel_rfl)) rfl ?_
       exact ⟨by first | rfl | simp [z1, z2], zaB⟩
      have d1 : (c1 == 0) = true := beq_iff_eq.mpr z1
      have d2 : (c2 == 0) = false := beq_eq_false_iff_ne.mpr z2
      have q0 := zc0 BK717
      have q1 := zc1 BK717
      have q2 := zc2 BK717
      have q3 := zc0 BS
      have q4 := zc1 BS
      have q5 := zfz BK717
      go_wp2_with ((with_reducible refine gtc 24 rfl ?_); refine zgL 39 Try.func24 (pattern_Class.calls k a0_1 c1 _ A30.out) (h := ?_); rintro wq ⟨nd, rfl⟩)
      clear q0 q1 q2 q3 q4 q5
      have BK717n := Aside0.mk (blk_put (cs := #[.bool false, .int .u64 a0_1, .int .u64 a0_2]) (cs' := #[.bool false, .int .u64 0, .int .u64 a0_2]) (zkq BK717 : (ws.drewN nd).heap[gb717]? = _) 1 (.int .u64 0) rfl)
      have BSn := Aside0.mk (zkf (p := ⟨gb717, 1, none⟩) (zkq BS : (ws.drewN nd).heap[gs]? = _) hgs.symm (.int .u64 0))
      have BK718n := Aside0.mk (zkf (p := ⟨gb717, 1, none⟩) (zkq BK718 : (ws.drewN nd).heap[gb718]? = _) (zks NB717_718).out (.int .u64 0))
      have HBn : Aside0 (Below w.heap.size w ((ws.drewN nd).setCell ⟨gb717, 1, none⟩ (.int .u64 0))) := ⟨below_set (pw_below_drewN HB.out _) GW717.out⟩
      clear BK717 BS BK718 HB
      generalize ((ws.drewN nd).setCell ⟨gb717, 1, none⟩ (.int .u64 0)) = ws2 at BK717n BSn BK718n HBn ⊢
      have BK717 := BK717n
      have BS := BSn
      have BK718 := BK718n
      have HB := HBn
      clear BK717n BSn BK718n HBn
      rw [rounds_succ]
      have q0 := zc0 BK717
      have q1 := zc1 BK717
      have q2 := zc2 BK717
      have q3 := zc0 BS
      have q4 := zc1 BS
      have q5 := zfz BK717
      go_wp2_with ((with_reducible refine gtc 24 rfl ?_); refine zgL 39 Try.func24 (pattern_Class.calls k a0_2 c2 _ A31.out) (h := ?_); rintro wq ⟨nd, rfl⟩)
      clear q0 q1 q2 q3 q4 q5
      have BK717n := Aside0.mk (zkq BK717 : (ws2.drewN nd).heap[gb717]? = _)
      have BSn := Aside0.mk (zkq BS : (ws2.drewN nd).heap[gs]? = _)
      have BK718n := Aside0.mk (zkq BK718 : (ws2.drewN nd).heap[gb718]? = _)
      have HBn : Aside0 (Below w.heap.size w (ws2.drewN nd)) := ⟨pw_below_drewN HB.out _⟩
      clear BK717 BS BK718 HB
      generalize (ws2.drewN nd) = ws3 at BK717n BSn BK718n HBn ⊢
      have BK717 := BK717n
      have BS := BSn
      have BK718 := BK718n
      have HB := HBn
      clear BK717n BSn BK718n HBn
      rw [rounds_succ]
      have q0 := zc0 BK717
      have q1 := zc1 BK717
      have q2 := zc2 BK717
      have q3 := zc0 BS
      have q4 := zc1 BS
      have q5 := zfz BK717
      have q6 := zc0 BK718
      have q7 := zc1 BK718
      have q8 := zc2 BK718
      have q9 := zfz BK718
      go_wp2
      refine bodyPost_ret (results_cell_row rfl _ _ gb718 43 #[.bool false, .int .u64 0, .int .u64 a0_2] (0, 0) _ rfl (blk_put (cs := #[.bool false, .int .u64 0, .int .u64 0]) (blk_put (cs := #[.bool false, .int .u64 0, .int .u64 0]) (blk_put (zkq BK718) 0 _ rfl) 1 _ rfl) 2 _ rfl) Try.underlying43 rfl (by kernel_rfl)) rfl ?_
      exact ⟨by first | rfl | simp [z1, z2], zaB⟩
     by_cases z2 : c2 = 0
     ·have d1 : (c1 == 0) = false := beq_eq_false_iff_ne.mpr z1
      have d2 : (c2 == 0) = true := beq_iff_eq.mpr z2
      have q0 := zc0 BK717
      have q1 := zc1 BK717
      have q2 := zc2 BK717
      have q3 := zc0 BS
      have q4 := zc1 BS
      have q5 := zfz BK717
      go_wp2_with ((with_reducible refine gtc 24 rfl ?_); refine zgL 39 Try.func24 (pattern_Class.calls k a0_1 c1 _ A30.out) (h := ?_); rintro wq ⟨nd, rfl⟩)
      clear q0 q1 q2 q3 q4 q5
      have BK717n := Aside0.mk (zkq BK717 : (ws.drewN nd).heap[gb717]? = _)
      have BSn := Aside0.mk (zkq BS : (ws.drewN nd).heap[gs]? = _)
      have BK718n := Aside0.mk (zkq BK718 : (ws.drewN nd).heap[gb718]? = _)
      have HBn : Aside0 (Below w.heap.size w (ws.drewN nd)) := ⟨pw_below_drewN HB.out _⟩
      clear BK717 BS BK718 HB
      generalize (ws.drewN nd) = ws2 at BK717n BSn BK718n HBn ⊢
      have BK717 := BK717n
      have BS := BSn
      have BK718 := BK718n
      have HB := HBn
      clear BK717n BSn BK718n HBn
      rw [rounds_succ]
      have q0 := zc0 BK717
      have q1 := zc1 BK717
      have q2 := zc2 BK717
      have q3 := zc0 BS
      have q4 := zc1 BS
      have q5 := zfz BK717
      go_wp2_with ((with_reducible refine gtc 24 rfl ?_); refine zgL 39 Try.func24 (pattern_Class.calls k a0_2 c2 _ A31.out) (h := ?_); rintro wq ⟨nd, rfl⟩)
      clear q0 q1 q2 q3 q4 q5
      have BK717n := Aside0.mk (blk_put (cs := #[.bool false, .int .u64 a0_1, .int .u64 a0_2]) (cs' := #[.bool false, .int .u64 a0_1, .int .u64 0]) (zkq BK717 : (ws2.drewN nd).heap[gb717]? = _) 2 (.int .u64 0) rfl)
      have BSn := Aside0.mk (zkf (p := ⟨gb717, 2, none⟩) (zkq BS : (ws2.drewN nd).heap[gs]? = _) hgs.symm (.int .u64 0))
      have BK718n := Aside0.mk (zkf (p := ⟨gb717, 2, none⟩) (zkq BK718 : (ws2.drewN nd).heap[gb718]? = _) (zks NB717_718).out (.int .u64 0))
      have HBn : Aside0 (Below w.heap.size w ((ws2.drewN nd).setCell ⟨gb717, 2, none⟩ (.int .u64 0))) := ⟨below_set (pw_below_drewN HB.out _) GW717.out⟩
      clear BK717 BS BK718 HB
      generalize ((ws2.drewN nd).setCell ⟨gb717, 2, none⟩ (.int .u64 0)) = ws3 at BK717n BSn BK718n HBn ⊢
      have BK717 := BK717n
      have BS := BSn
      have BK718 := BK718n
      have HB := HBn
      clear BK717n BSn BK718n HBn
      rw [rounds_succ]
      have q0 := zc0 BK717
      have q1 := zc1 BK717
      have q2 := zc2 BK717
      have q3 := zc0 BS
      have q4 := zc1 BS
      have q5 := zfz BK717
      have q6 := zc0 BK718
      have q7 := zc1 BK718
      have q8 := zc2 BK718
      have q9 := zfz BK718
      go_wp2
      refine bodyPost_ret (results_cell_row rfl _ _ gb718 43 #[.bool false, .int .u64 a0_1, .int .u64 0] (0, 0) _ rfl (blk_put (cs := #[.bool false, .int .u64 a0_1, .int .u64 0]) (blk_put (cs := #[.bool false, .int .u64 0, .int .u64 0]) (blk_put (zkq BK718) 0 _ rfl) 1 _ rfl) 2 _ rfl) Try.underlying43 rfl (by kernel_rfl)) rfl ?_
      exact ⟨by first | rfl | simp [z1, z2], zaB⟩
     have d1 : (c1 == 0) = false := beq_eq_false_iff_ne.mpr z1
     have d2 : (c2 == 0) = false := beq_eq_false_iff_ne.mpr z2
     have q0 := zc0 BK717
     have q1 := zc1 BK717
     have q2 := zc2 BK717
     have q3 := zc0 BS
     have q4 := zc1 BS
     have q5 := zfz BK717
     go_wp2_with ((with_reducible refine gtc 24 rfl ?_); refine zgL 39 Try.func24 (pattern_Class.calls k a0_1 c1 _ A30.out) (h := ?_); rintro wq ⟨nd, rfl⟩)
     clear q0 q1 q2 q3 q4 q5
     have BK717n := Aside0.mk (zkq BK717 : (ws.drewN nd).heap[gb717]? = _)
     have BSn := Aside0.mk (zkq BS : (ws.drewN nd).heap[gs]? = _)
     have BK718n := Aside0.mk (zkq BK718 : (ws.drewN nd).heap[gb718]? = _)
     have HBn : Aside0 (Below w.heap.size w (ws.drewN nd)) := ⟨pw_below_drewN HB.out _⟩
     clear BK717 BS BK718 HB
     generalize (ws.drewN nd) = ws2 at BK717n BSn BK718n HBn ⊢
     have BK717 := BK717n
     have BS := BSn
     have BK718 := BK718n
     have HB := HBn
     clear BK717n BSn BK718n HBn
     rw [rounds_succ]
     have q0 := zc0 BK717
     have q1 := zc1 BK717
     have q2 := zc2 BK717
     have q3 := zc0 BS
     have q4 := zc1 BS
     have q5 := zfz BK717
     go_wp2_with ((with_reducible refine gtc 24 rfl ?_); refine zgL 39 Try.func24 (pattern_Class.calls k a0_2 c2 _ A31.out) (h := ?_); rintro wq ⟨nd, rfl⟩)
     clear q0 q1 q2 q3 q4 q5
     have BK717n := Aside0.mk (zkq BK717 : (ws2.drewN nd).heap[gb717]? = _)
     have BSn := Aside0.mk (zkq BS : (ws2.drewN nd).heap[gs]? = _)
     have BK718n := Aside0.mk (zkq BK718 : (ws2.drewN nd).heap[gb718]? = _)
     have HBn : Aside0 (Below w.heap.size w (ws2.drewN nd)) := ⟨pw_below_drewN HB.out _⟩
     clear BK717 BS BK718 HB
     generalize (ws2.drewN nd) = ws3 at BK717n BSn BK718n HBn ⊢
     have BK717 := BK717n
     have BS := BSn
     have BK718 := BK718n
     have HB := HBn
     clear BK717n BSn BK718n HBn
     rw [rounds_succ]
     have q0 := zc0 BK717
     have q1 := zc1 BK717
     have q2 := zc2 BK717
     have q3 := zc0 BS
     have q4 := zc1 BS
     have q5 := zfz BK717
     have q6 := zc0 BK718
     have q7 := zc1 BK718
     have q8 := zc2 BK718
     have q9 := zfz BK718
     go_wp2
     refine bodyPost_ret (results_cell_row rfl _ _ gb718 43 #[.bool false, .int .u64 a0_1, .int .u64 a0_2] (0, 0) _ rfl (blk_put (cs := #[.bool false, .int .u64 a0_1, .int .u64 0]) (blk_put (cs := #[.bool false, .int .u64 0, .int .u64 0]) (blk_put (zkq BK718) 0 _ rfl) 1 _ rfl) 2 _ rfl) Try.underlying43 rfl (by kernel_rfl)) rfl ?_
     exact ⟨by first | rfl | simp [z1, z2], zaB⟩
theorem span_norm.calls (k : Nat) (a0_0 : Bool) (a0_1 : Int) (a0_2 : Int) (r1 : Bool) (r2 : Int) (r3 : Int) (w : World) (h : span_norm.f k a0_0 a0_1 a0_2 = some (r1, r2, r3)) :
    Calls Try.prog 112 #[.agg #[.bool a0_0, .int .u64 a0_1, .int .u64 a0_2]] w fun e w' => e = .returned (.agg #[.bool r1, .int .u64 r2, .int .u64 r3]) ∧ Below w.heap.size w w' := by
  have hu_ := Try.underlying43
  have HB := Aside0.mk (Below.refl w.heap.size w)
  have H := h
  unfold span_norm.f at H
  clear h
  by_cases c2 : a0_0 = true
  · subst c2
    replace H := zit H
    obtain ⟨⟨t719, t720, t721⟩, A3, H⟩ := zbs H
    try dsimp only at H
    simp only [Option.some.injEq, Prod.mk.injEq] at H
    obtain ⟨rfl, rfl, rfl⟩ := H
    go_enter Try.func112, Try.ntmps112
    go_wp2_with (first | ((with_reducible refine gtd 1 rfl ?_); refine zbx 1 #[.bool true, .int .u64 a0_1, .int .u64 a0_2] 43 (h := ?_); intro gb717 hg w4 hbox hb; have GW717 := zkZ hg (zaB (p := Below w.heap.size w _)); replace HB := Aside0.mk (below_step zaB hb); have BK717 := Aside0.mk (hbox); clear hb hbox hg) | ((with_reducible refine gtd 2 rfl ?_); refine zbx 2 #[.bool false, .int .u64 0, .int .u64 0] 43 (h := ?_); intro gb718 hg w5 hbox hb; refine zbn1 HB BK717 hg hb hbox (c := ?_); clear HB BK717 hb hbox hg; intro GW718 NB717_718 BK717 HB BK718; refine zt1 NB717_718 fun _ _ => ?_; refine zu3 BK717 fun z7_0 z7_1 z7_2 f7_0 f7_1 f7_2 => ?_) | (go_at_call 118; (with_reducible refine (span_none.calls  t719 t720 t721 _ A3.out).mono ?_); rintro e w8 ⟨rfl, hb⟩; refine zcn2 HB BK717 BK718 hb (c := ?_); clear HB BK717 BK718 hb; intro BK717 BK718 HB; refine zu3 BK718 fun z9_0 z9_1 z9_2 f9_0 f9_1 f9_2 => ?_))
    repeat (go_quiet (first | ((with_reducible refine gtd 1 rfl ?_); refine zbx 1 #[.bool true, .int .u64 a0_1, .int .u64 a0_2] 43 (h := ?_); intro gb717 hg w4 hbox hb; have GW717 := zkZ hg (zaB (p := Below w.heap.size w _)); replace HB := Aside0.mk (below_step zaB hb); have BK717 := Aside0.mk (hbox); clear hb hbox hg) | ((with_reducible refine gtd 2 rfl ?_); refine zbx 2 #[.bool false, .int .u64 0, .int .u64 0] 43 (h := ?_); intro gb718 hg w5 hbox hb; refine zbn1 HB BK717 hg hb hbox (c := ?_); clear HB BK717 hb hbox hg; intro GW718 NB717_718 BK717 HB BK718; refine zt1 NB717_718 fun _ _ => ?_; refine zu3 BK717 fun z7_0 z7_1 z7_2 f7_0 f7_1 f7_2 => ?_) | (go_at_call 118; (with_reducible refine (span_none.calls  t719 t720 t721 _ A3.out).mono ?_); rintro e w8 ⟨rfl, hb⟩; refine zcn2 HB BK717 BK718 hb (c := ?_); clear HB BK717 BK718 hb; intro BK717 BK718 HB; refine zu3 BK718 fun z9_0 z9_1 z9_2 f9_0 f9_1 f9_2 => ?_)); try go_wp2_with (first | ((with_reducible refine gtd 1 rfl ?_); refine zbx 1 #[.bool true, .int .u64 a0_1, .int .u64 a0_2] 43 (h := ?_); intro gb717 hg w4 hbox hb; have GW717 := zkZ hg (zaB (p := Below w.heap.size w _)); replace HB := Aside0.mk (below_step zaB hb); have BK717 := Aside0.mk (hbox); clear hb hbox hg) | ((with_reducible refine gtd 2 rfl ?_); refine zbx 2 #[.bool false, .int .u64 0, .int .u64 0] 43 (h := ?_); intro gb718 hg w5 hbox hb; refine zbn1 HB BK717 hg hb hbox (c := ?_); clear HB BK717 hb hbox hg; intro GW718 NB717_718 BK717 HB BK718; refine zt1 NB717_718 fun _ _ => ?_; refine zu3 BK717 fun z7_0 z7_1 z7_2 f7_0 f7_1 f7_2 => ?_) | (go_at_call 118; (with_reducible refine (span_none.calls  t719 t720 t721 _ A3.out).mono ?_); rintro e w8 ⟨rfl, hb⟩; refine zcn2 HB BK717 BK718 hb (c := ?_); clear HB BK717 BK718 hb; intro BK717 BK718 HB; refine zu3 BK718 fun z9_0 z9_1 z9_2 f9_0 f9_1 f9_2 => ?_)))
    refine bodyPost_ret (results_cell_row rfl _ _ gb718 43 #[.bool t719, .int .u64 t720, .int .u64 t721] (0, 0) _ rfl (blk_put (cs := #[.bool t719, .int .u64 t720, .int .u64 0]) (blk_put (cs := #[.bool t719, .int .u64 0, .int .u64 0]) (blk_put (zkq BK718) 0 _ rfl) 1 _ rfl) 2 _ rfl) Try.underlying43 rfl (by kernel_rfl)) rfl ?_
    exact ⟨zaE, zaB⟩
  · replace c2 := Bool.eq_false_iff.mpr c2
    subst c2
    replace H := zif H
    obtain ⟨t722, A10, H⟩ := zbs H
    try dsimp only at H
    by_cases c11 : t722 = true
    · subst c11
      replace H := zit H
      obtain ⟨t723, A12, H⟩ := zbs H
      try dsimp only at H
      by_cases c13 : a0_1 = t723
      · rw [if_pos c13] at H
        have c13b0 : (a0_1 == t723) = true := beq_iff_eq.mpr c13
        have c13b1 : (a0_1 != t723) = false := bne_eq_false_iff_eq.mpr c13
        clear c13
        obtain ⟨⟨t724, t725, t726⟩, A14, H⟩ := zbs H
        try dsimp only at H
        simp only [Option.some.injEq, Prod.mk.injEq] at H
        obtain ⟨rfl, rfl, rfl⟩ := H
        go_enter Try.func112, Try.ntmps112
        go_wp2_with (first | ((with_reducible refine gtd 1 rfl ?_); refine zbx 1 #[.bool false, .int .u64 a0_1, .int .u64 a0_2] 43 (h := ?_); intro gb717 hg w15 hbox hb; have GW717 := zkZ hg (zaB (p := Below w.heap.size w _)); replace HB := Aside0.mk (below_step zaB hb); have BK717 := Aside0.mk (hbox); clear hb hbox hg) | ((with_reducible refine gtd 2 rfl ?_); refine zbx 2 #[.bool false, .int .u64 0, .int .u64 0] 43 (h := ?_); intro gb718 hg w16 hbox hb; refine zbn1 HB BK717 hg hb hbox (c := ?_); clear HB BK717 hb hbox hg; intro GW718 NB717_718 BK717 HB BK718; refine zt1 NB717_718 fun _ _ => ?_; refine zu3 BK717 fun z18_0 z18_1 z18_2 f18_0 f18_1 f18_2 => ?_) | (go_at_call 117; (with_reducible refine (span_atMost.calls k a0_1 a0_2 true _ A10.out).mono ?_); rintro e w' ⟨rfl, ⟨nd, rfl⟩⟩; (try first | exact ⟨rfl, _, World.drewN_drewN _ _ _⟩ | exact ⟨rfl, _, Eq.trans (World.drewN_drewN _ _ _) (congrArg (World.drewN _) (Nat.add_assoc _ _ _))⟩)) | (go_at_call 114; (with_reducible refine (span_inf.calls k  t723 _ A12.out).mono ?_); rintro e w' ⟨rfl, ⟨nd, rfl⟩⟩; (try first | exact ⟨rfl, _, World.drewN_drewN _ _ _⟩ | exact ⟨rfl, _, Eq.trans (World.drewN_drewN _ _ _) (congrArg (World.drewN _) (Nat.add_assoc _ _ _))⟩)) | (go_at_call 118; (with_reducible refine (span_none.calls  t724 t725 t726 _ A14.out).mono ?_); rintro e w19 ⟨rfl, hb⟩; refine zcn2 HB BK717 BK718 hb (c := ?_); clear HB BK717 BK718 hb; intro BK717 BK718 HB; refine zu3 BK718 fun z20_0 z20_1 z20_2 f20_0 f20_1 f20_2 => ?_))
        repeat (go_quiet (first | ((with_reducible refine gtd 1 rfl ?_); refine zbx 1 #[.bool false, .int .u64 a0_1, .int .u64 a0_2] 43 (h := ?_); intro gb717 hg w15 hbox hb; have GW717 := zkZ hg (zaB (p := Below w.heap.size w _)); replace HB := Aside0.mk (below_step zaB hb); have BK717 := Aside0.mk (hbox); clear hb hbox hg) | ((with_reducible refine gtd 2 rfl ?_); refine zbx 2 #[.bool false, .int .u64 0, .int .u64 0] 43 (h := ?_); intro gb718 hg w16 hbox hb; refine zbn1 HB BK717 hg hb hbox (c := ?_); clear HB BK717 hb hbox hg; intro GW718 NB717_718 BK717 HB BK718; refine zt1 NB717_718 fun _ _ => ?_; refine zu3 BK717 fun z18_0 z18_1 z18_2 f18_0 f18_1 f18_2 => ?_) | (go_at_call 117; (with_reducible refine (span_atMost.calls k a0_1 a0_2 true _ A10.out).mono ?_); rintro e w' ⟨rfl, ⟨nd, rfl⟩⟩; (try first | exact ⟨rfl, _, World.drewN_drewN _ _ _⟩ | exact ⟨rfl, _, Eq.trans (World.drewN_drewN _ _ _) (congrArg (World.drewN _) (Nat.add_assoc _ _ _))⟩)) | (go_at_call 114; (with_reducible refine (span_inf.calls k  t723 _ A12.out).mono ?_); rintro e w' ⟨rfl, ⟨nd, rfl⟩⟩; (try first | exact ⟨rfl, _, World.drewN_drewN _ _ _⟩ | exact ⟨rfl, _, Eq.trans (World.drewN_drewN _ _ _) (congrArg (World.drewN _) (Nat.add_assoc _ _ _))⟩)) | (go_at_call 118; (with_reducible refine (span_none.calls  t724 t725 t726 _ A14.out).mono ?_); rintro e w19 ⟨rfl, hb⟩; refine zcn2 HB BK717 BK718 hb (c := ?_); clear HB BK717 BK718 hb; intro BK717 BK718 HB; refine zu3 BK718 fun z20_0 z20_1 z20_2 f20_0 f20_1 f20_2 => ?_)); try go_wp2_with (first | ((with_reducible refine gtd 1 rfl ?_); refine zbx 1 #[.bool false, .int .u64 a0_1, .int .u64 a0_2] 43 (h := ?_); intro gb717 hg w15 hbox hb; have GW717 := zkZ hg (zaB (p := Below w.heap.size w _)); replace HB := Aside0.mk (below_step zaB hb); have BK717 := Aside0.mk (hbox); clear hb hbox hg) | ((with_reducible refine gtd 2 rfl ?_); refine zbx 2 #[.bool false, .int .u64 0, .int .u64 0] 43 (h := ?_); intro gb718 hg w16 hbox hb; refine zbn1 HB BK717 hg hb hbox (c := ?_); clear HB BK717 hb hbox hg; intro GW718 NB717_718 BK717 HB BK718; refine zt1 NB717_718 fun _ _ => ?_; refine zu3 BK717 fun z18_0 z18_1 z18_2 f18_0 f18_1 f18_2 => ?_) | (go_at_call 117; (with_reducible refine (span_atMost.calls k a0_1 a0_2 true _ A10.out).mono ?_); rintro e w' ⟨rfl, ⟨nd, rfl⟩⟩; (try first | exact ⟨rfl, _, World.drewN_drewN _ _ _⟩ | exact ⟨rfl, _, Eq.trans (World.drewN_drewN _ _ _) (congrArg (World.drewN _) (Nat.add_assoc _ _ _))⟩)) | (go_at_call 114; (with_reducible refine (span_inf.calls k  t723 _ A12.out).mono ?_); rintro e w' ⟨rfl, ⟨nd, rfl⟩⟩; (try first | exact ⟨rfl, _, World.drewN_drewN _ _ _⟩ | exact ⟨rfl, _, Eq.trans (World.drewN_drewN _ _ _) (congrArg (World.drewN _) (Nat.add_assoc _ _ _))⟩)) | (go_at_call 118; (with_reducible refine (span_none.calls  t724 t725 t726 _ A14.out).mono ?_); rintro e w19 ⟨rfl, hb⟩; refine zcn2 HB BK717 BK718 hb (c := ?_); clear HB BK717 BK718 hb; intro BK717 BK718 HB; refine zu3 BK718 fun z20_0 z20_1 z20_2 f20_0 f20_1 f20_2 => ?_)))
        refine bodyPost_ret (results_cell_row rfl _ _ gb718 43 #[.bool t724, .int .u64 t725, .int .u64 t726] (0, 0) _ rfl (blk_put (cs := #[.bool t724, .int .u64 t725, .int .u64 0]) (blk_put (cs := #[.bool t724, .int .u64 0, .int .u64 0]) (blk_put (zkq BK718) 0 _ rfl) 1 _ rfl) 2 _ rfl) Try.underlying43 rfl (by kernel_rfl)) rfl ?_
        exact ⟨zaE, zaB⟩
      · rw [if_neg c13] at H
        have c13b0 : (a0_1 == t723) = false := beq_eq_false_iff_ne.mpr c13
        have c13b1 : (a0_1 != t723) = true := bne_iff_ne.mpr c13
        obtain ⟨t727, A21, H⟩ := zbs H
        try dsimp only at H
        by_cases c22 : a0_2 = t727
        · rw [if_pos c22] at H
          have c22b0 : (a0_2 == t727) = true := beq_iff_eq.mpr c22
          have c22b1 : (a0_2 != t727) = false := bne_eq_false_iff_eq.mpr c22
          clear c22
          obtain ⟨⟨t728, t729, t730⟩, A23, H⟩ := zbs H
          try dsimp only at H
          simp only [Option.some.injEq, Prod.mk.injEq] at H
          obtain ⟨rfl, rfl, rfl⟩ := H
          go_enter Try.func112, Try.ntmps112
          go_wp2_with (first | ((with_reducible refine gtd 1 rfl ?_); refine zbx 1 #[.bool false, .int .u64 a0_1, .int .u64 a0_2] 43 (h := ?_); intro gb717 hg w24 hbox hb; have GW717 := zkZ hg (zaB (p := Below w.heap.size w _)); replace HB := Aside0.mk (below_step zaB hb); have BK717 := Aside0.mk (hbox); clear hb hbox hg) | ((with_reducible refine gtd 2 rfl ?_); refine zbx 2 #[.bool false, .int .u64 0, .int .u64 0] 43 (h := ?_); intro gb718 hg w25 hbox hb; refine zbn1 HB BK717 hg hb hbox (c := ?_); clear HB BK717 hb hbox hg; intro GW718 NB717_718 BK717 HB BK718; refine zt1 NB717_718 fun _ _ => ?_; refine zu3 BK717 fun z27_0 z27_1 z27_2 f27_0 f27_1 f27_2 => ?_) | (go_at_call 117; (with_reducible refine (span_atMost.calls k a0_1 a0_2 true _ A10.out).mono ?_); rintro e w' ⟨rfl, ⟨nd, rfl⟩⟩; (try first | exact ⟨rfl, _, World.drewN_drewN _ _ _⟩ | exact ⟨rfl, _, Eq.trans (World.drewN_drewN _ _ _) (congrArg (World.drewN _) (Nat.add_assoc _ _ _))⟩)) | (go_at_call 114; (with_reducible refine (span_inf.calls k  t723 _ A12.out).mono ?_); rintro e w' ⟨rfl, ⟨nd, rfl⟩⟩; (try first | exact ⟨rfl, _, World.drewN_drewN _ _ _⟩ | exact ⟨rfl, _, Eq.trans (World.drewN_drewN _ _ _) (congrArg (World.drewN _) (Nat.add_assoc _ _ _))⟩)) | (go_at_call 113; (with_reducible refine (span_ninf.calls k  t727 _ A21.out).mono ?_); rintro e w' ⟨rfl, ⟨nd, rfl⟩⟩; (try first | exact ⟨rfl, _, World.drewN_drewN _ _ _⟩ | exact ⟨rfl, _, Eq.trans (World.drewN_drewN _ _ _) (congrArg (World.drewN _) (Nat.add_assoc _ _ _))⟩)) | (go_at_call 118; (with_reducible refine (span_none.calls  t728 t729 t730 _ A23.out).mono ?_); rintro e w28 ⟨rfl, hb⟩; refine zcn2 HB BK717 BK718 hb (c := ?_); clear HB BK717 BK718 hb; intro BK717 BK718 HB; refine zu3 BK718 fun z29_0 z29_1 z29_2 f29_0 f29_1 f29_2 => ?_))
          repeat (go_quiet (first | ((with_reducible refine gtd 1 rfl ?_); refine zbx 1 #[.bool false, .int .u64 a0_1, .int .u64 a0_2] 43 (h := ?_); intro gb717 hg w24 hbox hb; have GW717 := zkZ hg (zaB (p := Below w.heap.size w _)); replace HB := Aside0.mk (below_step zaB hb); have BK717 := Aside0.mk (hbox); clear hb hbox hg) | ((with_reducible refine gtd 2 rfl ?_); refine zbx 2 #[.bool false, .int .u64 0, .int .u64 0] 43 (h := ?_); intro gb718 hg w25 hbox hb; refine zbn1 HB BK717 hg hb hbox (c := ?_); clear HB BK717 hb hbox hg; intro GW718 NB717_718 BK717 HB BK718; refine zt1 NB717_718 fun _ _ => ?_; refine zu3 BK717 fun z27_0 z27_1 z27_2 f27_0 f27_1 f27_2 => ?_) | (go_at_call 117; (with_reducible refine (span_atMost.calls k a0_1 a0_2 true _ A10.out).mono ?_); rintro e w' ⟨rfl, ⟨nd, rfl⟩⟩; (try first | exact ⟨rfl, _, World.drewN_drewN _ _ _⟩ | exact ⟨rfl, _, Eq.trans (World.drewN_drewN _ _ _) (congrArg (World.drewN _) (Nat.add_assoc _ _ _))⟩)) | (go_at_call 114; (with_reducible refine (span_inf.calls k  t723 _ A12.out).mono ?_); rintro e w' ⟨rfl, ⟨nd, rfl⟩⟩; (try first | exact ⟨rfl, _, World.drewN_drewN _ _ _⟩ | exact ⟨rfl, _, Eq.trans (World.drewN_drewN _ _ _) (congrArg (World.drewN _) (Nat.add_assoc _ _ _))⟩)) | (go_at_call 113; (with_reducible refine (span_ninf.calls k  t727 _ A21.out).mono ?_); rintro e w' ⟨rfl, ⟨nd, rfl⟩⟩; (try first | exact ⟨rfl, _, World.drewN_drewN _ _ _⟩ | exact ⟨rfl, _, Eq.trans (World.drewN_drewN _ _ _) (congrArg (World.drewN _) (Nat.add_assoc _ _ _))⟩)) | (go_at_call 118; (with_reducible refine (span_none.calls  t728 t729 t730 _ A23.out).mono ?_); rintro e w28 ⟨rfl, hb⟩; refine zcn2 HB BK717 BK718 hb (c := ?_); clear HB BK717 BK718 hb; intro BK717 BK718 HB; refine zu3 BK718 fun z29_0 z29_1 z29_2 f29_0 f29_1 f29_2 => ?_)); try go_wp2_with (first | ((with_reducible refine gtd 1 rfl ?_); refine zbx 1 #[.bool false, .int .u64 a0_1, .int .u64 a0_2] 43 (h := ?_); intro gb717 hg w24 hbox hb; have GW717 := zkZ hg (zaB (p := Below w.heap.size w _)); replace HB := Aside0.mk (below_step zaB hb); have BK717 := Aside0.mk (hbox); clear hb hbox hg) | ((with_reducible refine gtd 2 rfl ?_); refine zbx 2 #[.bool false, .int .u64 0, .int .u64 0] 43 (h := ?_); intro gb718 hg w25 hbox hb; refine zbn1 HB BK717 hg hb hbox (c := ?_); clear HB BK717 hb hbox hg; intro GW718 NB717_718 BK717 HB BK718; refine zt1 NB717_718 fun _ _ => ?_; refine zu3 BK717 fun z27_0 z27_1 z27_2 f27_0 f27_1 f27_2 => ?_) | (go_at_call 117; (with_reducible refine (span_atMost.calls k a0_1 a0_2 true _ A10.out).mono ?_); rintro e w' ⟨rfl, ⟨nd, rfl⟩⟩; (try first | exact ⟨rfl, _, World.drewN_drewN _ _ _⟩ | exact ⟨rfl, _, Eq.trans (World.drewN_drewN _ _ _) (congrArg (World.drewN _) (Nat.add_assoc _ _ _))⟩)) | (go_at_call 114; (with_reducible refine (span_inf.calls k  t723 _ A12.out).mono ?_); rintro e w' ⟨rfl, ⟨nd, rfl⟩⟩; (try first | exact ⟨rfl, _, World.drewN_drewN _ _ _⟩ | exact ⟨rfl, _, Eq.trans (World.drewN_drewN _ _ _) (congrArg (World.drewN _) (Nat.add_assoc _ _ _))⟩)) | (go_at_call 113; (with_reducible refine (span_ninf.calls k  t727 _ A21.out).mono ?_); rintro e w' ⟨rfl, ⟨nd, rfl⟩⟩; (try first | exact ⟨rfl, _, World.drewN_drewN _ _ _⟩ | exact ⟨rfl, _, Eq.trans (World.drewN_drewN _ _ _) (congrArg (World.drewN _) (Nat.add_assoc _ _ _))⟩)) | (go_at_call 118; (with_reducible refine (span_none.calls  t728 t729 t730 _ A23.out).mono ?_); rintro e w28 ⟨rfl, hb⟩; refine zcn2 HB BK717 BK718 hb (c := ?_); clear HB BK717 BK718 hb; intro BK717 BK718 HB; refine zu3 BK718 fun z29_0 z29_1 z29_2 f29_0 f29_1 f29_2 => ?_)))
          refine bodyPost_ret (results_cell_row rfl _ _ gb718 43 #[.bool t728, .int .u64 t729, .int .u64 t730] (0, 0) _ rfl (blk_put (cs := #[.bool t728, .int .u64 t729, .int .u64 0]) (blk_put (cs := #[.bool t728, .int .u64 0, .int .u64 0]) (blk_put (zkq BK718) 0 _ rfl) 1 _ rfl) 2 _ rfl) Try.underlying43 rfl (by kernel_rfl)) rfl ?_
          exact ⟨zaE, zaB⟩
        · rw [if_neg c22] at H
          have c22b0 : (a0_2 == t727) = false := beq_eq_false_iff_ne.mpr c22
          have c22b1 : (a0_2 != t727) = true := bne_iff_ne.mpr c22
          replace H := Option.bind_eq_some_iff.mp H
          obtain ⟨c1, A30, H⟩ := H
          replace H := Option.bind_eq_some_iff.mp H
          obtain ⟨c2, A31, H⟩ := H
          simp only [Option.some.injEq, Prod.mk.injEq] at H
          obtain ⟨rfl, rfl, rfl⟩ := H
          exact span_norm.loop k a0_1 a0_2 c1 c2 t723 t727 w A10 A12 c13b0 c13b1 A21 c22b0 c22b1 ⟨A30⟩ ⟨A31⟩
    · replace c11 := Bool.eq_false_iff.mpr c11
      subst c11
      replace H := zif H
      obtain ⟨⟨t731, t732, t733⟩, A35, H⟩ := zbs H
      try dsimp only at H
      simp only [Option.some.injEq, Prod.mk.injEq] at H
      obtain ⟨rfl, rfl, rfl⟩ := H
      go_enter Try.func112, Try.ntmps112
      go_wp2_with (first | ((with_reducible refine gtd 1 rfl ?_); refine zbx 1 #[.bool false, .int .u64 a0_1, .int .u64 a0_2] 43 (h := ?_); intro gb717 hg w36 hbox hb; have GW717 := zkZ hg (zaB (p := Below w.heap.size w _)); replace HB := Aside0.mk (below_step zaB hb); have BK717 := Aside0.mk (hbox); clear hb hbox hg) | ((with_reducible refine gtd 2 rfl ?_); refine zbx 2 #[.bool false, .int .u64 0, .int .u64 0] 43 (h := ?_); intro gb718 hg w37 hbox hb; refine zbn1 HB BK717 hg hb hbox (c := ?_); clear HB BK717 hb hbox hg; intro GW718 NB717_718 BK717 HB BK718; refine zt1 NB717_718 fun _ _ => ?_; refine zu3 BK717 fun z39_0 z39_1 z39_2 f39_0 f39_1 f39_2 => ?_) | (go_at_call 117; (with_reducible refine (span_atMost.calls k a0_1 a0_2 false _ A10.out).mono ?_); rintro e w' ⟨rfl, ⟨nd, rfl⟩⟩; (try first | exact ⟨rfl, _, World.drewN_drewN _ _ _⟩ | exact ⟨rfl, _, Eq.trans (World.drewN_drewN _ _ _) (congrArg (World.drewN _) (Nat.add_assoc _ _ _))⟩)) | (go_at_call 118; (with_reducible refine (span_none.calls  t731 t732 t733 _ A35.out).mono ?_); rintro e w40 ⟨rfl, hb⟩; refine zcn2 HB BK717 BK718 hb (c := ?_); clear HB BK717 BK718 hb; intro BK717 BK718 HB; refine zu3 BK718 fun z41_0 z41_1 z41_2 f41_0 f41_1 f41_2 => ?_))
      repeat (go_quiet (first | ((with_reducible refine gtd 1 rfl ?_); refine zbx 1 #[.bool false, .int .u64 a0_1, .int .u64 a0_2] 43 (h := ?_); intro gb717 hg w36 hbox hb; have GW717 := zkZ hg (zaB (p := Below w.heap.size w _)); replace HB := Aside0.mk (below_step zaB hb); have BK717 := Aside0.mk (hbox); clear hb hbox hg) | ((with_reducible refine gtd 2 rfl ?_); refine zbx 2 #[.bool false, .int .u64 0, .int .u64 0] 43 (h := ?_); intro gb718 hg w37 hbox hb; refine zbn1 HB BK717 hg hb hbox (c := ?_); clear HB BK717 hb hbox hg; intro GW718 NB717_718 BK717 HB BK718; refine zt1 NB717_718 fun _ _ => ?_; refine zu3 BK717 fun z39_0 z39_1 z39_2 f39_0 f39_1 f39_2 => ?_) | (go_at_call 117; (with_reducible refine (span_atMost.calls k a0_1 a0_2 false _ A10.out).mono ?_); rintro e w' ⟨rfl, ⟨nd, rfl⟩⟩; (try first | exact ⟨rfl, _, World.drewN_drewN _ _ _⟩ | exact ⟨rfl, _, Eq.trans (World.drewN_drewN _ _ _) (congrArg (World.drewN _) (Nat.add_assoc _ _ _))⟩)) | (go_at_call 118; (with_reducible refine (span_none.calls  t731 t732 t733 _ A35.out).mono ?_); rintro e w40 ⟨rfl, hb⟩; refine zcn2 HB BK717 BK718 hb (c := ?_); clear HB BK717 BK718 hb; intro BK717 BK718 HB; refine zu3 BK718 fun z41_0 z41_1 z41_2 f41_0 f41_1 f41_2 => ?_)); try go_wp2_with (first | ((with_reducible refine gtd 1 rfl ?_); refine zbx 1 #[.bool false, .int .u64 a0_1, .int .u64 a0_2] 43 (h := ?_); intro gb717 hg w36 hbox hb; have GW717 := zkZ hg (zaB (p := Below w.heap.size w _)); replace HB := Aside0.mk (below_step zaB hb); have BK717 := Aside0.mk (hbox); clear hb hbox hg) | ((with_reducible refine gtd 2 rfl ?_); refine zbx 2 #[.bool false, .int .u64 0, .int .u64 0] 43 (h := ?_); intro gb718 hg w37 hbox hb; refine zbn1 HB BK717 hg hb hbox (c := ?_); clear HB BK717 hb hbox hg; intro GW718 NB717_718 BK717 HB BK718; refine zt1 NB717_718 fun _ _ => ?_; refine zu3 BK717 fun z39_0 z39_1 z39_2 f39_0 f39_1 f39_2 => ?_) | (go_at_call 117; (with_reducible refine (span_atMost.calls k a0_1 a0_2 false _ A10.out).mono ?_); rintro e w' ⟨rfl, ⟨nd, rfl⟩⟩; (try first | exact ⟨rfl, _, World.drewN_drewN _ _ _⟩ | exact ⟨rfl, _, Eq.trans (World.drewN_drewN _ _ _) (congrArg (World.drewN _) (Nat.add_assoc _ _ _))⟩)) | (go_at_call 118; (with_reducible refine (span_none.calls  t731 t732 t733 _ A35.out).mono ?_); rintro e w40 ⟨rfl, hb⟩; refine zcn2 HB BK717 BK718 hb (c := ?_); clear HB BK717 BK718 hb; intro BK717 BK718 HB; refine zu3 BK718 fun z41_0 z41_1 z41_2 f41_0 f41_1 f41_2 => ?_)))
      refine bodyPost_ret (results_cell_row rfl _ _ gb718 43 #[.bool t731, .int .u64 t732, .int .u64 t733] (0, 0) _ rfl (blk_put (cs := #[.bool t731, .int .u64 t732, .int .u64 0]) (blk_put (cs := #[.bool t731, .int .u64 0, .int .u64 0]) (blk_put (zkq BK718) 0 _ rfl) 1 _ rfl) 2 _ rfl) Try.underlying43 rfl (by kernel_rfl)) rfl ?_
      exact ⟨zaE, zaB⟩
theorem span_Make.calls (k : Nat) (a0 : Int) (a1 : Int) (r1 : Bool) (r2 : Int) (r3 : Int) (w : World) (h : span_Make.f k a0 a1 = some (r1, r2, r3)) :
  Calls Try.prog 37 #[.int .u64 a0, .int .u64 a1] w fun e w' => e = .returned (.agg #[.bool r1, .int .u64 r2, .int .u64 r3]) ∧ Below w.heap.size w w' := by
 have hu43 := Try.underlying43
 have HB := Aside0.mk (Below.refl w.heap.size w)
 have H := h
 unfold span_Make.f at H
 clear h
 obtain ⟨⟨t718, t719, t720⟩, A3, H⟩ := zbs H
 try dsimp only at H
 simp only [Option.some.injEq, Prod.mk.injEq] at H
 obtain ⟨rfl, rfl, rfl⟩ := H
 go_enter Try.func37, Try.ntmps37
 go_wp2_with (first | ((with_reducible refine gtd 4 rfl ?_); refine zbx 4 #[.bool false, .int .u64 0, .int .u64 0] 43 (h := ?_); intro gb717 hg w4 hbox hb; have GW717 := zkZ hg (zaB (p := Below w.heap.size w _)); replace HB := Aside0.mk (below_step zaB hb); have BK717 := Aside0.mk (hbox); clear hb hbox hg) | ((with_reducible refine gtc 112 rfl ?_); refine zgL 8 Try.func112 (span_norm.calls k false a0 a1 t718 t719 t720 _ A3.out) (h := ?_); rintro w5 hb; replace BK717 := zkb BK717 hb; replace HB := zkB HB hb; (try clear hb); refine zu3 BK717 fun _ _ _ _ _ _ => ?_))
 refine bodyPost_ret (results_cell_row rfl _ _ gb717 43 #[.bool t718, .int .u64 t719, .int .u64 t720] (0, 0) _ rfl (blk_put (cs := #[.bool t718, .int .u64 t719, .int .u64 0]) (blk_put (cs := #[.bool t718, .int .u64 0, .int .u64 0]) (blk_put (zkq BK717) 0 _ rfl) 1 _ rfl) 2 _ rfl) Try.underlying43 rfl (by kernel_rfl)) rfl ?_
 exact ⟨zaE, zaB⟩
theorem pattern_best.two (fv : Nat) (fn : Func) (hf : Try.prog.funcs[fv]? = some fn) (hn : (fn.name == "runtime.NumGoroutine") = false) (hbd : fn.body.isSome = true) (k : Nat) (x y : Int) (ad : Addr) (c : Nat) (b1 b2 : Bool) (w : World)
  (h0 : w.cell? ad = some (.int .u64 x)) (h1 : w.cell? (ad.add 1) = some (.int .u64 y)) (A1 : Aside0 (pattern_nan.f k x = some false)) (A2 : Aside0 (pattern_nan.f k y = some false))
  (L1 : ∀ w, Calls Try.prog fv #[.int .u64 x, .int .u64 x] w (fun e w' => e = .returned (.bool b1) ∧ Drawn0 w w')) (L2 : ∀ w, Calls Try.prog fv #[.int .u64 y, .int .u64 x] w (fun e w' => e = .returned (.bool b2) ∧ Drawn0 w w')) :
  Calls Try.prog 165 #[.slice (some ad) 2 c, .func (.func fv) #[] #[]] w (fun e w' => e = .returned (.int .u64 (if b2 = true then y else x)) ∧ Drawn0 w w') := by
 have z1 : w.cell? ⟨ad.block, ad.off + 1, none⟩ = some (.int .u64 y) := h1
 cases b1 <;> cases b2
 all_goals
  go_enter Try.func165, Try.ntmps165
  go_wp2
  refine wp_loop_rounds 3 ?_
  rw [rounds_succ]
  go_wp2_with (first | ((with_reducible refine gtc 109 rfl ?_); refine zgL 22 Try.func109 (pattern_nan.calls k x false _ A1.out) (h := ?_); rintro wq ⟨nd, rfl⟩) | (refine zgV (some 27) (.tmp 24) hf (L1 _) rfl rfl rfl hn hbd (h := ?_); rintro wq ⟨ne, rfl⟩))
  rw [rounds_succ]
  go_wp2_with (first | ((with_reducible refine gtc 109 rfl ?_); refine zgL 22 Try.func109 (pattern_nan.calls k y false _ A2.out) (h := ?_); rintro wq ⟨nd2, rfl⟩) | (refine zgV (some 27) (.tmp 24) hf (L2 _) rfl rfl rfl hn hbd (h := ?_); rintro wq ⟨ne2, rfl⟩))
  rw [rounds_succ]
  go_wp2
  go_ret
  exact ⟨zaE, by repeat (first | exact Drawn0.refl _ | apply Drawn0.step)⟩
theorem pattern_Min.calls (k : Nat) (A0 : Option Addr) (c0 : Nat) (l0 : List Int) (r : Int) (w : World) (hr0 : Kd.C (Kd.int .u64) w A0 l0.length l0) (hc0 : l0.length ≤ c0) (h : pattern_Min.f k l0 = some r) :
  Calls Try.prog 119 #[.slice A0 l0.length c0] w fun e w' => e = .returned (.int .u64 r) ∧ Below w.heap.size w w' := by
 match l0, h with
 | [], h => cases h
 | [x], h => cases h
 | x :: y :: z :: l, h => cases h
 | [x, y], h =>
  have h : ((pattern_nan.f k x).bind fun t => if t = true then none else (pattern_Less.f k x x).bind fun _ => (pattern_nan.f k y).bind fun u => if u = true then none else (pattern_Less.f k y x).bind fun b => some (if b = true then y else x)) = some r := h
  obtain ⟨t, A1, h⟩ := zbs h
  try dsimp only at h
  cases t
  ·rw [if_neg (by decide)] at h
   obtain ⟨b1, B1, h⟩ := zbs h
   obtain ⟨u, A2, h⟩ := zbs h
   cases u
   ·rw [if_neg (by decide)] at h
    obtain ⟨b2, B2, h⟩ := zbs h
    obtain rfl := Option.some.inj h
    replace B1 := B1.out
    replace B2 := B2.out
    obtain ⟨ad, rfl, x0⟩ := Kd.at_int hr0 0 (by decide) (by simp)
    obtain ⟨ad2, e2, x1⟩ := Kd.at_int hr0 1 (by decide) (by simp)
    obtain rfl := Option.some.inj e2
    have x0 : w.cell? ad = some (.int .u64 x) := by have e : ad.add (0 : Int).toNat = ad := rfl; rw [e] at x0; exact x0
    have x1 : w.cell? (ad.add 1) = some (.int .u64 y) := x1
    have T := pattern_best.two 34 _ Try.func34 (by kernel_rfl) rfl k x y ad c0 b1 b2 w x0 x1 A1 A2 (fun w => pattern_Less.calls k x x b1 w B1) (fun w => pattern_Less.calls k y x b2 w B2)
    generalize (if b2 = true then y else x) = v at T ⊢
    clear hr0 x0 x1 A1 A2 B1 B2 hc0
    go_enter Try.func119, Try.ntmps119
    go_wp2_with ((with_reducible refine gtc 165 rfl ?_); refine zgL 4 Try.func165 T (h := ?_); rintro wq ⟨nd, rfl⟩)
    go_ret
    exact ⟨rfl, pw_below_drewN (Below.refl _ _) _⟩
   rw [if_pos rfl] at h; cases h
  rw [if_pos rfl] at h; cases h
theorem pattern_Max.one (k : Nat) (x y : Int) (b : Bool) (w : World) (h : pattern_Less.f k y x = some b) :
  Calls Try.prog 166 #[.int .u64 x, .int .u64 y] w fun e w' => e = .returned (.bool b) ∧ Drawn0 w w' := by
 go_enter Try.func166, Try.ntmps166
 go_wp2_with ((with_reducible refine gtc 34 rfl ?_); refine zgL 7 Try.func34 (pattern_Less.calls k y x b _ h) (h := ?_); rintro wq ⟨nd, rfl⟩)
 go_ret
 exact ⟨rfl, by repeat (first | exact Drawn0.refl _ | apply Drawn0.step)⟩
theorem pattern_Max.calls (k : Nat) (A0 : Option Addr) (c0 : Nat) (l0 : List Int) (r : Int) (w : World) (hr0 : Kd.C (Kd.int .u64) w A0 l0.length l0) (hc0 : l0.length ≤ c0) (h : pattern_Max.f k l0 = some r) :
  Calls Try.prog 120 #[.slice A0 l0.length c0] w fun e w' => e = .returned (.int .u64 r) ∧ Below w.heap.size w w' := by
 match l0, h with
 | [], h => cases h
 | [x], h => cases h
 | x :: y :: z :: l, h => cases h
 | [x, y], h =>
  have h : ((pattern_nan.f k x).bind fun t => if t = true then none else (pattern_Less.f k x x).bind fun _ => (pattern_nan.f k y).bind fun u => if u = true then none else (pattern_Less.f k x y).bind fun b => some (if b = true then y else x)) = some r := h
  obtain ⟨t, A1, h⟩ := zbs h
  try dsimp only at h
  cases t
  ·rw [if_neg (by decide)] at h
   obtain ⟨b1, B1, h⟩ := zbs h
   obtain ⟨u, A2, h⟩ := zbs h
   cases u
   ·rw [if_neg (by decide)] at h
    obtain ⟨b2, B2, h⟩ := zbs h
    obtain rfl := Option.some.inj h
    replace B1 := B1.out
    replace B2 := B2.out
    obtain ⟨ad, rfl, x0⟩ := Kd.at_int hr0 0 (by decide) (by simp)
    obtain ⟨ad2, e2, x1⟩ := Kd.at_int hr0 1 (by decide) (by simp)
    obtain rfl := Option.some.inj e2
    have x0 : w.cell? ad = some (.int .u64 x) := by have e : ad.add (0 : Int).toNat = ad := rfl; rw [e] at x0; exact x0
    have x1 : w.cell? (ad.add 1) = some (.int .u64 y) := x1
    have T := pattern_best.two 166 _ Try.func166 (by kernel_rfl) rfl k x y ad c0 b1 b2 w x0 x1 A1 A2 (fun w => pattern_Max.one k x x b1 w B1) (fun w => pattern_Max.one k y x b2 w B2)
    generalize (if b2 = true then y else x) = v at T ⊢
    clear hr0 x0 x1 A1 A2 B1 B2 hc0
    go_enter Try.func120, Try.ntmps120
    go_wp2_with ((with_reducible refine gtc 165 rfl ?_); refine zgL 4 Try.func165 T (h := ?_); rintro wq ⟨nd, rfl⟩)
    go_ret
    exact ⟨rfl, pw_below_drewN (Below.refl _ _) _⟩
   rw [if_pos rfl] at h; cases h
  rw [if_pos rfl] at h; cases h
def span_Join.T6 : Bool × List (List Nat × List Nat) := (true, [([], []), ([0], [0]), ([], []), ([2], [2]), ([1, 3], [1, 3]), ([4], [4]), ([], []), ([6], [6]), ([], []), ([8], [8]), ([7, 9], [7, 9]), ([10, 5], [10]), ([5, 11, 11], [5, 11]), ([12, 12, 0, 1, 2, 3, 4, 5, 6, 7, 8, 9, 10, 11, 12], [12])])
def span_Join.B6 : List Nat := [0, 1, 0, 4, 15, 31, 0, 64, 0, 256, 960, 2047, 4095, 8191]
theorem span_Join.tab6 : rtab .any (opsOf Try.f45 6) = span_Join.T6 := by kernel_rfl
theorem span_Join.bits6 : waitsOk span_Join.T6.2 span_Join.B6 = true := by kernel_rfl
theorem span_Join.calls (k : Nat) (A0 : Option Addr) (c0 : Nat) (l0 : List (S43)) (r1 : Bool) (r2 : Int) (r3 : Int) (w : World) (hr0 : Kd.C k43 w A0 l0.length l0) (hc0 : l0.length ≤ c0) (h : span_Join.f k l0 = some (r1, r2, r3)) :
  Calls Try.prog 45 #[.slice A0 l0.length c0] w fun e w' => e = .returned (.agg #[.bool r1, .int .u64 r2, .int .u64 r3]) ∧ Below w.heap.size w w' := by
 have hu43 := Try.underlying43
 have HR0 := Aside0.mk hr0
 have HC0 := Aside0.mk hc0
 clear hr0 hc0
 have HB := Aside0.mk (Below.refl w.heap.size w)
 have H := h
 unfold span_Join.f at H
 clear h
 obtain ⟨⟨t751, t752, t753⟩, A2, H⟩ := zbs H
 try dsimp only at H
 have H' := Aside0.mk H
 clear H
 go_enter Try.func45, Try.ntmps45
 go_wp2_with (first | ((with_reducible refine gtd 2 rfl ?_); refine zbx 2 #[.bool false, .int .u64 0, .int .u64 0] 43 (h := ?_); intro gb750 hg w3 hbox hb; have GW750 := zkZ hg (zaB (p := Below w.heap.size w _)); replace HB := Aside0.mk (below_step zaB hb); have BK750 := Aside0.mk (hbox); clear hb hbox hg) | ((with_reducible refine gtc 118 rfl ?_); refine zgL 6 Try.func118 (span_none.calls  t751 t752 t753 _ A2.out) (h := ?_); rintro w4 hb; replace BK750 := zkb BK750 hb; replace HB := zkB HB hb; (try clear hb)) | ((with_reducible refine gtd 3 rfl ?_); refine zbx 3 #[.bool false, .int .u64 0, .int .u64 0] 43 (h := ?_); intro gb754 hg w5 hbox hb; refine zbn1 HB BK750 hg hb hbox (c := ?_); clear HB BK750 hb hbox hg; intro GW754 NB750_754 BK750 HB BK754; refine zt1 NB750_754 fun _ _ => ?_; refine zu3 BK754 fun z7_0 z7_1 z7_2 f7_0 f7_1 f7_2 => ?_))
 (try simp only [Act.put, List.setIfInBounds_toArray, List.set_cons_zero, List.set_cons_succ])
 go_loopg [9] k (fun kq v9 w' => ∃ (x9_1 : Int) (x755000_1 : Bool) (x755001_1 : Int) (x755002_1 : Int), v9 = .int .i64 x9_1 ∧ Aside0 (span_Join.l0 kq l0 (l0.length : Int) x9_1 x755000_1 x755001_1 x755002_1 = some (r1, r2, r3)) ∧ Aside0 (kq ≤ k) ∧ Aside0 (w'.heap[gb750]? = some (.cells #[.bool false, .int .u64 0, .int .u64 0] 43 (0, 0))) ∧ Aside0 (w'.heap[gb754]? = some (.cells #[.bool x755000_1, .int .u64 x755001_1, .int .u64 x755002_1] 43 (0, 0))) ∧ Aside0 (Below w.heap.size w w'))
 case atStart => exact ⟨(0), (t751), (t752), (t753), zrl, H', ⟨Nat.le_refl _⟩, ⟨(zkf (zkf (zkf (zkq BK750) NB750_754.out _) NB750_754.out _) NB750_754.out _)⟩, ⟨(blk_put (cs := #[.bool t751, .int .u64 t752, .int .u64 0]) (blk_put (cs := #[.bool t751, .int .u64 0, .int .u64 0]) (blk_put (zkq BK754) 0 _ rfl) 1 _ rfl) 2 _ rfl)⟩, ⟨zaB⟩⟩
 case round =>
  clear H'
  try clear z7_0 z7_1 z7_2 f7_0 f7_1 f7_2
  obtain ⟨x9_1, x755000_1, x755001_1, x755002_1, rfl, HA, HK1, BK750, BK754, HB⟩ := hrel
  cases gk with
  | zero => exact absurd HA.out (by simp [span_Join.l0])
  | succ k1 =>
   have H := HA.out
   clear HA
   simp only [span_Join.l0] at H
   by_cases c8 : x9_1 < (l0.length : Int)
   ·rw [if_pos c8] at H
    have c8b0 : decide (x9_1 < (l0.length : Int)) = true := decide_eq_true c8
    clear c8
    by_cases c9 : 0 ≤ x9_1
    ·rw [if_pos c9] at H
     have c9b0 : decide (0 ≤ x9_1) = true := decide_eq_true c9
     clear c9
     by_cases c10 : x9_1 < (l0.length : Int)
     ·rw [if_pos c10] at H
      have c10b0 : decide (x9_1 < (l0.length : Int)) = true := decide_eq_true c10
      clear c10
      obtain ⟨⟨t757, t758, t759⟩, A11, H⟩ := zbs H
      try dsimp only at H
      by_cases c12 : t757 = true
      ·subst c12
       replace H := zit H
       have H' := Aside0.mk H
       clear H
       have p755 : 0 ≤ (x9_1 : Int) := of_decide_eq_true (by first | (with_reducible assumption) | assumption)
       have q755 : x9_1 < (l0.length : Int) := of_decide_eq_true (by first | (with_reducible assumption) | assumption)
       obtain ⟨ad755, e755, hx755_0, hx755_1, hx755_2⟩ := at_T43 HR0.out x9_1 p755 q755
       cases e755
       replace hx755_0 := (HB.out.cell (World.block_lt_of_cell? w _ hx755_0)).trans hx755_0
       replace hx755_1 := (HB.out.cell (World.block_lt_of_cell? w _ hx755_1)).trans hx755_1
       replace hx755_2 := (HB.out.cell (World.block_lt_of_cell? w _ hx755_2)).trans hx755_2
       replace p755 := eq_true p755
       replace q755 := eq_true q755
       go_wp2_with (first | ((with_reducible refine gtd 5 rfl ?_); refine zbx 5 #[.bool false, .int .u64 0, .int .u64 0] 43 (h := ?_); intro gb756 hg w13 hbox hb; refine zbn2 HB BK750 BK754 hg hb hbox (c := ?_); clear HB BK750 BK754 hb hbox hg; intro GW756 NB750_756 NB754_756 BK750 BK754 HB BK756; refine zt2 NB750_756 NB754_756 fun _ _ _ _ => ?_; refine zu3 BK756 fun _ _ _ _ _ _ => ?_) | ((with_reducible refine gtc 112 rfl ?_); refine zgL 14 Try.func112 (span_norm.calls k1 ((rd_T43 l0 x9_1).f0) ((rd_T43 l0 x9_1).f1) ((rd_T43 l0 x9_1).f2) true t758 t759 _ A11.out) (h := ?_); rintro w17 hb; replace BK750 := Aside0.mk (blk_below (zkf (zkf (zkf BK750.out NB750_756.out _) NB750_756.out _) NB750_756.out _) hb); replace BK754 := Aside0.mk (blk_below (zkf (zkf (zkf BK754.out NB754_756.out _) NB754_756.out _) NB754_756.out _) hb); replace BK756 := Aside0.mk (blk_below (o := .cells #[.bool ((rd_T43 l0 x9_1).f0), .int .u64 ((rd_T43 l0 x9_1).f1), .int .u64 ((rd_T43 l0 x9_1).f2)] 43 (0, 0)) (blk_put (cs := #[.bool ((rd_T43 l0 x9_1).f0), .int .u64 ((rd_T43 l0 x9_1).f1), .int .u64 0]) (blk_put (cs := #[.bool ((rd_T43 l0 x9_1).f0), .int .u64 0, .int .u64 0]) (blk_put BK756.out 0 _ rfl) 1 _ rfl) 2 _ rfl) hb); replace HB := Aside0.mk (below_step (below_set (below_set (below_set HB.out GW756.out) GW756.out) GW756.out) hb); (try clear hb); have z18_0 : w17.cell? ⟨gb756, 0, none⟩ = some (.bool ((rd_T43 l0 x9_1).f0)) := (blk_cell BK756.out 0).trans rfl; have z18_1 : w17.cell? ⟨gb756, 1, none⟩ = some (.int .u64 ((rd_T43 l0 x9_1).f1)) := (blk_cell BK756.out 1).trans rfl; have z18_2 : w17.cell? ⟨gb756, 2, none⟩ = some (.int .u64 ((rd_T43 l0 x9_1).f2)) := (blk_cell BK756.out 2).trans rfl; have f18_0 := blk_frozen BK756.out 0; have f18_1 := blk_frozen BK756.out 1; have f18_2 := blk_frozen BK756.out 2))
       go_roundg k1
       case measure => have := HK1.out; omega
       case rel => exact ⟨(wrap64 (x9_1 + 1)), (x755000_1), (x755001_1), (x755002_1), zrl, H', ⟨by have := HK1.out; omega⟩, ⟨(zkf (zkf (zkf (zkq BK750) NB750_756.out _) NB750_756.out _) NB750_756.out _)⟩, ⟨(zkf (zkf (zkf (zkq BK754) NB754_756.out _) NB754_756.out _) NB754_756.out _)⟩, ⟨zaB⟩⟩
      replace c12 := Bool.eq_false_iff.mpr c12
      subst c12
      replace H := zif H
      by_cases c19 : x755000_1 = true
      ·subst c19
       replace H := zit H
       have H' := Aside0.mk H
       clear H
       have p755 : 0 ≤ (x9_1 : Int) := of_decide_eq_true (by first | (with_reducible assumption) | assumption)
       have q755 : x9_1 < (l0.length : Int) := of_decide_eq_true (by first | (with_reducible assumption) | assumption)
       obtain ⟨ad755, e755, hx755_0, hx755_1, hx755_2⟩ := at_T43 HR0.out x9_1 p755 q755
       cases e755
       replace hx755_0 := (HB.out.cell (World.block_lt_of_cell? w _ hx755_0)).trans hx755_0
       replace hx755_1 := (HB.out.cell (World.block_lt_of_cell? w _ hx755_1)).trans hx755_1
       replace hx755_2 := (HB.out.cell (World.block_lt_of_cell? w _ hx755_2)).trans hx755_2
       replace p755 := eq_true p755
       replace q755 := eq_true q755
       go_wp2_with (first | ((with_reducible refine gtd 5 rfl ?_); refine zbx 5 #[.bool false, .int .u64 0, .int .u64 0] 43 (h := ?_); intro gb756 hg w20 hbox hb; refine zbn2 HB BK750 BK754 hg hb hbox (c := ?_); clear HB BK750 BK754 hb hbox hg; intro GW756 NB750_756 NB754_756 BK750 BK754 HB BK756; refine zt2 NB750_756 NB754_756 fun _ _ _ _ => ?_; refine zu3 BK756 fun _ _ _ _ _ _ => ?_) | ((with_reducible refine gtc 112 rfl ?_); refine zgL 14 Try.func112 (span_norm.calls k1 ((rd_T43 l0 x9_1).f0) ((rd_T43 l0 x9_1).f1) ((rd_T43 l0 x9_1).f2) false t758 t759 _ A11.out) (h := ?_); rintro w24 hb; replace BK750 := Aside0.mk (blk_below (zkf (zkf (zkf BK750.out NB750_756.out _) NB750_756.out _) NB750_756.out _) hb); replace BK754 := Aside0.mk (blk_below (zkf (zkf (zkf BK754.out NB754_756.out _) NB754_756.out _) NB754_756.out _) hb); replace BK756 := Aside0.mk (blk_below (o := .cells #[.bool ((rd_T43 l0 x9_1).f0), .int .u64 ((rd_T43 l0 x9_1).f1), .int .u64 ((rd_T43 l0 x9_1).f2)] 43 (0, 0)) (blk_put (cs := #[.bool ((rd_T43 l0 x9_1).f0), .int .u64 ((rd_T43 l0 x9_1).f1), .int .u64 0]) (blk_put (cs := #[.bool ((rd_T43 l0 x9_1).f0), .int .u64 0, .int .u64 0]) (blk_put BK756.out 0 _ rfl) 1 _ rfl) 2 _ rfl) hb); replace HB := Aside0.mk (below_step (below_set (below_set (below_set HB.out GW756.out) GW756.out) GW756.out) hb); (try clear hb); have z25_0 : w24.cell? ⟨gb756, 0, none⟩ = some (.bool ((rd_T43 l0 x9_1).f0)) := (blk_cell BK756.out 0).trans rfl; have z25_1 : w24.cell? ⟨gb756, 1, none⟩ = some (.int .u64 ((rd_T43 l0 x9_1).f1)) := (blk_cell BK756.out 1).trans rfl; have z25_2 : w24.cell? ⟨gb756, 2, none⟩ = some (.int .u64 ((rd_T43 l0 x9_1).f2)) := (blk_cell BK756.out 2).trans rfl; have f25_0 := blk_frozen BK756.out 0; have f25_1 := blk_frozen BK756.out 1; have f25_2 := blk_frozen BK756.out 2; refine zt1 NB750_754 fun _ _ => ?_; refine zu3 BK754 fun _ _ _ _ _ _ => ?_))
       go_roundg k1
       case measure => have := HK1.out; omega
       case rel => exact ⟨(wrap64 (x9_1 + 1)), (false), (t758), (t759), zrl, H', ⟨by have := HK1.out; omega⟩, ⟨(zkf (zkf (zkf (zkf (zkf (zkf (zkq BK750) NB750_756.out _) NB750_756.out _) NB750_756.out _) NB750_754.out _) NB750_754.out _) NB750_754.out _)⟩, ⟨(blk_put (cs := #[.bool false, .int .u64 t758, .int .u64 x755002_1]) (blk_put (cs := #[.bool false, .int .u64 x755001_1, .int .u64 x755002_1]) (blk_put (zkf (zkf (zkf (zkq BK754) NB754_756.out _) NB754_756.out _) NB754_756.out _) 0 _ rfl) 1 _ rfl) 2 _ rfl)⟩, ⟨zaB⟩⟩
      replace c19 := Bool.eq_false_iff.mpr c19
      subst c19
      replace H := zif H
      obtain ⟨y760, hy760⟩ : ∃ y_ : List Int, y_ = (([x755001_1, t758] : List Int)) := ⟨_, rfl⟩
      replace H : ((pattern_Min.f k1 y760).bind fun t763 => ((pattern_Max.f k1 (([x755002_1, t759] : List Int))).bind fun t767 => ((span_Make.f k1 t763 t767).bind fun bt768 => (span_Join.l0 k1 l0 (l0.length : Int) (wrap64 (x9_1 + 1)) bt768.1 bt768.2.1 bt768.2.2)))) = some (r1, r2, r3) := by first | (rw [hy760]; with_reducible exact H) | (have H2_ := (Option.bind_some _ _).symm.trans H; rw [hy760]; with_reducible exact H2_) | (have H2_ := (Option.bind_some _ _).symm.trans H; with_reducible exact H2_) | with_reducible exact H | (rw [hy760]; exact H) | exact H
      have Ny760 := Aside0.mk hy760
      clear hy760
      obtain ⟨t763, A28, H⟩ := zbs H
      try dsimp only at H
      obtain ⟨y764, hy764⟩ : ∃ y_ : List Int, y_ = (([x755002_1, t759] : List Int)) := ⟨_, rfl⟩
      replace H : ((pattern_Max.f k1 y764).bind fun t767 => ((span_Make.f k1 t763 t767).bind fun bt768 => (span_Join.l0 k1 l0 (l0.length : Int) (wrap64 (x9_1 + 1)) bt768.1 bt768.2.1 bt768.2.2))) = some (r1, r2, r3) := by first | (rw [hy764]; with_reducible exact H) | (have H2_ := (Option.bind_some _ _).symm.trans H; rw [hy764]; with_reducible exact H2_) | (have H2_ := (Option.bind_some _ _).symm.trans H; with_reducible exact H2_) | with_reducible exact H | (rw [hy764]; exact H) | exact H
      have Ny764 := Aside0.mk hy764
      clear hy764
      obtain ⟨t767, A29, H⟩ := zbs H
      try dsimp only at H
      obtain ⟨⟨t768, t769, t770⟩, A30, H⟩ := zbs H
      try dsimp only at H
      have H' := Aside0.mk H
      clear H
      have p755 : 0 ≤ (x9_1 : Int) := of_decide_eq_true (by first | (with_reducible assumption) | assumption)
      have q755 : x9_1 < (l0.length : Int) := of_decide_eq_true (by first | (with_reducible assumption) | assumption)
      obtain ⟨ad755, e755, hx755_0, hx755_1, hx755_2⟩ := at_T43 HR0.out x9_1 p755 q755
      cases e755
      replace hx755_0 := (HB.out.cell (World.block_lt_of_cell? w _ hx755_0)).trans hx755_0
      replace hx755_1 := (HB.out.cell (World.block_lt_of_cell? w _ hx755_1)).trans hx755_1
      replace hx755_2 := (HB.out.cell (World.block_lt_of_cell? w _ hx755_2)).trans hx755_2
      replace p755 := eq_true p755
      replace q755 := eq_true q755
      try go_wp2_with (first | ((with_reducible refine gtd 5 rfl ?_); refine zbx 5 #[.bool false, .int .u64 0, .int .u64 0] 43 (h := ?_); intro gb756 hg w31 hbox hb; refine zbn2 HB BK750 BK754 hg hb hbox (c := ?_); clear HB BK750 BK754 hb hbox hg; intro GW756 NB750_756 NB754_756 BK750 BK754 HB BK756; refine zt2 NB750_756 NB754_756 fun _ _ _ _ => ?_; refine zu3 BK756 fun _ _ _ _ _ _ => ?_) | ((with_reducible refine gtc 112 rfl ?_); refine zgL 14 Try.func112 (span_norm.calls k1 ((rd_T43 l0 x9_1).f0) ((rd_T43 l0 x9_1).f1) ((rd_T43 l0 x9_1).f2) false t758 t759 _ A11.out) (h := ?_); rintro w35 hb; replace BK750 := Aside0.mk (blk_below (zkf (zkf (zkf BK750.out NB750_756.out _) NB750_756.out _) NB750_756.out _) hb); replace BK754 := Aside0.mk (blk_below (zkf (zkf (zkf BK754.out NB754_756.out _) NB754_756.out _) NB754_756.out _) hb); replace BK756 := Aside0.mk (blk_below (o := .cells #[.bool ((rd_T43 l0 x9_1).f0), .int .u64 ((rd_T43 l0 x9_1).f1), .int .u64 ((rd_T43 l0 x9_1).f2)] 43 (0, 0)) (blk_put (cs := #[.bool ((rd_T43 l0 x9_1).f0), .int .u64 ((rd_T43 l0 x9_1).f1), .int .u64 0]) (blk_put (cs := #[.bool ((rd_T43 l0 x9_1).f0), .int .u64 0, .int .u64 0]) (blk_put BK756.out 0 _ rfl) 1 _ rfl) 2 _ rfl) hb); replace HB := Aside0.mk (below_step (below_set (below_set (below_set HB.out GW756.out) GW756.out) GW756.out) hb); (try clear hb); have z36_0 : w35.cell? ⟨gb756, 0, none⟩ = some (.bool ((rd_T43 l0 x9_1).f0)) := (blk_cell BK756.out 0).trans rfl; have z36_1 : w35.cell? ⟨gb756, 1, none⟩ = some (.int .u64 ((rd_T43 l0 x9_1).f1)) := (blk_cell BK756.out 1).trans rfl; have z36_2 : w35.cell? ⟨gb756, 2, none⟩ = some (.int .u64 ((rd_T43 l0 x9_1).f2)) := (blk_cell BK756.out 2).trans rfl; have f36_0 := blk_frozen BK756.out 0; have f36_1 := blk_frozen BK756.out 1; have f36_2 := blk_frozen BK756.out 2; refine zt1 NB750_754 fun _ _ => ?_; refine zu3 BK754 fun _ _ _ _ _ _ => ?_))
      generalize hW_ : (((w35.setCell ⟨gb756, 0, none⟩ (.bool false)).setCell ⟨gb756, 1, none⟩ (.int .u64 t758)).setCell ⟨gb756, 2, none⟩ (.int .u64 t759)) = w39
      replace BK750 := zkg hW_ (zkf (zkf (zkf BK750.out NB750_756.out _) NB750_756.out _) NB750_756.out _)
      replace BK754 := zkg hW_ (zkf (zkf (zkf BK754.out NB754_756.out _) NB754_756.out _) NB754_756.out _)
      replace BK756 := zkg hW_ (ob := .cells #[.bool false, .int .u64 t758, .int .u64 t759] 43 (0, 0)) (blk_put (cs := #[.bool false, .int .u64 t758, .int .u64 ((rd_T43 l0 x9_1).f2)]) (blk_put (cs := #[.bool false, .int .u64 ((rd_T43 l0 x9_1).f1), .int .u64 ((rd_T43 l0 x9_1).f2)]) (blk_put BK756.out 0 _ rfl) 1 _ rfl) 2 _ rfl)
      replace HB := zkG hW_ (below_set (below_set (below_set HB.out GW756.out) GW756.out) GW756.out)
      clear hW_
      replace BK750 := Aside0.mk (blk_drew BK750.out)
      replace BK754 := Aside0.mk (blk_drew BK754.out)
      replace BK756 := Aside0.mk (blk_drew BK756.out)
      replace HB := Aside0.mk (below_drew1 HB.out)
      refine start_ (n := 14) (S := fun w' => w'.cell? ⟨gb754, 0, none⟩ = some (.bool false) ∧ w'.cell? ⟨gb754, 1, none⟩ = some (.int .u64 x755001_1) ∧ w'.cell? ⟨gb754, 2, none⟩ = some (.int .u64 x755002_1) ∧ w'.cell? ⟨gb756, 0, none⟩ = some (.bool false) ∧ w'.cell? ⟨gb756, 1, none⟩ = some (.int .u64 t758) ∧ w'.cell? ⟨gb756, 2, none⟩ = some (.int .u64 t759)) (ds := [13]) #[false, false, false, false, false, false, false, false, false, false, false, false, false, false] (by kernel_rfl) rfl rfl (zk3 BK754 (ze3 BK756)) (fun hHeld => ?_); refine with_tabW span_Join.tab6 span_Join.bits6 (fun HT_ HW_ => ?_)
      generalize w39.drew = w40 at BK750 BK754 BK756 HB hHeld ⊢
      refine zpA 0 15 (h := ?_)
      refine zpA 2 17 (h := ?_)
      refine zpA 6 21 (h := ?_)
      refine zpA 8 23 (h := ?_)
      refine ztA 1 16 (h := ?_)
      refine ztA 3 18 (h := ?_)
      refine ztA 7 22 (h := ?_)
      refine ztA 9 24 (h := ?_)
      refine join_ (σ := Value × Value) 3 #[true, true, true, true, true, true, true, true, true, true, true, false, false, false] (fun s_ => [(19, s_.1), (20, .int .u64 t763), (25, s_.2)]) (fun s_ w' => (w'.cell? ⟨gb754, 0, none⟩ = some (.bool false) ∧ w'.cell? ⟨gb754, 1, none⟩ = some (.int .u64 x755001_1) ∧ w'.cell? ⟨gb754, 2, none⟩ = some (.int .u64 x755002_1) ∧ w'.cell? ⟨gb756, 0, none⟩ = some (.bool false) ∧ w'.cell? ⟨gb756, 1, none⟩ = some (.int .u64 t758) ∧ w'.cell? ⟨gb756, 2, none⟩ = some (.int .u64 t759)) ∧ (Kd.R (Kd.int .u64) 23 w' w.heap.size (fun k_ => some k_ ≠ (s_.2 : Value).ownBlock) s_.1 y760) ∧ (Kd.R (Kd.int .u64) 23 w' w.heap.size (fun k_ => some k_ ≠ (s_.1 : Value).ownBlock) s_.2 y764) ∧ (w'.heap[gb750]? = some (.cells #[.bool false, .int .u64 0, .int .u64 0] 43 (0, 0))) ∧ (w'.heap[gb754]? = some (.cells #[.bool false, .int .u64 x755001_1, .int .u64 x755002_1] 43 (0, 0))) ∧ (w'.heap[gb756]? = some (.cells #[.bool false, .int .u64 t758, .int .u64 t759] 43 (0, 0))) ∧ (Below w.heap.size w w')) ?_ ?_
      rotate_left
      ·intro hCont
       refine two_ (i := 4) (j := 10) (Ni := some 19) (Nj := some 25) #[true, true, true, true, true, false, true, true, true, true, false, false, false, false] #[true, true, true, true, false, false, true, true, true, true, true, false, false, false] rfl rfl rfl rfl (two_of HT_.out (by kernel_rfl)) (by decide) (by decide) (fun K hK => ?_) (fun K hK => ?_)
       ·skip
        refine Kd.R_lit_step (Kd.int .u64) _ 23 ?hg (N := 19) ?hd (xs := ([x755001_1, t758] : List Int)) (inner := [.int .u64 x755001_1, .int .u64 t758]) (ok := fun _ => True) (okp := fun _ => True) ?hr ?hp (fun _ hk => hk) trivial (Below.refl _ _) (Nat.le_refl _) (by simp) ?_; (case hd => rfl); (case hg => rfl); (case hr => first | (go_simp; done) | (go_simp; rfl)); (case hp => exact (Reps.one (show Kd.M (Kd.int .u64) _ _ _ x755001_1 [.int .u64 x755001_1] from rfl) (Reps.one (show Kd.M (Kd.int .u64) _ _ _ t758 [.int .u64 t758] from rfl) (Reps.none _ _))))
        intro v761 w41 ho42 hb hg_ hnew_
        clear hg_ hnew_
        (first | rw [← Ny760.out] at ho42 | (simp only [Int.reduceToNat] at ho42; rw [← Ny760.out] at ho42))
        have HO762 := Aside0.mk (Kd.R_lower ho42 (below_size zaB))
        replace BK750 := zkb BK750 hb
        replace BK754 := zkb BK754 hb
        replace BK756 := zkb BK756 hb
        replace HB := zkB HB hb
        clear hb ho42
        obtain ⟨Ao43, co43, eo43⟩ := Kd.R_slice HO762.out
        (first | subst eo43 | (injection eo43 with f1_ f2_ f3_; have f4_ := f1_.symm; have f5_ := f3_.symm; clear f1_ f2_ f3_; subst f4_; subst f5_))
        refine hK.out _ _ (zk3 BK754 (ze3 BK756)) (fun hHeld => ?_)
        clear hK K
        refine znA 19 (h := ?_)
        refine two_ (i := 5) (j := 10) (Ni := some 20) (Nj := some 25) #[true, true, true, true, true, true, true, true, true, true, false, false, false, false] #[true, true, true, true, true, false, true, true, true, true, true, false, false, false] rfl rfl rfl rfl (two_of HT_.out (by kernel_rfl)) (by decide) (by decide) (fun K hK => ?_) (fun K hK => ?_)
        ·skip
         refine goes_ Try.func119 (by kernel_rfl) rfl #[.slice Ao43 y760.length co43] (by rfl) rfl rfl (by (try simp only [List.map_toArray, List.map_cons, List.map_nil]); first | done | rfl | (simp only [List.length_drop, List.length_take]; rfl)) ?_
         with_reducible refine (pattern_Min.calls k1 _ _ y760 t763 _ ?side1 ?side2 A28.out).mono ?_
         (case side1 => repeat (first | exact (Kd.R_reads' HO762.out).2.2 | (with_reducible refine Kd.C_alloc ?_ _) | (with_reducible refine Kd.C_drewN ?_ _) | (with_reducible refine Kd.C_drew ?_)))
         (case side2 => exact (Kd.R_reads' HO762.out).2.1)
         rintro e w44 ⟨rfl, hb⟩
         refine ⟨_, rfl, ?_⟩
         replace HO762 := Aside0.mk (Kd.R_below (zRW HO762.out) hb)
         refine zcn3 HB BK750 BK754 BK756 hb (c := ?_)
         clear HB BK750 BK754 BK756 hb
         intro BK750 BK754 BK756 HB
         refine hK.out _ _ (zk3 BK754 (ze3 BK756)) (fun hHeld => ?_)
         clear hK K
         refine znA 20 (h := ?_)
         refine zoA 10 25 (h := fun K hK => ?_)
         refine Kd.R_lit_step (Kd.int .u64) _ 23 ?hg (N := 25) ?hd (xs := ([x755002_1, t759] : List Int)) (inner := [.int .u64 x755002_1, .int .u64 t759]) (ok := fun _ => True) (okp := fun _ => True) ?hr ?hp (fun _ hk => hk) trivial (Below.refl _ _) (Nat.le_refl _) (by simp) ?_; (case hd => rfl); (case hg => rfl); (case hr => first | (go_simp; done) | (go_simp; rfl)); (case hp => exact (Reps.one (show Kd.M (Kd.int .u64) _ _ _ x755002_1 [.int .u64 x755002_1] from rfl) (Reps.one (show Kd.M (Kd.int .u64) _ _ _ t759 [.int .u64 t759] from rfl) (Reps.none _ _))))
         intro v765 w45 ho46 hb hg_ hnew_
         clear hg_ hnew_
         (first | rw [← Ny764.out] at ho46 | (simp only [Int.reduceToNat] at ho46; rw [← Ny764.out] at ho46))
         have HO766 := Aside0.mk (Kd.R_lower (Kd.R_new' ho46 (Kd.R_lt (zRW HO762.out))) (below_size zaB))
         replace HO762 := Aside0.mk (Kd.R_elder' (zRW HO762.out) (Kd.R_base ho46) hb)
         replace BK750 := zkb BK750 hb
         replace BK754 := zkb BK754 hb
         replace BK756 := zkb BK756 hb
         replace HB := zkB HB hb
         clear hb ho46
         refine hK.out _ _ (zk3 BK754 (ze3 BK756)) (fun hHeld => ?_)
         clear hK K
         refine znA 25 (h := ?_)
         exact norm_ (by simp only [putAll, Act.put, List.setIfInBounds_toArray, List.set_cons_zero, List.set_cons_succ]) (hCont (.slice Ao43 y760.length co43, v765) _ ⟨hHeld, (by (with_reducible repeat (first | apply Kd.R_alloc | apply Kd.R_drewN | apply Kd.R_drew)); exact Kd.R_mono HO762.out (fun _ hk => hk.2)), (by (with_reducible repeat (first | apply Kd.R_alloc | apply Kd.R_drewN | apply Kd.R_drew)); exact Kd.R_mono HO766.out (fun _ hk => hk.2)), (zkq BK750), (zkq BK754), (zkq BK756), zaB⟩)
        skip
        refine Kd.R_lit_step (Kd.int .u64) _ 23 ?hg (N := 25) ?hd (xs := ([x755002_1, t759] : List Int)) (inner := [.int .u64 x755002_1, .int .u64 t759]) (ok := fun _ => True) (okp := fun _ => True) ?hr ?hp (fun _ hk => hk) trivial (Below.refl _ _) (Nat.le_refl _) (by simp) ?_; (case hd => rfl); (case hg => rfl); (case hr => first | (go_simp; done) | (go_simp; rfl)); (case hp => exact (Reps.one (show Kd.M (Kd.int .u64) _ _ _ x755002_1 [.int .u64 x755002_1] from rfl) (Reps.one (show Kd.M (Kd.int .u64) _ _ _ t759 [.int .u64 t759] from rfl) (Reps.none _ _))))
        intro v765 w43 ho44 hb hg_ hnew_
        clear hg_ hnew_
        (first | rw [← Ny764.out] at ho44 | (simp only [Int.reduceToNat] at ho44; rw [← Ny764.out] at ho44))
        have HO766 := Aside0.mk (Kd.R_lower (Kd.R_new' ho44 (Kd.R_lt (zRW HO762.out))) (below_size zaB))
        replace HO762 := Aside0.mk (Kd.R_elder' (zRW HO762.out) (Kd.R_base ho44) hb)
        replace BK750 := zkb BK750 hb
        replace BK754 := zkb BK754 hb
        replace BK756 := zkb BK756 hb
        replace HB := zkB HB hb
        clear hb ho44
        obtain ⟨Ao45, co45, eo45⟩ := Kd.R_slice HO762.out
        (first | subst eo45 | (injection eo45 with f1_ f2_ f3_; have f4_ := f1_.symm; have f5_ := f3_.symm; clear f1_ f2_ f3_; subst f4_; subst f5_))
        refine hK.out _ _ (zk3 BK754 (ze3 BK756)) (fun hHeld => ?_)
        clear hK K
        refine znA 25 (h := ?_)
        refine zoA 5 20 (h := fun K hK => ?_)
        refine goes_ Try.func119 (by kernel_rfl) rfl #[.slice Ao45 y760.length co45] (by rfl) rfl rfl (by (try simp only [List.map_toArray, List.map_cons, List.map_nil]); first | done | rfl | (simp only [List.length_drop, List.length_take]; rfl)) ?_
        with_reducible refine (pattern_Min.calls k1 _ _ y760 t763 _ ?side1 ?side2 A28.out).mono ?_
        (case side1 => repeat (first | exact (Kd.R_reads' HO762.out).2.2 | (with_reducible refine Kd.C_alloc ?_ _) | (with_reducible refine Kd.C_drewN ?_ _) | (with_reducible refine Kd.C_drew ?_)))
        (case side2 => exact (Kd.R_reads' HO762.out).2.1)
        rintro e w46 ⟨rfl, hb⟩
        refine ⟨_, rfl, ?_⟩
        replace HO762 := Aside0.mk (Kd.R_below (zRW HO762.out) hb)
        replace HO766 := Aside0.mk (Kd.R_below (zRW HO766.out) hb)
        refine zcn3 HB BK750 BK754 BK756 hb (c := ?_)
        clear HB BK750 BK754 BK756 hb
        intro BK750 BK754 BK756 HB
        refine hK.out _ _ (zk3 BK754 (ze3 BK756)) (fun hHeld => ?_)
        clear hK K
        refine znA 20 (h := ?_)
        exact norm_ (by simp only [putAll, Act.put, List.setIfInBounds_toArray, List.set_cons_zero, List.set_cons_succ]) (hCont (.slice Ao45 y760.length co45, v765) _ ⟨hHeld, (by (with_reducible repeat (first | apply Kd.R_alloc | apply Kd.R_drewN | apply Kd.R_drew)); exact Kd.R_mono HO762.out (fun _ hk => hk.2)), (by (with_reducible repeat (first | apply Kd.R_alloc | apply Kd.R_drewN | apply Kd.R_drew)); exact Kd.R_mono HO766.out (fun _ hk => hk.2)), (zkq BK750), (zkq BK754), (zkq BK756), zaB⟩)
       skip
       refine Kd.R_lit_step (Kd.int .u64) _ 23 ?hg (N := 25) ?hd (xs := ([x755002_1, t759] : List Int)) (inner := [.int .u64 x755002_1, .int .u64 t759]) (ok := fun _ => True) (okp := fun _ => True) ?hr ?hp (fun _ hk => hk) trivial (Below.refl _ _) (Nat.le_refl _) (by simp) ?_; (case hd => rfl); (case hg => rfl); (case hr => first | (go_simp; done) | (go_simp; rfl)); (case hp => exact (Reps.one (show Kd.M (Kd.int .u64) _ _ _ x755002_1 [.int .u64 x755002_1] from rfl) (Reps.one (show Kd.M (Kd.int .u64) _ _ _ t759 [.int .u64 t759] from rfl) (Reps.none _ _))))
       intro v765 w41 ho42 hb hg_ hnew_
       clear hg_ hnew_
       (first | rw [← Ny764.out] at ho42 | (simp only [Int.reduceToNat] at ho42; rw [← Ny764.out] at ho42))
       have HO766 := Aside0.mk (Kd.R_lower ho42 (below_size zaB))
       replace BK750 := zkb BK750 hb
       replace BK754 := zkb BK754 hb
       replace BK756 := zkb BK756 hb
       replace HB := zkB HB hb
       clear hb ho42
       refine hK.out _ _ (zk3 BK754 (ze3 BK756)) (fun hHeld => ?_)
       clear hK K
       refine znA 25 (h := ?_)
       refine zoA 4 19 (h := fun K hK => ?_)
       refine Kd.R_lit_step (Kd.int .u64) _ 23 ?hg (N := 19) ?hd (xs := ([x755001_1, t758] : List Int)) (inner := [.int .u64 x755001_1, .int .u64 t758]) (ok := fun _ => True) (okp := fun _ => True) ?hr ?hp (fun _ hk => hk) trivial (Below.refl _ _) (Nat.le_refl _) (by simp) ?_; (case hd => rfl); (case hg => rfl); (case hr => first | (go_simp; done) | (go_simp; rfl)); (case hp => exact (Reps.one (show Kd.M (Kd.int .u64) _ _ _ x755001_1 [.int .u64 x755001_1] from rfl) (Reps.one (show Kd.M (Kd.int .u64) _ _ _ t758 [.int .u64 t758] from rfl) (Reps.none _ _))))
       intro v761 w43 ho44 hb hg_ hnew_
       clear hg_ hnew_
       (first | rw [← Ny760.out] at ho44 | (simp only [Int.reduceToNat] at ho44; rw [← Ny760.out] at ho44))
       have HO762 := Aside0.mk (Kd.R_lower (Kd.R_new' ho44 (Kd.R_lt (zRW HO766.out))) (below_size zaB))
       replace HO766 := Aside0.mk (Kd.R_elder' (zRW HO766.out) (Kd.R_base ho44) hb)
       replace BK750 := zkb BK750 hb
       replace BK754 := zkb BK754 hb
       replace BK756 := zkb BK756 hb
       replace HB := zkB HB hb
       clear hb ho44
       obtain ⟨Ao45, co45, eo45⟩ := Kd.R_slice HO762.out
       (first | subst eo45 | (injection eo45 with f1_ f2_ f3_; have f4_ := f1_.symm; have f5_ := f3_.symm; clear f1_ f2_ f3_; subst f4_; subst f5_))
       refine hK.out _ _ (zk3 BK754 (ze3 BK756)) (fun hHeld => ?_)
       clear hK K
       refine znA 19 (h := ?_)
       refine zoA 5 20 (h := fun K hK => ?_)
       refine goes_ Try.func119 (by kernel_rfl) rfl #[.slice Ao45 y760.length co45] (by rfl) rfl rfl (by (try simp only [List.map_toArray, List.map_cons, List.map_nil]); first | done | rfl | (simp only [List.length_drop, List.length_take]; rfl)) ?_
       with_reducible refine (pattern_Min.calls k1 _ _ y760 t763 _ ?side1 ?side2 A28.out).mono ?_
       (case side1 => repeat (first | exact (Kd.R_reads' HO762.out).2.2 | (with_reducible refine Kd.C_alloc ?_ _) | (with_reducible refine Kd.C_drewN ?_ _) | (with_reducible refine Kd.C_drew ?_)))
       (case side2 => exact (Kd.R_reads' HO762.out).2.1)
       rintro e w46 ⟨rfl, hb⟩
       refine ⟨_, rfl, ?_⟩
       replace HO766 := Aside0.mk (Kd.R_below (zRW HO766.out) hb)
       replace HO762 := Aside0.mk (Kd.R_below (zRW HO762.out) hb)
       refine zcn3 HB BK750 BK754 BK756 hb (c := ?_)
       clear HB BK750 BK754 BK756 hb
       intro BK750 BK754 BK756 HB
       refine hK.out _ _ (zk3 BK754 (ze3 BK756)) (fun hHeld => ?_)
       clear hK K
       refine znA 20 (h := ?_)
       exact norm_ (by simp only [putAll, Act.put, List.setIfInBounds_toArray, List.set_cons_zero, List.set_cons_succ]) (hCont (.slice Ao45 y760.length co45, v765) _ ⟨hHeld, (by (with_reducible repeat (first | apply Kd.R_alloc | apply Kd.R_drewN | apply Kd.R_drew)); exact Kd.R_mono HO762.out (fun _ hk => hk.2)), (by (with_reducible repeat (first | apply Kd.R_alloc | apply Kd.R_drewN | apply Kd.R_drew)); exact Kd.R_mono HO766.out (fun _ hk => hk.2)), (zkq BK750), (zkq BK754), (zkq BK756), zaB⟩)
      rintro ⟨v761, v765⟩ w47 ⟨hS_, h0_, h1_, h2_, h3_, h4_, h5_⟩
      have n0_ : Aside0 (Kd.R (Kd.int .u64) 23 w47 w.heap.size (fun k_ => some k_ ≠ (v765 : Value).ownBlock) v761 y760) := ⟨h0_⟩
      have n1_ : Aside0 (Kd.R (Kd.int .u64) 23 w47 w.heap.size (fun k_ => some k_ ≠ (v761 : Value).ownBlock) v765 y764) := ⟨h1_⟩
      have n2_ : Aside0 (w47.heap[gb750]? = some (.cells #[.bool false, .int .u64 0, .int .u64 0] 43 (0, 0))) := ⟨h2_⟩
      have n3_ : Aside0 (w47.heap[gb754]? = some (.cells #[.bool false, .int .u64 x755001_1, .int .u64 x755002_1] 43 (0, 0))) := ⟨h3_⟩
      have n4_ : Aside0 (w47.heap[gb756]? = some (.cells #[.bool false, .int .u64 t758, .int .u64 t759] 43 (0, 0))) := ⟨h4_⟩
      have n5_ : Aside0 (Below w.heap.size w w47) := ⟨h5_⟩
      clear BK750
      clear BK754
      clear BK756
      clear HB
      clear h0_ h1_ h2_ h3_ h4_ h5_
      have HO762 := n0_
      have HO766 := n1_
      have BK750 := n2_
      have BK754 := n3_
      have BK756 := n4_
      have HB := n5_
      clear n0_ n1_ n2_ n3_ n4_ n5_
      have hHeld : w47.cell? ⟨gb754, 0, none⟩ = some (.bool false) ∧ w47.cell? ⟨gb754, 1, none⟩ = some (.int .u64 x755001_1) ∧ w47.cell? ⟨gb754, 2, none⟩ = some (.int .u64 x755002_1) ∧ w47.cell? ⟨gb756, 0, none⟩ = some (.bool false) ∧ w47.cell? ⟨gb756, 1, none⟩ = some (.int .u64 t758) ∧ w47.cell? ⟨gb756, 2, none⟩ = some (.int .u64 t759) := hS_
      obtain ⟨Ao48, co48, eo48⟩ := Kd.R_slice HO766.out
      (first | subst eo48 | (injection eo48 with f1_ f2_ f3_; have f4_ := f1_.symm; have f5_ := f3_.symm; clear f1_ f2_ f3_; subst f4_; subst f5_))
      refine norm_ (a' := ?_) ?_ ?_
      rotate_left
      ·simp only [putAll, Act.put, List.setIfInBounds_toArray, List.set_cons_zero, List.set_cons_succ]
       rfl
      refine zoA 11 26 (h := fun K hK => ?_)
      refine goes_ Try.func120 (by kernel_rfl) rfl #[.slice Ao48 y764.length co48] (by rfl) rfl rfl (by (try simp only [List.map_toArray, List.map_cons, List.map_nil]); first | done | rfl | (simp only [List.length_drop, List.length_take]; rfl)) ?_
      with_reducible refine (pattern_Max.calls k1 _ _ y764 t767 _ ?side1 ?side2 A29.out).mono ?_
      (case side1 => repeat (first | exact (Kd.R_reads' HO766.out).2.2 | (with_reducible refine Kd.C_alloc ?_ _) | (with_reducible refine Kd.C_drewN ?_ _) | (with_reducible refine Kd.C_drew ?_)))
      (case side2 => exact (Kd.R_reads' HO766.out).2.1)
      rintro e w49 ⟨rfl, hb⟩
      refine ⟨_, rfl, ?_⟩
      replace HO762 := Aside0.mk (Kd.R_below (zRW HO762.out) hb)
      replace HO766 := Aside0.mk (Kd.R_below (zRW HO766.out) hb)
      refine zcn3 HB BK750 BK754 BK756 hb (c := ?_)
      clear HB BK750 BK754 BK756 hb
      intro BK750 BK754 BK756 HB
      refine hK.out _ _ (zk3 BK754 (ze3 BK756)) (fun hHeld => ?_)
      clear hK K
      refine znA 26 (h := ?_)
      refine zoA 12 27 (h := fun K hK => ?_)
      refine zgA Try.func37 (span_Make.calls k1 t763 t767 t768 t769 t770 _ A30.out) (h := ?_)
      rintro w50 hb
      replace HO762 := Aside0.mk (Kd.R_below (zRW HO762.out) hb)
      replace HO766 := Aside0.mk (Kd.R_below (zRW HO766.out) hb)
      refine zcn3 HB BK750 BK754 BK756 hb (c := ?_)
      clear HB BK750 BK754 BK756 hb
      intro BK750 BK754 BK756 HB
      refine hK.out _ _ (zk3 BK754 (ze3 BK756)) (fun hHeld => ?_)
      clear hK K
      refine znA 27 (h := ?_)
      refine last_ (i := 13) (N := none) #[true, true, true, true, true, true, true, true, true, true, true, true, true, true] rfl rfl (one_of HT_.out (by kernel_rfl)) (by decide) (fun K hK => ?_)
      have hs51 := zc0 BK754
      have hfs51 := blk_frozen BK754.out 0
      refine zt2 NB750_754 NB754_756 fun _ _ _ _ => ?_
      have hs52 := zc1 BK754
      have hfs52 := blk_frozen BK754.out 1
      refine zt2 NB750_754 NB754_756 fun _ _ _ _ => ?_
      have hs53 := zc2 BK754
      have hfs53 := blk_frozen BK754.out 2
      refine zt2 NB750_754 NB754_756 fun _ _ _ _ => ?_
      refine skip_ (w1 := ?_) (by rfl) rfl ?_ ?_
      rotate_left
      ·go_simp
       rfl
      refine hK.out _ _ ?_
      clear hK K
      refine done_ (done_of HT_.out (by kernel_rfl)) ?_
      try go_wp2
      go_roundg k1
      case measure => have := HK1.out; omega
      case rel => exact ⟨(wrap64 (x9_1 + 1)), (t768), (t769), (t770), zrl, H', ⟨by have := HK1.out; omega⟩, ⟨(zkf (zkf (zkf (zkq BK750) NB750_754.out _) NB750_754.out _) NB750_754.out _)⟩, ⟨(blk_put (cs := #[.bool t768, .int .u64 t769, .int .u64 x755002_1]) (blk_put (cs := #[.bool t768, .int .u64 x755001_1, .int .u64 x755002_1]) (blk_put (zkq BK754) 0 _ rfl) 1 _ rfl) 2 _ rfl)⟩, ⟨zaB⟩⟩
     rw [if_neg c10] at H
     exact absurd H (by simp)
    rw [if_neg c9] at H
    exact absurd H (by simp)
   rw [if_neg c8] at H
   have c8b0 : decide (x9_1 < (l0.length : Int)) = false := decide_eq_false c8
   clear c8
   simp only [Option.some.injEq, Prod.mk.injEq] at H
   obtain ⟨rfl, rfl, rfl⟩ := H
   refine zt1 NB750_754 fun _ _ => ?_
   refine zu3 BK754 fun _ _ _ _ _ _ => ?_
   refine zu3 BK750 fun _ _ _ _ _ _ => ?_
   go_wp2
   refine bodyPost_ret (results_cell_row rfl _ _ gb750 43 #[.bool x755000_1, .int .u64 x755001_1, .int .u64 x755002_1] (0, 0) _ rfl (blk_put (cs := #[.bool x755000_1, .int .u64 x755001_1, .int .u64 0]) (blk_put (cs := #[.bool x755000_1, .int .u64 0, .int .u64 0]) (blk_put (zkq BK750) 0 _ rfl) 1 _ rfl) 2 _ rfl) Try.underlying43 rfl (by kernel_rfl)) rfl ?_
   exact ⟨zaE, zaB⟩
theorem slip_inf.calls (k : Nat)  (r : Int) (w : World) (h : slip_inf.f k  = some r) :
  Calls Try.prog 130 #[] w fun e w' => e = .returned (.int .u64 r) ∧ Drawn0 w w' := by
 have H : ((pattern_Inf.f k false).bind fun t1459 => (some t1459)) = some r := h
 clear h
 obtain ⟨t1459, A1, H⟩ := zbs H
 try dsimp only at H
 obtain rfl := Option.some.inj H
 go_enter Try.func130, Try.ntmps130
 go_wp2_with (first | ((with_reducible refine gtc 79 rfl ?_); refine zgL 1 Try.func79 (pattern_Inf.calls k false t1459 _ A1.out) (h := ?_); rintro w' ⟨nd, rfl⟩))
 go_ret
 exact ⟨by first | rfl | (simp; done) | (simp [*]; done), by repeat (first | exact Drawn0.refl _ | apply Drawn0.step)⟩
theorem slip_zero.calls (k : Nat) (a0 : Int) (r : Bool) (w : World) (h : slip_zero.f k a0 = some r) :
  Calls Try.prog 131 #[.int .u64 a0] w fun e w' => e = .returned (.bool r) ∧ Drawn0 w w' := by
 have H : ((pattern_Class.f k a0).bind fun t1460 => (some (t1460 == 0))) = some r := h
 clear h
 obtain ⟨t1460, A2, H⟩ := zbs H
 try dsimp only at H
 obtain rfl := Option.some.inj H
 go_enter Try.func131, Try.ntmps131
 go_wp2_with (first | ((with_reducible refine gtc 24 rfl ?_); refine zgL 4 Try.func24 (pattern_Class.calls k a0 t1460 _ A2.out) (h := ?_); rintro w' ⟨nd, rfl⟩))
 go_ret
 exact ⟨by first | rfl | (simp; done) | (simp [*]; done), by repeat (first | exact Drawn0.refl _ | apply Drawn0.step)⟩
theorem slip_Good.calls (k : Nat) (a0 : Int) (r : Int) (w : World) (h : slip_Good.f k a0 = some r) :
  Calls Try.prog 61 #[.int .u64 a0] w fun e w' => e = .returned (.int .u64 r) ∧ Drawn0 w w' := by
 have H := h
 unfold slip_Good.f at H
 clear h
 obtain ⟨t1461, A2, H⟩ := zbs H
 try dsimp only at H
 by_cases c3 : t1461 = true
 ·subst c3
  replace H := zit H
  obtain rfl := Option.some.inj H
  go_enter Try.func61, Try.ntmps61
  go_wp2_with (first | ((with_reducible refine gtc 131 rfl ?_); refine zgL 5 Try.func131 (slip_zero.calls k a0 true _ A2.out) (h := ?_); rintro w' ⟨nd, rfl⟩))
  go_ret
  exact ⟨by first | rfl | (simp; done) | (simp [*]; done), by repeat (first | exact Drawn0.refl _ | apply Drawn0.step)⟩
 replace c3 := Bool.eq_false_iff.mpr c3
 subst c3
 replace H := zif H
 obtain ⟨t1462, A4, H⟩ := zbs H
 try dsimp only at H
 by_cases c5 : t1462 = 4
 ·rw [if_pos c5] at H
  have c5b0 : (t1462 == 4) = true := beq_iff_eq.mpr c5
  have c5b1 : (t1462 != 4) = false := bne_eq_false_iff_eq.mpr c5
  clear c5
  obtain ⟨t1463, A6, H⟩ := zbs H
  try dsimp only at H
  obtain rfl := Option.some.inj H
  go_enter Try.func61, Try.ntmps61
  go_wp2_with (first | ((with_reducible refine gtc 131 rfl ?_); refine zgL 5 Try.func131 (slip_zero.calls k a0 false _ A2.out) (h := ?_); rintro w' ⟨nd, rfl⟩) | ((with_reducible refine gtc 24 rfl ?_); refine zgL 8 Try.func24 (pattern_Class.calls k a0 t1462 _ A4.out) (h := ?_); rintro w' ⟨nd, rfl⟩) | ((with_reducible refine gtc 130 rfl ?_); refine zgL 13 Try.func130 (slip_inf.calls k  t1463 _ A6.out) (h := ?_); rintro w' ⟨nd, rfl⟩))
  go_ret
  exact ⟨by first | rfl | (simp; done) | (simp [*]; done), by repeat (first | exact Drawn0.refl _ | apply Drawn0.step)⟩
 rw [if_neg c5] at H
 have c5b0 : (t1462 == 4) = false := beq_eq_false_iff_ne.mpr c5
 have c5b1 : (t1462 != 4) = true := bne_iff_ne.mpr c5
 by_cases c7 : (a0 / 9223372036854775808) = 1
 ·rw [if_pos c7] at H
  have c7b0 : ((a0 / 9223372036854775808) == 1) = true := beq_iff_eq.mpr c7
  have c7b1 : ((a0 / 9223372036854775808) != 1) = false := bne_eq_false_iff_eq.mpr c7
  clear c7
  obtain ⟨t1464, A8, H⟩ := zbs H
  try dsimp only at H
  obtain rfl := Option.some.inj H
  go_enter Try.func61, Try.ntmps61
  go_wp2_with (first | ((with_reducible refine gtc 131 rfl ?_); refine zgL 5 Try.func131 (slip_zero.calls k a0 false _ A2.out) (h := ?_); rintro w' ⟨nd, rfl⟩) | ((with_reducible refine gtc 24 rfl ?_); refine zgL 8 Try.func24 (pattern_Class.calls k a0 t1462 _ A4.out) (h := ?_); rintro w' ⟨nd, rfl⟩) | ((with_reducible refine gtc 130 rfl ?_); refine zgL 13 Try.func130 (slip_inf.calls k  t1464 _ A8.out) (h := ?_); rintro w' ⟨nd, rfl⟩))
  go_ret
  exact ⟨by first | rfl | (simp; done) | (simp [*]; done), by repeat (first | exact Drawn0.refl _ | apply Drawn0.step)⟩
 rw [if_neg c7] at H
 have c7b0 : ((a0 / 9223372036854775808) == 1) = false := beq_eq_false_iff_ne.mpr c7
 have c7b1 : ((a0 / 9223372036854775808) != 1) = true := bne_iff_ne.mpr c7
 obtain rfl := Option.some.inj H
 go_enter Try.func61, Try.ntmps61
 go_wp2_with (first | ((with_reducible refine gtc 131 rfl ?_); refine zgL 5 Try.func131 (slip_zero.calls k a0 false _ A2.out) (h := ?_); rintro w' ⟨nd, rfl⟩) | ((with_reducible refine gtc 24 rfl ?_); refine zgL 8 Try.func24 (pattern_Class.calls k a0 t1462 _ A4.out) (h := ?_); rintro w' ⟨nd, rfl⟩))
 go_ret
 exact ⟨by first | rfl | (simp; done) | (simp [*]; done), by repeat (first | exact Drawn0.refl _ | apply Drawn0.step)⟩
theorem slip_Join.calls (k : Nat) (A0 : Option Addr) (c0 : Nat) (l0 : List Int) (r : Int) (w : World) (hr0 : Kd.C (Kd.int .u64) w A0 l0.length l0) (hc0 : l0.length ≤ c0) (h : slip_Join.f k l0 = some r) :
  Calls Try.prog 63 #[.slice A0 l0.length c0] w fun e w' => e = .returned (.int .u64 r) ∧ Below w.heap.size w w' := by
 have HR0 := Aside0.mk hr0
 have HC0 := Aside0.mk hc0
 clear hr0 hc0
 have HB := Aside0.mk (Below.refl w.heap.size w)
 have H : (slip_Join.l0 k 0 l0 (l0.length : Int) 0) = some r := h
 clear h
 have H' := Aside0.mk H
 clear H
 go_enter Try.func63, Try.ntmps63
 go_wp2
 (try simp only [Act.put, List.setIfInBounds_toArray, List.set_cons_zero, List.set_cons_succ])
 go_loopg [3, 8] k (fun kq v3 v8 w' => ∃ (x3_1 : Int) (x8_1 : Int), v3 = .int .u64 x3_1 ∧ v8 = .int .i64 x8_1 ∧ Aside0 (slip_Join.l0 kq x3_1 l0 (l0.length : Int) x8_1 = some r) ∧ Aside0 (kq ≤ k) ∧ Aside0 (Below w.heap.size w w'))
 case atStart => exact ⟨(0), (0), zrl, zrl, H', ⟨Nat.le_refl _⟩, ⟨zaB⟩⟩
 case round =>
  clear H'
  obtain ⟨x3_1, x8_1, rfl, rfl, HA, HK1, HB⟩ := hrel
  cases gk with
  | zero => exact absurd HA.out (by simp [slip_Join.l0])
  | succ k1 =>
   have H := HA.out
   clear HA
   simp only [slip_Join.l0] at H
   by_cases c2 : x8_1 < (l0.length : Int)
   ·rw [if_pos c2] at H
    have c2b0 : decide (x8_1 < (l0.length : Int)) = true := decide_eq_true c2
    clear c2
    by_cases c3 : 0 ≤ x8_1
    ·rw [if_pos c3] at H
     have c3b0 : decide (0 ≤ x8_1) = true := decide_eq_true c3
     clear c3
     by_cases c4 : x8_1 < (l0.length : Int)
     ·rw [if_pos c4] at H
      have c4b0 : decide (x8_1 < (l0.length : Int)) = true := decide_eq_true c4
      clear c4
      obtain ⟨t1474, A5, H⟩ := zbs H
      try dsimp only at H
      obtain ⟨y1475, hy1475⟩ : ∃ y_ : List Int, y_ = (([x3_1, t1474] : List Int)) := ⟨_, rfl⟩
      replace H : ((pattern_Max.f k1 y1475).bind fun t1478 => (slip_Join.l0 k1 t1478 l0 (l0.length : Int) (wrap64 (x8_1 + 1)))) = some r := by first | (rw [hy1475]; with_reducible exact H) | (have H2_ := (Option.bind_some _ _).symm.trans H; rw [hy1475]; with_reducible exact H2_) | (have H2_ := (Option.bind_some _ _).symm.trans H; with_reducible exact H2_) | with_reducible exact H | (rw [hy1475]; exact H) | exact H
      have Ny1475 := Aside0.mk hy1475
      clear hy1475
      obtain ⟨t1478, A6, H⟩ := zbs H
      try dsimp only at H
      have H' := Aside0.mk H
      clear H
      have p1473 : 0 ≤ (x8_1 : Int) := of_decide_eq_true (by first | (with_reducible assumption) | assumption)
      have q1473 : x8_1 < (l0.length : Int) := of_decide_eq_true (by first | (with_reducible assumption) | assumption)
      obtain ⟨ad1473, e1473, hx1473_0⟩ := Kd.at_int HR0.out x8_1 p1473 q1473
      cases e1473
      replace hx1473_0 := (HB.out.cell (World.block_lt_of_cell? w _ hx1473_0)).trans hx1473_0
      replace p1473 := eq_true p1473
      replace q1473 := eq_true q1473
      go_wp2_with (first | ((with_reducible refine gtc 61 rfl ?_); refine zgL 14 Try.func61 (slip_Good.calls k1 (rd l0 x8_1) t1474 _ A5.out) (h := ?_); rintro w' ⟨nd, rfl⟩) | ((with_reducible refine gtd 15 rfl ?_); refine Kd.R_lit (Kd.int .u64) _ 23 ?hg (N := 15) ?hd (xs := ([x3_1, t1474] : List Int)) (inner := [.int .u64 x3_1, .int .u64 t1474]) (ok := fun _ => True) (okp := fun _ => True) ?hr ?hp (fun _ hk => hk) trivial (Below.refl _ _) (Nat.le_refl _) (by simp) ?_; (case hd => rfl); (case hg => rfl); (case hr => first | (go_simp; done) | (go_simp; rfl)); (case hp => exact (Reps.one (show Kd.M (Kd.int .u64) _ _ _ x3_1 [.int .u64 x3_1] from rfl) (Reps.one (show Kd.M (Kd.int .u64) _ _ _ t1474 [.int .u64 t1474] from rfl) (Reps.none _ _)))); intro v1476 w7 ho8 hb hg_ hnew_; clear hg_ hnew_; (first | rw [← Ny1475.out] at ho8 | (simp only [Int.reduceToNat] at ho8; rw [← Ny1475.out] at ho8)); have HO1477 := Aside0.mk (Kd.R_lower ho8 (below_size zaB)); replace HB := Aside0.mk (below_step zaB hb); clear hb ho8; obtain ⟨Ao9, co9, eo9⟩ := Kd.R_slice HO1477.out; subst eo9) | ((with_reducible refine gtc 120 rfl ?_); refine goesL_ (some 16) rfl rfl Try.func120 (by kernel_rfl) rfl #[.slice Ao9 y1475.length co9] rfl (by (try simp only [List.map_toArray, List.map_cons, List.map_nil]); first | done | rfl | (simp only [List.length_drop, List.length_take]; rfl)) ?_; (with_reducible refine (pattern_Max.calls k1 _ _ y1475 t1478 _ ?side1 ?side2 A6.out).mono ?_); (case side1 => repeat (first | exact (Kd.R_reads' HO1477.out).2.2 | (with_reducible refine Kd.C_alloc ?_ _) | (with_reducible refine Kd.C_drewN ?_ _) | (with_reducible refine Kd.C_drew ?_))); (case side2 => exact (Kd.R_reads' HO1477.out).2.1); rintro e w10 ⟨rfl, hb⟩; refine ⟨_, rfl, ?_⟩; replace HO1477 := Aside0.mk (Kd.R_below (zRW HO1477.out) hb); replace HB := Aside0.mk (below_step zaB hb); (try clear hb)))
      go_roundg k1
      case measure => have := HK1.out; omega
      case rel => exact ⟨(t1478), (wrap64 (x8_1 + 1)), zrl, zrl, H', ⟨by have := HK1.out; omega⟩, ⟨zaB⟩⟩
     rw [if_neg c4] at H
     exact absurd H (by simp)
    rw [if_neg c3] at H
    exact absurd H (by simp)
   rw [if_neg c2] at H
   have c2b0 : decide (x8_1 < (l0.length : Int)) = false := decide_eq_false c2
   clear c2
   obtain rfl := Option.some.inj H
   go_wp2
   go_ret
   exact ⟨zaE, zaB⟩
theorem pattern_Neg.calls (k : Nat) (a0 : Int) (r : Int) (w : World) (h : pattern_Neg.f k a0 = some r) :
  Calls Try.prog 32 #[.int .u64 a0] w fun e w' => e = .returned (.int .u64 r) ∧ Drawn0 w w' := by
 have H := h
 unfold pattern_Neg.f at H
 clear h
 obtain ⟨t225, A2, H⟩ := zbs H
 try dsimp only at H
 by_cases c3 : t225 = true
 ·subst c3
  replace H := zit H
  obtain rfl := Option.some.inj H
  go_enter Try.func32, Try.ntmps32
  go_wp2_with (first | ((with_reducible refine gtc 109 rfl ?_); refine zgL 4 Try.func109 (pattern_nan.calls k a0 true _ A2.out) (h := ?_); rintro w' ⟨nd, rfl⟩))
  go_ret
  exact ⟨by first | rfl | (simp; done) | (simp [*]; done), by repeat (first | exact Drawn0.refl _ | apply Drawn0.step)⟩
 replace c3 := Bool.eq_false_iff.mpr c3
 subst c3
 replace H := zif H
 obtain rfl := Option.some.inj H
 go_enter Try.func32, Try.ntmps32
 go_wp2_with (first | ((with_reducible refine gtc 109 rfl ?_); refine zgL 4 Try.func109 (pattern_nan.calls k a0 false _ A2.out) (h := ?_); rintro w' ⟨nd, rfl⟩))
 go_ret
 exact ⟨by first | rfl | (simp; done) | (simp [*]; done), by repeat (first | exact Drawn0.refl _ | apply Drawn0.step)⟩
def span_Neg.T4 : Bool × List (List Nat × List Nat) := (true, [([], []), ([0], [0]), ([1], [1]), ([], []), ([3], [3]), ([4, 2], [4]), ([2, 5, 5], [2, 5]), ([6, 6, 0, 1, 2, 3, 4, 5, 6], [6])])
def span_Neg.B4 : List Nat := [0, 1, 3, 0, 8, 31, 63, 127]
theorem span_Neg.tab4 : rtab .any (opsOf Try.f111 4) = span_Neg.T4 := by kernel_rfl
theorem span_Neg.bits4 : waitsOk span_Neg.T4.2 span_Neg.B4 = true := by kernel_rfl
theorem span_Neg.calls (k : Nat) (a0_0 : Bool) (a0_1 : Int) (a0_2 : Int) (r1 : Bool) (r2 : Int) (r3 : Int) (w : World) (h : span_Neg.f k a0_0 a0_1 a0_2 = some (r1, r2, r3)) :
  Calls Try.prog 111 #[.agg #[.bool a0_0, .int .u64 a0_1, .int .u64 a0_2]] w fun e w' => e = .returned (.agg #[.bool r1, .int .u64 r2, .int .u64 r3]) ∧ Below w.heap.size w w' := by
 have hu43 := Try.underlying43
 have HB := Aside0.mk (Below.refl w.heap.size w)
 have H := h
 unfold span_Neg.f at H
 clear h
 obtain ⟨⟨t796, t797, t798⟩, A2, H⟩ := zbs H
 try dsimp only at H
 by_cases c3 : t796 = true
 ·subst c3
  replace H := zit H
  simp only [Option.some.injEq, Prod.mk.injEq] at H
  obtain ⟨rfl, rfl, rfl⟩ := H
  go_enter Try.func111, Try.ntmps111
  go_wp2_with (first | ((with_reducible refine gtd 1 rfl ?_); refine zbx 1 #[.bool a0_0, .int .u64 a0_1, .int .u64 a0_2] 43 (h := ?_); intro gb794 hg w4 hbox hb; have GW794 := zkZ hg (zaB (p := Below w.heap.size w _)); replace HB := Aside0.mk (below_step zaB hb); have BK794 := Aside0.mk (hbox); clear hb hbox hg) | ((with_reducible refine gtd 2 rfl ?_); refine zbx 2 #[.bool false, .int .u64 0, .int .u64 0] 43 (h := ?_); intro gb795 hg w5 hbox hb; refine zbn1 HB BK794 hg hb hbox (c := ?_); clear HB BK794 hb hbox hg; intro GW795 NB794_795 BK794 HB BK795; refine zt1 NB794_795 fun _ _ => ?_; refine zu3 BK794 fun _ _ _ _ _ _ => ?_) | ((with_reducible refine gtc 112 rfl ?_); refine zgL 4 Try.func112 (span_norm.calls k a0_0 a0_1 a0_2 true t797 t798 _ A2.out) (h := ?_); rintro w8 hb; refine zcn2 HB BK794 BK795 hb (c := ?_); clear HB BK794 BK795 hb; intro BK794 BK795 HB; refine zu3 BK794 fun _ _ _ _ _ _ => ?_; refine zu3 BK795 fun _ _ _ _ _ _ => ?_))
  refine bodyPost_ret (results_cell_row rfl _ _ gb795 43 #[.bool true, .int .u64 t797, .int .u64 t798] (0, 0) _ rfl (blk_put (cs := #[.bool true, .int .u64 t797, .int .u64 0]) (blk_put (cs := #[.bool true, .int .u64 0, .int .u64 0]) (blk_put (zkf (zkf (zkf (zkq BK795) (zks NB794_795).out _) (zks NB794_795).out _) (zks NB794_795).out _) 0 _ rfl) 1 _ rfl) 2 _ rfl) Try.underlying43 rfl (by kernel_rfl)) rfl ?_
  exact ⟨zaE, zaB⟩
 replace c3 := Bool.eq_false_iff.mpr c3
 subst c3
 replace H := zif H
 obtain ⟨t799, A11, H⟩ := zbs H
 try dsimp only at H
 obtain ⟨t800, A12, H⟩ := zbs H
 try dsimp only at H
 obtain ⟨⟨t801, t802, t803⟩, A13, H⟩ := zbs H
 try dsimp only at H
 simp only [Option.some.injEq, Prod.mk.injEq] at H
 obtain ⟨rfl, rfl, rfl⟩ := H
 go_enter Try.func111, Try.ntmps111
 try go_wp2_with (first | ((with_reducible refine gtd 1 rfl ?_); refine zbx 1 #[.bool a0_0, .int .u64 a0_1, .int .u64 a0_2] 43 (h := ?_); intro gb794 hg w14 hbox hb; have GW794 := zkZ hg (zaB (p := Below w.heap.size w _)); replace HB := Aside0.mk (below_step zaB hb); have BK794 := Aside0.mk (hbox); clear hb hbox hg) | ((with_reducible refine gtd 2 rfl ?_); refine zbx 2 #[.bool false, .int .u64 0, .int .u64 0] 43 (h := ?_); intro gb795 hg w15 hbox hb; refine zbn1 HB BK794 hg hb hbox (c := ?_); clear HB BK794 hb hbox hg; intro GW795 NB794_795 BK794 HB BK795; refine zt1 NB794_795 fun _ _ => ?_; refine zu3 BK794 fun _ _ _ _ _ _ => ?_) | ((with_reducible refine gtc 112 rfl ?_); refine zgL 4 Try.func112 (span_norm.calls k a0_0 a0_1 a0_2 false t797 t798 _ A2.out) (h := ?_); rintro w18 hb; refine zcn2 HB BK794 BK795 hb (c := ?_); clear HB BK794 BK795 hb; intro BK794 BK795 HB; refine zu3 BK794 fun _ _ _ _ _ _ => ?_))
 generalize hW_ : (((w18.setCell ⟨gb794, 0, none⟩ (.bool false)).setCell ⟨gb794, 1, none⟩ (.int .u64 t797)).setCell ⟨gb794, 2, none⟩ (.int .u64 t798)) = w20
 replace BK794 := zkg hW_ (ob := .cells #[.bool false, .int .u64 t797, .int .u64 t798] 43 (0, 0)) (blk_put (cs := #[.bool false, .int .u64 t797, .int .u64 a0_2]) (blk_put (cs := #[.bool false, .int .u64 a0_1, .int .u64 a0_2]) (blk_put BK794.out 0 _ rfl) 1 _ rfl) 2 _ rfl)
 replace BK795 := zkg hW_ (zkf (zkf (zkf BK795.out (zks NB794_795).out _) (zks NB794_795).out _) (zks NB794_795).out _)
 replace HB := zkG hW_ (below_set (below_set (below_set HB.out GW794.out) GW794.out) GW794.out)
 clear hW_
 replace BK794 := Aside0.mk (blk_drew BK794.out)
 replace BK795 := Aside0.mk (blk_drew BK795.out)
 replace HB := Aside0.mk (below_drew1 HB.out)
 refine start_ (n := 8) (S := fun w' => w'.cell? ⟨gb794, 0, none⟩ = some (.bool false) ∧ w'.cell? ⟨gb794, 1, none⟩ = some (.int .u64 t797) ∧ w'.cell? ⟨gb794, 2, none⟩ = some (.int .u64 t798)) (ds := []) #[false, false, false, false, false, false, false, false] (by kernel_rfl) rfl rfl (ze3 BK794) (fun hHeld => ?_); refine with_tabW span_Neg.tab4 span_Neg.bits4 (fun HT_ HW_ => ?_)
 generalize w20.drew = w21 at BK794 BK795 HB hHeld ⊢
 refine zpA 0 8 (h := ?_)
 refine zpA 3 11 (h := ?_)
 refine ztA 1 9 (h := ?_)
 refine ztA 4 12 (h := ?_)
 refine zoA 2 10 (h := fun K hK => ?_)
 refine zgA Try.func32 (pattern_Neg.calls k t798 t799 _ A11.out) (h := ?_)
 rintro w' ⟨nd, rfl⟩
 refine hK.out _ _ (ze3 BK794) (fun hHeld => ?_)
 clear hK K
 refine znA 10 (h := ?_)
 refine zoA 5 13 (h := fun K hK => ?_)
 refine zgA Try.func32 (pattern_Neg.calls k t797 t800 _ A12.out) (h := ?_)
 rintro w' ⟨nd, rfl⟩
 refine hK.out _ _ (ze3 BK794) (fun hHeld => ?_)
 clear hK K
 refine znA 13 (h := ?_)
 refine zoA 6 14 (h := fun K hK => ?_)
 refine zgA Try.func37 (span_Make.calls k t799 t800 t801 t802 t803 _ A13.out) (h := ?_)
 rintro w22 hb
 refine zcn2 HB BK794 BK795 hb (c := ?_)
 clear HB BK794 BK795 hb
 intro BK794 BK795 HB
 refine hK.out _ _ (ze3 BK794) (fun hHeld => ?_)
 clear hK K
 refine znA 14 (h := ?_)
 refine one_ (i := 7) (N := none) #[true, true, true, true, true, true, true, true] rfl rfl (one_of HT_.out (by kernel_rfl)) (by decide) (fun K hK => ?_)
 have hs23 := zc0 BK795
 have hfs23 := blk_frozen BK795.out 0
 refine zt1 NB794_795 fun _ _ => ?_
 have hs24 := zc1 BK795
 have hfs24 := blk_frozen BK795.out 1
 refine zt1 NB794_795 fun _ _ => ?_
 have hs25 := zc2 BK795
 have hfs25 := blk_frozen BK795.out 2
 refine zt1 NB794_795 fun _ _ => ?_
 refine skip_ (w1 := ?_) (by rfl) rfl ?_ ?_
 rotate_left
 ·go_simp
  rfl
 refine hK.out _ _ ⟨(zff NB794_795 (zff NB794_795 (zff NB794_795 hHeld.1))), (zff NB794_795 (zff NB794_795 (zff NB794_795 hHeld.2.1))), (zff NB794_795 (zff NB794_795 (zff NB794_795 hHeld.2.2)))⟩ (fun hHeld => ?_)
 clear hK K
 refine done_ (done_of HT_.out (by kernel_rfl)) ?_
 try go_wp2
 refine bodyPost_ret (results_cell_row rfl _ _ gb795 43 #[.bool t801, .int .u64 t802, .int .u64 t803] (0, 0) _ rfl (blk_put (cs := #[.bool t801, .int .u64 t802, .int .u64 0]) (blk_put (cs := #[.bool t801, .int .u64 0, .int .u64 0]) (blk_put (zkq BK795) 0 _ rfl) 1 _ rfl) 2 _ rfl) Try.underlying43 rfl (by kernel_rfl)) rfl ?_
 exact ⟨zaE, zaB⟩
def span_Abs.T7 : Bool × List (List Nat × List Nat) := (true, [([], []), ([0], [0]), ([1], [1]), ([], []), ([3], [3]), ([2, 4], [2, 4]), ([5, 2], [5]), ([6, 6], [6]), ([7, 7, 0, 1, 2, 3, 4, 5, 6, 7], [7])])
def span_Abs.B7 : List Nat := [0, 1, 3, 0, 8, 31, 63, 127, 255]
theorem span_Abs.tab7 : rtab .any (opsOf Try.f69 7) = span_Abs.T7 := by kernel_rfl
theorem span_Abs.bits7 : waitsOk span_Abs.T7.2 span_Abs.B7 = true := by kernel_rfl
theorem span_Abs.calls (k : Nat) (a0_0 : Bool) (a0_1 : Int) (a0_2 : Int) (r1 : Bool) (r2 : Int) (r3 : Int) (w : World) (h : span_Abs.f k a0_0 a0_1 a0_2 = some (r1, r2, r3)) :
  Calls Try.prog 69 #[.agg #[.bool a0_0, .int .u64 a0_1, .int .u64 a0_2]] w fun e w' => e = .returned (.agg #[.bool r1, .int .u64 r2, .int .u64 r3]) ∧ Below w.heap.size w w' := by
 have hu43 := Try.underlying43
 have HB := Aside0.mk (Below.refl w.heap.size w)
 have H := h
 unfold span_Abs.f at H
 clear h
 obtain ⟨⟨t806, t807, t808⟩, A2, H⟩ := zbs H
 try dsimp only at H
 have HC3 := Aside0.mk H
 clear H
 go_enter Try.func69, Try.ntmps69
 go_upto_if 5 with (first | ((with_reducible refine gtd 1 rfl ?_); refine zbx 1 #[.bool a0_0, .int .u64 a0_1, .int .u64 a0_2] 43 (h := ?_); intro gb804 hg w4 hbox hb; have GW804 := zkZ hg (zaB (p := Below w.heap.size w _)); replace HB := Aside0.mk (below_step zaB hb); have BK804 := Aside0.mk (hbox); clear hb hbox hg) | ((with_reducible refine gtd 2 rfl ?_); refine zbx 2 #[.bool false, .int .u64 0, .int .u64 0] 43 (h := ?_); intro gb805 hg w5 hbox hb; refine zbn1 HB BK804 hg hb hbox (c := ?_); clear HB BK804 hb hbox hg; intro GW805 NB804_805 BK804 HB BK805; refine zt1 NB804_805 fun _ _ => ?_; refine zu3 BK804 fun z7_0 z7_1 z7_2 f7_0 f7_1 f7_2 => ?_) | ((with_reducible refine gtc 112 rfl ?_); refine zgL 4 Try.func112 (span_norm.calls k a0_0 a0_1 a0_2 t806 t807 t808 _ A2.out) (h := ?_); rintro w8 hb; refine zcn2 HB BK804 BK805 hb (c := ?_); clear HB BK804 BK805 hb; intro BK804 BK805 HB; refine zu3 BK804 fun z9_0 z9_1 z9_2 f9_0 f9_1 f9_2 => ?_))
 (try simp only [Act.put, List.setIfInBounds_toArray, List.set_cons_zero, List.set_cons_succ])
 go_cut [5] (fun v5 wc => ∃ (kq : Nat) (x5_2 : Bool), v5 = .bool x5_2 ∧ Aside0 (span_Abs.j0 kq x5_2 t806 t807 t808 = some (r1, r2, r3)) ∧ Aside0 (kq ≤ k) ∧ Aside0 (wc.heap[gb804]? = some (.cells #[.bool t806, .int .u64 t807, .int .u64 t808] 43 (0, 0))) ∧ Aside0 (wc.heap[gb805]? = some (.cells #[.bool false, .int .u64 0, .int .u64 0] 43 (0, 0))) ∧ Aside0 (Below w.heap.size w wc))
 case first =>
  have H := HC3.out
  clear HC3
  by_cases c10 : t806 = true
  ·subst c10
   replace H := zit H
   have H' := Aside0.mk H
   clear H
   go_wp2
   go_meet
   case rel => exact ⟨_, (true), zrl, H', ⟨zle⟩, ⟨(blk_put (cs := #[.bool true, .int .u64 t807, .int .u64 a0_2]) (blk_put (cs := #[.bool true, .int .u64 a0_1, .int .u64 a0_2]) (blk_put (zkq BK804) 0 _ rfl) 1 _ rfl) 2 _ rfl)⟩, ⟨(zkf (zkf (zkf (zkq BK805) (zks NB804_805).out _) (zks NB804_805).out _) (zks NB804_805).out _)⟩, ⟨zaB⟩⟩
  replace c10 := Bool.eq_false_iff.mpr c10
  subst c10
  replace H := zif H
  obtain ⟨t809, A11, H⟩ := zbs H
  try dsimp only at H
  have H' := Aside0.mk H
  clear H
  refine zt1 NB804_805 fun _ _ => ?_
  refine zu3 BK804 fun z13_0 z13_1 z13_2 f13_0 f13_1 f13_2 => ?_
  go_wp2_with (first | ((with_reducible refine gtc 117 rfl ?_); refine zgL 10 Try.func117 (span_atMost.calls k 0 t807 t809 _ A11.out) (h := ?_); rintro w' ⟨nd, rfl⟩))
  go_meet
  case rel => exact ⟨_, (t809), zrl, H', ⟨zle⟩, ⟨(blk_put (cs := #[.bool false, .int .u64 t807, .int .u64 a0_2]) (blk_put (cs := #[.bool false, .int .u64 a0_1, .int .u64 a0_2]) (blk_put (zkq BK804) 0 _ rfl) 1 _ rfl) 2 _ rfl)⟩, ⟨(zkf (zkf (zkf (zkq BK805) (zks NB804_805).out _) (zks NB804_805).out _) (zks NB804_805).out _)⟩, ⟨zaB⟩⟩
 case rest =>
  clear HC3
  try clear z13_0 z13_1 z13_2 f13_0 f13_1 f13_2
  try clear z7_0 z7_1 z7_2 f7_0 f7_1 f7_2
  try clear z9_0 z9_1 z9_2 f9_0 f9_1 f9_2
  obtain ⟨kq, x5_2, rfl, HA, HJ2, BK804, BK805, HB⟩ := hcut
  cases kq with
  | zero => exact absurd HA.out (by simp [span_Abs.j0])
  | succ kj2 =>
   have H := HA.out
   clear HA
   simp only [span_Abs.j0] at H
   by_cases c14 : x5_2 = true
   ·subst c14
    replace H := zit H
    simp only [Option.some.injEq, Prod.mk.injEq] at H
    obtain ⟨rfl, rfl, rfl⟩ := H
    refine zt1 NB804_805 fun _ _ => ?_
    refine zu3 BK804 fun _ _ _ _ _ _ => ?_
    refine zu3 BK805 fun _ _ _ _ _ _ => ?_
    go_wp2
    refine bodyPost_ret (results_cell_row rfl _ _ gb805 43 #[.bool t806, .int .u64 t807, .int .u64 t808] (0, 0) _ rfl (blk_put (cs := #[.bool t806, .int .u64 t807, .int .u64 0]) (blk_put (cs := #[.bool t806, .int .u64 0, .int .u64 0]) (blk_put (zkq BK805) 0 _ rfl) 1 _ rfl) 2 _ rfl) Try.underlying43 rfl (by kernel_rfl)) rfl ?_
    exact ⟨zaE, zaB⟩
   replace c14 := Bool.eq_false_iff.mpr c14
   subst c14
   replace H := zif H
   obtain ⟨t810, A18, H⟩ := zbs H
   try dsimp only at H
   by_cases c19 : t810 = true
   ·subst c19
    replace H := zit H
    obtain ⟨⟨t811, t812, t813⟩, A20, H⟩ := zbs H
    try dsimp only at H
    simp only [Option.some.injEq, Prod.mk.injEq] at H
    obtain ⟨rfl, rfl, rfl⟩ := H
    refine zt1 NB804_805 fun _ _ => ?_
    refine zu3 BK804 fun _ _ _ _ _ _ => ?_
    go_wp2_with (first | ((with_reducible refine gtc 117 rfl ?_); refine zgL 15 Try.func117 (span_atMost.calls kj2 t808 0 true _ A18.out) (h := ?_); rintro w' ⟨nd, rfl⟩; (try (rw [drewN_self wc]; generalize hq_ : World.drewN wc _ = wc; have n0_ : Aside0 (wc.heap[gb804]? = some (.cells #[.bool t806, .int .u64 t807, .int .u64 t808] 43 (0, 0))) := ⟨by rw [← hq_]; exact (zkq BK804)⟩; have n1_ : Aside0 (wc.heap[gb805]? = some (.cells #[.bool false, .int .u64 0, .int .u64 0] 43 (0, 0))) := ⟨by rw [← hq_]; exact (zkq BK805)⟩; have n2_ : Aside0 (Below w.heap.size w wc) := ⟨by rw [← hq_]; exact zaB⟩; clear BK804 BK805 HB hq_; have BK804 := n0_; have BK805 := n1_; have HB := n2_; clear n0_ n1_ n2_; have hdq804_0 := zc0 BK804; have hdq804_1 := zc1 BK804; have hdq804_2 := zc2 BK804; have hdq804_f := zfz BK804; have hdq805_0 := zc0 BK805; have hdq805_1 := zc1 BK805; have hdq805_2 := zc2 BK805; have hdq805_f := zfz BK805))) | ((with_reducible refine gtc 111 rfl ?_); refine zgL 17 Try.func111 (span_Neg.calls kj2 t806 t807 t808 t811 t812 t813 _ A20.out) (h := ?_); rintro w23 hb; refine zcn2 HB BK804 BK805 hb (c := ?_); clear HB BK804 BK805 hb; intro BK804 BK805 HB; refine zu3 BK805 fun _ _ _ _ _ _ => ?_))
    refine bodyPost_ret (results_cell_row rfl _ _ gb805 43 #[.bool t811, .int .u64 t812, .int .u64 t813] (0, 0) _ rfl (blk_put (cs := #[.bool t811, .int .u64 t812, .int .u64 0]) (blk_put (cs := #[.bool t811, .int .u64 0, .int .u64 0]) (blk_put (zkq BK805) 0 _ rfl) 1 _ rfl) 2 _ rfl) Try.underlying43 rfl (by kernel_rfl)) rfl ?_
    exact ⟨zaE, zaB⟩
   replace c19 := Bool.eq_false_iff.mpr c19
   subst c19
   replace H := zif H
   obtain ⟨t814, A25, H⟩ := zbs H
   try dsimp only at H
   obtain ⟨y815, hy815⟩ : ∃ y_ : List Int, y_ = (([t814, t808] : List Int)) := ⟨_, rfl⟩
   replace H : ((pattern_Max.f kj2 y815).bind fun t818 => ((span_Make.f kj2 0 t818).bind fun bt819 => (some (bt819.1, bt819.2.1, bt819.2.2)))) = some (r1, r2, r3) := by first | (rw [hy815]; with_reducible exact H) | (have H2_ := (Option.bind_some _ _).symm.trans H; rw [hy815]; with_reducible exact H2_) | (have H2_ := (Option.bind_some _ _).symm.trans H; with_reducible exact H2_) | with_reducible exact H | (rw [hy815]; exact H) | exact H
   have Ny815 := Aside0.mk hy815
   clear hy815
   obtain ⟨t818, A26, H⟩ := zbs H
   try dsimp only at H
   obtain ⟨⟨t819, t820, t821⟩, A27, H⟩ := zbs H
   try dsimp only at H
   simp only [Option.some.injEq, Prod.mk.injEq] at H
   obtain ⟨rfl, rfl, rfl⟩ := H
   refine zt1 NB804_805 fun _ _ => ?_
   refine zu3 BK804 fun _ _ _ _ _ _ => ?_
   try go_wp2_with (first | ((with_reducible refine gtc 117 rfl ?_); refine zgL 15 Try.func117 (span_atMost.calls kj2 t808 0 false _ A18.out) (h := ?_); rintro w' ⟨nd, rfl⟩; (try (rw [drewN_self wc]; generalize hq_ : World.drewN wc _ = wc; have n0_ : Aside0 (wc.heap[gb804]? = some (.cells #[.bool t806, .int .u64 t807, .int .u64 t808] 43 (0, 0))) := ⟨by rw [← hq_]; exact (zkq BK804)⟩; have n1_ : Aside0 (wc.heap[gb805]? = some (.cells #[.bool false, .int .u64 0, .int .u64 0] 43 (0, 0))) := ⟨by rw [← hq_]; exact (zkq BK805)⟩; have n2_ : Aside0 (Below w.heap.size w wc) := ⟨by rw [← hq_]; exact zaB⟩; clear BK804 BK805 HB hq_; have BK804 := n0_; have BK805 := n1_; have HB := n2_; clear n0_ n1_ n2_; have hdq804_0 := zc0 BK804; have hdq804_1 := zc1 BK804; have hdq804_2 := zc2 BK804; have hdq804_f := zfz BK804; have hdq805_0 := zc0 BK805; have hdq805_1 := zc1 BK805; have hdq805_2 := zc2 BK805; have hdq805_f := zfz BK805))))
   (try (rw [drewN_self wc]; generalize hq_ : World.drewN wc _ = wc; replace BK804 := zkg hq_ (zkq BK804); replace BK805 := zkg hq_ (zkq BK805); replace HB := zkG hq_ (pw_below_drewN HB.out _); clear hq_))
   replace BK804 := Aside0.mk (blk_drew BK804.out)
   replace BK805 := Aside0.mk (blk_drew BK805.out)
   replace HB := Aside0.mk (below_drew1 HB.out)
   refine start_ (n := 9) (S := fun w' => w'.cell? ⟨gb804, 0, none⟩ = some (.bool t806) ∧ w'.cell? ⟨gb804, 1, none⟩ = some (.int .u64 t807) ∧ w'.cell? ⟨gb804, 2, none⟩ = some (.int .u64 t808)) (ds := []) #[false, false, false, false, false, false, false, false, false] (by kernel_rfl) rfl rfl (ze3 BK804) (fun hHeld => ?_); refine with_tabW span_Abs.tab7 span_Abs.bits7 (fun HT_ HW_ => ?_)
   generalize wc.drew = w30 at BK804 BK805 HB hHeld ⊢
   refine zpA 0 18 (h := ?_)
   refine zpA 3 21 (h := ?_)
   refine ztA 1 19 (h := ?_)
   refine ztA 4 22 (h := ?_)
   refine zoA 2 20 (h := fun K hK => ?_)
   refine zgA Try.func32 (pattern_Neg.calls kj2 t807 t814 _ A25.out) (h := ?_)
   rintro w' ⟨nd, rfl⟩
   refine hK.out _ _ (ze3 BK804) (fun hHeld => ?_)
   clear hK K
   refine znA 20 (h := ?_)
   refine zoA 5 23 (h := fun K hK => ?_)
   refine Kd.R_lit_step (Kd.int .u64) _ 23 ?hg (N := 23) ?hd (xs := ([t814, t808] : List Int)) (inner := [.int .u64 t814, .int .u64 t808]) (ok := fun _ => True) (okp := fun _ => True) ?hr ?hp (fun _ hk => hk) trivial (Below.refl _ _) (Nat.le_refl _) (by simp) ?_; (case hd => rfl); (case hg => rfl); (case hr => first | (go_simp; done) | (go_simp; rfl)); (case hp => exact (Reps.one (show Kd.M (Kd.int .u64) _ _ _ t814 [.int .u64 t814] from rfl) (Reps.one (show Kd.M (Kd.int .u64) _ _ _ t808 [.int .u64 t808] from rfl) (Reps.none _ _))))
   intro v816 w31 ho32 hb hg_ hnew_
   clear hg_ hnew_
   (first | rw [← Ny815.out] at ho32 | (simp only [Int.reduceToNat] at ho32; rw [← Ny815.out] at ho32))
   have HO817 := Aside0.mk (Kd.R_lower ho32 (below_size zaB))
   replace BK804 := zkb BK804 hb
   replace BK805 := zkb BK805 hb
   replace HB := zkB HB hb
   clear hb ho32
   obtain ⟨Ao33, co33, eo33⟩ := Kd.R_slice HO817.out
   (first | subst eo33 | (injection eo33 with f1_ f2_ f3_; have f4_ := f1_.symm; have f5_ := f3_.symm; clear f1_ f2_ f3_; subst f4_; subst f5_))
   refine hK.out _ _ (ze3 BK804) (fun hHeld => ?_)
   clear hK K
   refine znA 23 (h := ?_)
   refine zoA 6 24 (h := fun K hK => ?_)
   refine goes_ Try.func120 (by kernel_rfl) rfl #[.slice Ao33 y815.length co33] (by rfl) rfl rfl (by (try simp only [List.map_toArray, List.map_cons, List.map_nil]); first | done | rfl | (simp only [List.length_drop, List.length_take]; rfl)) ?_
   with_reducible refine (pattern_Max.calls kj2 _ _ y815 t818 _ ?side1 ?side2 A26.out).mono ?_
   (case side1 => repeat (first | exact (Kd.R_reads' HO817.out).2.2 | (with_reducible refine Kd.C_alloc ?_ _) | (with_reducible refine Kd.C_drewN ?_ _) | (with_reducible refine Kd.C_drew ?_)))
   (case side2 => exact (Kd.R_reads' HO817.out).2.1)
   rintro e w34 ⟨rfl, hb⟩
   refine ⟨_, rfl, ?_⟩
   replace HO817 := Aside0.mk (Kd.R_below (zRW HO817.out) hb)
   refine zcn2 HB BK804 BK805 hb (c := ?_)
   clear HB BK804 BK805 hb
   intro BK804 BK805 HB
   refine hK.out _ _ (ze3 BK804) (fun hHeld => ?_)
   clear hK K
   refine znA 24 (h := ?_)
   refine zoA 7 25 (h := fun K hK => ?_)
   refine zgA Try.func37 (span_Make.calls kj2 0 t818 t819 t820 t821 _ A27.out) (h := ?_)
   rintro w35 hb
   replace HO817 := Aside0.mk (Kd.R_below (zRW HO817.out) hb)
   refine zcn2 HB BK804 BK805 hb (c := ?_)
   clear HB BK804 BK805 hb
   intro BK804 BK805 HB
   refine hK.out _ _ (ze3 BK804) (fun hHeld => ?_)
   clear hK K
   refine znA 25 (h := ?_)
   refine one_ (i := 8) (N := none) #[true, true, true, true, true, true, true, true, true] rfl rfl (one_of HT_.out (by kernel_rfl)) (by decide) (fun K hK => ?_)
   have hs36 := zc0 BK805
   have hfs36 := blk_frozen BK805.out 0
   refine zt1 NB804_805 fun _ _ => ?_
   have hs37 := zc1 BK805
   have hfs37 := blk_frozen BK805.out 1
   refine zt1 NB804_805 fun _ _ => ?_
   have hs38 := zc2 BK805
   have hfs38 := blk_frozen BK805.out 2
   refine zt1 NB804_805 fun _ _ => ?_
   refine skip_ (w1 := ?_) (by rfl) rfl ?_ ?_
   rotate_left
   ·go_simp
    rfl
   refine hK.out _ _ ⟨(zff NB804_805 (zff NB804_805 (zff NB804_805 hHeld.1))), (zff NB804_805 (zff NB804_805 (zff NB804_805 hHeld.2.1))), (zff NB804_805 (zff NB804_805 (zff NB804_805 hHeld.2.2)))⟩ (fun hHeld => ?_)
   clear hK K
   refine done_ (done_of HT_.out (by kernel_rfl)) ?_
   try go_wp2
   refine bodyPost_ret (results_cell_row rfl _ _ gb805 43 #[.bool t819, .int .u64 t820, .int .u64 t821] (0, 0) _ rfl (blk_put (cs := #[.bool t819, .int .u64 t820, .int .u64 0]) (blk_put (cs := #[.bool t819, .int .u64 0, .int .u64 0]) (blk_put (zkq BK805) 0 _ rfl) 1 _ rfl) 2 _ rfl) Try.underlying43 rfl (by kernel_rfl)) rfl ?_
   exact ⟨zaE, zaB⟩
theorem span_Most.calls (k : Nat) (a0_0 : Bool) (a0_1 : Int) (a0_2 : Int) (r : Int) (w : World) (h : span_Most.f k a0_0 a0_1 a0_2 = some r) :
  Calls Try.prog 50 #[.agg #[.bool a0_0, .int .u64 a0_1, .int .u64 a0_2]] w fun e w' => e = .returned (.int .u64 r) ∧ Below w.heap.size w w' := by
 have hu43 := Try.underlying43
 have hfd0_ : ∀ (b : Bool) (x y : Int) (w : World), (Instr.field 43 (.agg #[.bool b, .int .u64 x, .int .u64 y]) 0).run Try.prog w = .ok (.bool b) w := fun _ _ _ _ => by kernel_rfl
 have hfd1_ : ∀ (b : Bool) (x y : Int) (w : World), (Instr.field 43 (.agg #[.bool b, .int .u64 x, .int .u64 y]) 1).run Try.prog w = .ok (.int .u64 x) w := fun _ _ _ _ => by kernel_rfl
 have hfd2_ : ∀ (b : Bool) (x y : Int) (w : World), (Instr.field 43 (.agg #[.bool b, .int .u64 x, .int .u64 y]) 2).run Try.prog w = .ok (.int .u64 y) w := fun _ _ _ _ => by kernel_rfl
 have HB := Aside0.mk (Below.refl w.heap.size w)
 have H : ((span_Abs.f k a0_0 a0_1 a0_2).bind fun bt823 => (some bt823.2.2)) = some r := h
 clear h
 obtain ⟨⟨t823, t824, t825⟩, A2, H⟩ := zbs H
 try dsimp only at H
 obtain rfl := Option.some.inj H
 go_enter Try.func50, Try.ntmps50
 go_wp2_with (first | ((with_reducible refine gtd 1 rfl ?_); refine zbx 1 #[.bool a0_0, .int .u64 a0_1, .int .u64 a0_2] 43 (h := ?_); intro gb822 hg w3 hbox hb; have GW822 := zkZ hg (zaB (p := Below w.heap.size w _)); replace HB := Aside0.mk (below_step zaB hb); have BK822 := Aside0.mk (hbox); clear hb hbox hg; refine zu3 BK822 fun _ _ _ _ _ _ => ?_) | ((with_reducible refine gtc 69 rfl ?_); refine zgL 4 Try.func69 (span_Abs.calls k a0_0 a0_1 a0_2 t823 t824 t825 _ A2.out) (h := ?_); rintro w5 hb; replace BK822 := zkb BK822 hb; replace HB := zkB HB hb; (try clear hb)))
 go_ret
 exact ⟨zaE, zaB⟩
theorem pattern_Quiet.calls  (r : Int) (w : World) (h : pattern_Quiet.f  = some r) :
  Calls Try.prog 81 #[] w fun e w' => e = .returned (.int .u64 r) ∧ Drawn0 w w' := by
 have H : (some 9221120237041090560) = some r := h
 clear h
 obtain rfl := Option.some.inj H
 go_enter Try.func81, Try.ntmps81
 go_wp2
 go_ret
 exact ⟨by first | rfl | (simp; done) | (simp [*]; done), by repeat (first | exact Drawn0.refl _ | apply Drawn0.step)⟩
theorem pattern_Split.calls (k : Nat) (a0 : Int) (r1 : Int) (r2 : Int) (w : World) (h : pattern_Split.f k a0 = some (r1, r2)) :
  Calls Try.prog 140 #[.int .u64 a0] w fun e w' => e = .returned (.tuple #[.int .u64 r1, .int .i64 r2]) ∧ Drawn0 w w' := by
 have H := h
 unfold pattern_Split.f at H
 clear h
 obtain ⟨⟨t104, t105, t106⟩, A2, H⟩ := zbs H
 try dsimp only at H
 obtain ⟨t107, A3, H⟩ := zbs H
 try dsimp only at H
 by_cases c4 : t107 = 2
 ·rw [if_pos c4] at H
  have c4b0 : (t107 == 2) = true := beq_iff_eq.mpr c4
  have c4b1 : (t107 != 2) = false := bne_eq_false_iff_eq.mpr c4
  clear c4
  simp only [Option.some.injEq, Prod.mk.injEq] at H
  obtain ⟨rfl, rfl⟩ := H
  go_enter Try.func140, Try.ntmps140
  go_wp2_with (first | ((with_reducible refine gtc 98 rfl ?_); refine zgL 9 Try.func98 (pattern_Parts.calls a0 t104 t105 t106 _ A2.out) (h := ?_); rintro w' ⟨nd, rfl⟩) | ((with_reducible refine gtc 24 rfl ?_); refine zgL 14 Try.func24 (pattern_Class.calls k a0 t107 _ A3.out) (h := ?_); rintro w' ⟨nd, rfl⟩))
  go_ret2
  exact ⟨by first | rfl | (simp; done) | (simp [*]; done), by repeat (first | exact Drawn0.refl _ | apply Drawn0.step)⟩
 rw [if_neg c4] at H
 have c4b0 : (t107 == 2) = false := beq_eq_false_iff_ne.mpr c4
 have c4b1 : (t107 != 2) = true := bne_iff_ne.mpr c4
 by_cases c5 : t107 = 1
 ·rw [if_pos c5] at H
  have c5b0 : (t107 == 1) = true := beq_iff_eq.mpr c5
  have c5b1 : (t107 != 1) = false := bne_eq_false_iff_eq.mpr c5
  clear c5
  simp only [Option.some.injEq, Prod.mk.injEq] at H
  obtain ⟨rfl, rfl⟩ := H
  go_enter Try.func140, Try.ntmps140
  go_wp2_with (first | ((with_reducible refine gtc 98 rfl ?_); refine zgL 9 Try.func98 (pattern_Parts.calls a0 t104 t105 t106 _ A2.out) (h := ?_); rintro w' ⟨nd, rfl⟩) | ((with_reducible refine gtc 24 rfl ?_); refine zgL 14 Try.func24 (pattern_Class.calls k a0 t107 _ A3.out) (h := ?_); rintro w' ⟨nd, rfl⟩))
  go_ret2
  exact ⟨by first | rfl | (simp; done) | (simp [*]; done), by repeat (first | exact Drawn0.refl _ | apply Drawn0.step)⟩
 rw [if_neg c5] at H
 have c5b0 : (t107 == 1) = false := beq_eq_false_iff_ne.mpr c5
 have c5b1 : (t107 != 1) = true := bne_iff_ne.mpr c5
 simp only [Option.some.injEq, Prod.mk.injEq] at H
 obtain ⟨rfl, rfl⟩ := H
 go_enter Try.func140, Try.ntmps140
 go_wp2_with (first | ((with_reducible refine gtc 98 rfl ?_); refine zgL 9 Try.func98 (pattern_Parts.calls a0 t104 t105 t106 _ A2.out) (h := ?_); rintro w' ⟨nd, rfl⟩) | ((with_reducible refine gtc 24 rfl ?_); refine zgL 14 Try.func24 (pattern_Class.calls k a0 t107 _ A3.out) (h := ?_); rintro w' ⟨nd, rfl⟩))
 go_ret2
 exact ⟨by first | rfl | (simp; done) | (simp [*]; done), by repeat (first | exact Drawn0.refl _ | apply Drawn0.step)⟩
theorem soft_of.calls (k : Nat) (a0 : Int) (r1 : Int) (r2 : Int) (r3 : Bool) (r4 : Int) (r5 : Int) (w : World) (h : soft_of.f k a0 = some (r1, r2, r3, r4, r5)) :
  Calls Try.prog 82 #[.int .u64 a0] w fun e w' => e = .returned (.agg #[.int .u64 r1, .int .u8 r2, .bool r3, .int .u64 r4, .int .i64 r5]) ∧ Below w.heap.size w w' := by
 have hu88 := Try.underlying88
 have HB := Aside0.mk (Below.refl w.heap.size w)
 have H := h
 unfold soft_of.f at H
 clear h
 obtain ⟨⟨t109, t110⟩, A2, H⟩ := zbs H
 try dsimp only at H
 obtain ⟨t111, A3, H⟩ := zbs H
 try dsimp only at H
 simp only [Option.some.injEq, Prod.mk.injEq] at H
 obtain ⟨rfl, rfl, rfl, rfl, rfl⟩ := H
 go_enter Try.func82, Try.ntmps82
 go_wp2_with (first | ((with_reducible refine gtd 2 rfl ?_); refine zbx 2 #[.int .u64 0, .int .u8 0, .bool false, .int .u64 0, .int .i64 0] 88 (h := ?_); intro gb108 hg w4 hbox hb; have GW108 := zkZ hg (zaB (p := Below w.heap.size w _)); replace HB := Aside0.mk (below_step zaB hb); have BK108 := Aside0.mk (hbox); clear hb hbox hg) | ((with_reducible refine gtc 140 rfl ?_); refine zgL 7 Try.func140 (pattern_Split.calls k a0 t109 t110 _ A2.out) (h := ?_); rintro w' ⟨nd, rfl⟩; (try (rw [drewN_self w4]; generalize hq_ : World.drewN w4 _ = w4; have n0_ : Aside0 (w4.heap[gb108]? = some (.cells #[.int .u64 0, .int .u8 0, .bool false, .int .u64 0, .int .i64 0] 88 (0, 0))) := ⟨by rw [← hq_]; exact (zkq BK108)⟩; have n1_ : Aside0 (Below w.heap.size w w4) := ⟨by rw [← hq_]; exact zaB⟩; clear BK108 HB hq_; have BK108 := n0_; have HB := n1_; clear n0_ n1_))) | ((with_reducible refine gtc 24 rfl ?_); refine zgL 12 Try.func24 (pattern_Class.calls k a0 t111 _ A3.out) (h := ?_); rintro w' ⟨nd, rfl⟩; (try (rw [drewN_self w4]; generalize hq_ : World.drewN w4 _ = w4; have n0_ : Aside0 (w4.heap[gb108]? = some (.cells #[.int .u64 0, .int .u8 0, .bool false, .int .u64 0, .int .i64 0] 88 (0, 0))) := ⟨by rw [← hq_]; exact (zkq BK108)⟩; have n1_ : Aside0 (Below w.heap.size w w4) := ⟨by rw [← hq_]; exact zaB⟩; clear BK108 HB hq_; have BK108 := n0_; have HB := n1_; clear n0_ n1_)); refine zu5 BK108 fun _ _ _ _ _ _ _ _ _ _ => ?_))
 refine bodyPost_ret (results_cell_row rfl _ _ gb108 88 #[.int .u64 a0, .int .u8 t111, .bool ((a0 / 9223372036854775808) == 1), .int .u64 t109, .int .i64 t110] (0, 0) _ rfl (blk_put (cs := #[.int .u64 a0, .int .u8 t111, .bool ((a0 / 9223372036854775808) == 1), .int .u64 t109, .int .i64 0]) (blk_put (cs := #[.int .u64 a0, .int .u8 t111, .bool ((a0 / 9223372036854775808) == 1), .int .u64 0, .int .i64 0]) (blk_put (cs := #[.int .u64 a0, .int .u8 t111, .bool false, .int .u64 0, .int .i64 0]) (blk_put (cs := #[.int .u64 a0, .int .u8 0, .bool false, .int .u64 0, .int .i64 0]) (blk_put (zkq BK108) 0 _ rfl) 1 _ rfl) 2 _ rfl) 3 _ rfl) 4 _ rfl) Try.underlying88 rfl (by kernel_rfl)) rfl ?_
 exact ⟨zaE, zaB⟩
theorem soft_either.calls (a0_0 : Int) (a0_1 : Int) (a0_2 : Bool) (a0_3 : Int) (a0_4 : Int) (a1_0 : Int) (a1_1 : Int) (a1_2 : Bool) (a1_3 : Int) (a1_4 : Int) (a2 : Int) (r : Bool) (w : World) (h : soft_either.f a0_0 a0_1 a0_2 a0_3 a0_4 a1_0 a1_1 a1_2 a1_3 a1_4 a2 = some r) :
  Calls Try.prog 83 #[.agg #[.int .u64 a0_0, .int .u8 a0_1, .bool a0_2, .int .u64 a0_3, .int .i64 a0_4], .agg #[.int .u64 a1_0, .int .u8 a1_1, .bool a1_2, .int .u64 a1_3, .int .i64 a1_4], .int .u8 a2] w fun e w' => e = .returned (.bool r) ∧ Below w.heap.size w w' := by
 have hu88 := Try.underlying88
 have HB := Aside0.mk (Below.refl w.heap.size w)
 have H : (if a0_1 = a2 then (some true) else (some (a1_1 == a2))) = some r := h
 clear h
 by_cases c4 : a0_1 = a2
 ·rw [if_pos c4] at H
  have c4b0 : (a0_1 == a2) = true := beq_iff_eq.mpr c4
  have c4b1 : (a0_1 != a2) = false := bne_eq_false_iff_eq.mpr c4
  clear c4
  obtain rfl := Option.some.inj H
  go_enter Try.func83, Try.ntmps83
  go_wp2_with (first | ((with_reducible refine gtd 3 rfl ?_); refine zbx 3 #[.int .u64 a0_0, .int .u8 a0_1, .bool a0_2, .int .u64 a0_3, .int .i64 a0_4] 88 (h := ?_); intro gb112 hg w5 hbox hb; have GW112 := zkZ hg (zaB (p := Below w.heap.size w _)); replace HB := Aside0.mk (below_step zaB hb); have BK112 := Aside0.mk (hbox); clear hb hbox hg) | ((with_reducible refine gtd 4 rfl ?_); refine zbx 4 #[.int .u64 a1_0, .int .u8 a1_1, .bool a1_2, .int .u64 a1_3, .int .i64 a1_4] 88 (h := ?_); intro gb113 hg w6 hbox hb; refine zbn1 HB BK112 hg hb hbox (c := ?_); clear HB BK112 hb hbox hg; intro GW113 NB112_113 BK112 HB BK113; refine zt1 NB112_113 fun _ _ => ?_; refine zu5 BK112 fun _ _ _ _ _ _ _ _ _ _ => ?_))
  go_ret
  exact ⟨zaE, zaB⟩
 rw [if_neg c4] at H
 have c4b0 : (a0_1 == a2) = false := beq_eq_false_iff_ne.mpr c4
 have c4b1 : (a0_1 != a2) = true := bne_iff_ne.mpr c4
 obtain rfl := Option.some.inj H
 go_enter Try.func83, Try.ntmps83
 go_wp2_with (first | ((with_reducible refine gtd 3 rfl ?_); refine zbx 3 #[.int .u64 a0_0, .int .u8 a0_1, .bool a0_2, .int .u64 a0_3, .int .i64 a0_4] 88 (h := ?_); intro gb112 hg w9 hbox hb; have GW112 := zkZ hg (zaB (p := Below w.heap.size w _)); replace HB := Aside0.mk (below_step zaB hb); have BK112 := Aside0.mk (hbox); clear hb hbox hg) | ((with_reducible refine gtd 4 rfl ?_); refine zbx 4 #[.int .u64 a1_0, .int .u8 a1_1, .bool a1_2, .int .u64 a1_3, .int .i64 a1_4] 88 (h := ?_); intro gb113 hg w10 hbox hb; refine zbn1 HB BK112 hg hb hbox (c := ?_); clear HB BK112 hb hbox hg; intro GW113 NB112_113 BK112 HB BK113; refine zt1 NB112_113 fun _ _ => ?_; refine zu5 BK112 fun _ _ _ _ _ _ _ _ _ _ => ?_; refine zu5 BK113 fun _ _ _ _ _ _ _ _ _ _ => ?_))
 go_ret
 exact ⟨zaE, zaB⟩
theorem soft_invalid.calls  (r1 : Int) (r2 : Int) (w : World) (h : soft_invalid.f  = some (r1, r2)) :
  Calls Try.prog 84 #[] w fun e w' => e = .returned (.tuple #[.int .u64 r1, .int .u8 r2]) ∧ Drawn0 w w' := by
 have H : ((pattern_Quiet.f).bind fun t114 => (some (t114, 16))) = some (r1, r2) := h
 clear h
 obtain ⟨t114, A1, H⟩ := zbs H
 try dsimp only at H
 simp only [Option.some.injEq, Prod.mk.injEq] at H
 obtain ⟨rfl, rfl⟩ := H
 go_enter Try.func84, Try.ntmps84
 go_wp2_with (first | ((with_reducible refine gtc 81 rfl ?_); refine zgL 2 Try.func81 (pattern_Quiet.calls  t114 _ A1.out) (h := ?_); rintro w' ⟨nd, rfl⟩))
 go_ret2
 exact ⟨by first | rfl | (simp; done) | (simp [*]; done), by repeat (first | exact Drawn0.refl _ | apply Drawn0.step)⟩
theorem bits_Len64.calls (a0 : Int) (r : Int) (w : World) (h : bits_Len64.f a0 = some r) :
  Calls Try.prog 161 #[.int .u64 a0] w fun e w' => e = .returned (.int .i64 r) ∧ Drawn0 w w' := by
 unfold bits_Len64.f at h
 split at h
 ·rename_i g
  obtain rfl := Option.some.inj h
  exact (Try.bits_Len64 a0 w g.1 g.2).mono fun e w' ⟨h1, h2⟩ => ⟨h1, h2 ▸ Drawn0.refl _⟩
 cases h
theorem wide_U128_Len.calls (a0_0 : Int) (a0_1 : Int) (r : Int) (w : World) (h : wide_U128_Len.f a0_0 a0_1 = some r) :
  Calls Try.prog 103 #[.agg #[.int .u64 a0_0, .int .u64 a0_1]] w fun e w' => e = .returned (.int .i64 r) ∧ Below w.heap.size w w' := by
 have hu109 := Try.underlying109
 have HB := Aside0.mk (Below.refl w.heap.size w)
 have H := h
 unfold wide_U128_Len.f at H
 clear h
 by_cases c2 : a0_0 > 0
 ·rw [if_pos c2] at H
  have c2b0 : decide (0 < a0_0) = true := decide_eq_true c2
  clear c2
  obtain ⟨t118, A3, H⟩ := zbs H
  try dsimp only at H
  obtain rfl := Option.some.inj H
  go_enter Try.func103, Try.ntmps103
  go_wp2_with (first | ((with_reducible refine gtd 1 rfl ?_); refine zbx 1 #[.int .u64 a0_0, .int .u64 a0_1] 109 (h := ?_); intro gb117 hg w4 hbox hb; have GW117 := zkZ hg (zaB (p := Below w.heap.size w _)); replace HB := Aside0.mk (below_step zaB hb); have BK117 := Aside0.mk (hbox); clear hb hbox hg; refine zu2 BK117 fun _ _ _ _ => ?_) | ((with_reducible refine gtc 161 rfl ?_); refine zgL 8 Try.func161 (bits_Len64.calls a0_0 t118 _ A3.out) (h := ?_); rintro w' ⟨nd, rfl⟩))
  go_ret
  exact ⟨zaE, zaB⟩
 rw [if_neg c2] at H
 have c2b0 : decide (0 < a0_0) = false := decide_eq_false c2
 clear c2
 obtain ⟨t119, A6, H⟩ := zbs H
 try dsimp only at H
 obtain rfl := Option.some.inj H
 go_enter Try.func103, Try.ntmps103
 go_wp2_with (first | ((with_reducible refine gtd 1 rfl ?_); refine zbx 1 #[.int .u64 a0_0, .int .u64 a0_1] 109 (h := ?_); intro gb117 hg w7 hbox hb; have GW117 := zkZ hg (zaB (p := Below w.heap.size w _)); replace HB := Aside0.mk (below_step zaB hb); have BK117 := Aside0.mk (hbox); clear hb hbox hg; refine zu2 BK117 fun _ _ _ _ => ?_) | ((with_reducible refine gtc 161 rfl ?_); refine zgL 12 Try.func161 (bits_Len64.calls a0_1 t119 _ A6.out) (h := ?_); rintro w' ⟨nd, rfl⟩))
 go_ret
 exact ⟨zaE, zaB⟩
theorem eqA109 (d : Nat) (w : World) (x0 y0 : Int) (x1 y1 : Int) :
  (Op.equalIn (d + 2) 109 (.agg #[.int .u64 x0, .int .u64 x1]) (.agg #[.int .u64 y0, .int .u64 y1])).run Try.prog w = .ok (x0 == y0 && (x1 == y1)) w := by
 refine eqA_of Try.underlying109 (by kernel_rfl) ?_
 refine eqf_cons (by rfl) (by go_simp; rfl) (by go_simp; rfl) (by go_simp) ?_
 exact eqf_last (by rfl) (by go_simp; rfl) (by go_simp; rfl) (by go_simp)
end Go.Proofs.Ytmadjhmecfbcmaa.F
end
section
namespace Go.Proofs.Ytmadjhmecfbcmaa.F
open Go.RowKit Go.Proofs.YtmadjhmecfbcmaaW.PrintWords Go.Proofs.YtmadjhmecfbcmaaW.PrintLast Go.Proofs.YtmadjhmecfbcmaaW.PrintMore
attribute [local go_sem] max2_int min2_int max_two min_two max_three min_three max_four min_four
set_option linter.unusedVariables false
set_option linter.unusedSimpArgs false
set_option maxHeartbeats 8000000
set_option maxRecDepth 100000
attribute [local go_sem high] eqA109
def wide_U128_Shl.T8 : Bool × List (List Nat × List Nat) := (true, [([], []), ([0], [0]), ([], []), ([1, 2], [1, 2]), ([], []), ([4], [4]), ([], []), ([6], [6]), ([5, 7], [5, 7]), ([3, 8], [3, 8]), ([], []), ([10], [10]), ([], []), ([11, 12], [11, 12]), ([9, 13], [9, 13]), ([14, 0, 1, 2, 3, 4, 5, 6, 7, 8, 9, 10, 11, 12, 13, 14], [14])])
def wide_U128_Shl.B8 : List Nat := [0, 1, 0, 7, 0, 16, 0, 64, 240, 511, 0, 1024, 0, 7168, 16383, 32767]
theorem wide_U128_Shl.tab8 : rtab .any (opsOf Try.f106 8) = wide_U128_Shl.T8 := by kernel_rfl
theorem wide_U128_Shl.bits8 : waitsOk wide_U128_Shl.T8.2 wide_U128_Shl.B8 = true := by kernel_rfl
theorem wide_U128_Shl.calls (k : Nat) (a0_0 : Int) (a0_1 : Int) (a1 : Int) (r1 : Int) (r2 : Int) (w : World) (h : wide_U128_Shl.f k a0_0 a0_1 a1 = some (r1, r2)) :
  Calls Try.prog 106 #[.agg #[.int .u64 a0_0, .int .u64 a0_1], .int .i64 a1] w fun e w' => e = .returned (.agg #[.int .u64 r1, .int .u64 r2]) ∧ Below w.heap.size w w' := by
 have hu109 := Try.underlying109
 have HB := Aside0.mk (Below.refl w.heap.size w)
 have H : (wide_U128_Shl.l0 k a1 a0_0 a0_1) = some (r1, r2) := h
 clear h
 have H' := Aside0.mk H
 clear H
 go_enter Try.func106, Try.ntmps106
 go_wp2_with (first | ((with_reducible refine gtd 2 rfl ?_); refine zbx 2 #[.int .u64 a0_0, .int .u64 a0_1] 109 (h := ?_); intro gb120 hg w3 hbox hb; have GW120 := zkZ hg (zaB (p := Below w.heap.size w _)); replace HB := Aside0.mk (below_step zaB hb); have BK120 := Aside0.mk (hbox); clear hb hbox hg) | ((with_reducible refine gtd 4 rfl ?_); refine zbx 4 #[.int .u64 0, .int .u64 0] 109 (h := ?_); intro gb121 hg w4 hbox hb; refine zbn1 HB BK120 hg hb hbox (c := ?_); clear HB BK120 hb hbox hg; intro GW121 NB120_121 BK120 HB BK121))
 (try simp only [Act.put, List.setIfInBounds_toArray, List.set_cons_zero, List.set_cons_succ])
 go_loopg [1] k (fun kq v1 w' => ∃ (x1_1 : Int) (x121000_1 : Int) (x121001_1 : Int) (x122000_1 : Int) (x122001_1 : Int), v1 = .int .i64 x1_1 ∧ Aside0 (wide_U128_Shl.l0 kq x1_1 x121000_1 x121001_1 = some (r1, r2)) ∧ Aside0 (kq ≤ k) ∧ Aside0 (w'.heap[gb120]? = some (.cells #[.int .u64 x121000_1, .int .u64 x121001_1] 109 (0, 0))) ∧ Aside0 (w'.heap[gb121]? = some (.cells #[.int .u64 x122000_1, .int .u64 x122001_1] 109 (0, 0))) ∧ Aside0 (Below w.heap.size w w'))
 case atStart => exact ⟨(a1), (a0_0), (a0_1), (0), (0), zrl, H', ⟨Nat.le_refl _⟩, ⟨zkq BK120⟩, ⟨zkq BK121⟩, ⟨zaB⟩⟩
 case round =>
  clear H'
  obtain ⟨x1_1, x121000_1, x121001_1, x122000_1, x122001_1, rfl, HA, HK1, BK120, BK121, HB⟩ := hrel
  cases gk with
  | zero => exact absurd HA.out (by simp [wide_U128_Shl.l0])
  | succ k1 =>
   have H := HA.out
   clear HA
   simp only [wide_U128_Shl.l0] at H
   by_cases c5 : x1_1 ≥ 64
   ·rw [if_pos c5] at H
    have c5b0 : decide (64 ≤ x1_1) = true := decide_eq_true c5
    clear c5
    by_cases c6 : (x121001_1 == 0) = true
    ·rw [if_pos c6] at H
     have c6b0 : (x121001_1 == 0) = true := c6
     (try (have c6b1 : decide (x121001_1 = 0) = true := by simpa using c6))
     (try (have c6b2 : (x121001_1 == 0) = true := by simpa using c6))
     clear c6
     simp only [Option.some.injEq, Prod.mk.injEq] at H
     obtain ⟨rfl, rfl⟩ := H
     refine zt1 NB120_121 fun _ _ => ?_
     refine zu2 BK120 fun _ _ _ _ => ?_
     refine zu2 BK121 fun _ _ _ _ => ?_
     go_wp2
     refine bodyPost_ret (results_cell_row rfl _ _ gb121 109 #[.int .u64 x121001_1, .int .u64 0] (0, 0) _ rfl (blk_put (cs := #[.int .u64 x121001_1, .int .u64 x122001_1]) (blk_put (zkf (zkf (zkq BK121) (zks NB120_121).out _) (zks NB120_121).out _) 0 _ rfl) 1 _ rfl) Try.underlying109 rfl (by kernel_rfl)) rfl ?_
     exact ⟨zaE, zaB⟩
    rw [if_neg c6] at H
    have c6b0 : (x121001_1 == 0) = false := by simpa using c6
    (try (have c6b1 : decide (x121001_1 = 0) = false := by simpa using c6))
    (try (have c6b2 : (x121001_1 == 0) = false := by simpa using c6))
    (try (have c6b3 : ¬ (x121001_1 = 0) := by simpa using c6))
    clear c6
    have H' := Aside0.mk H
    clear H
    refine zt1 NB120_121 fun _ _ => ?_
    refine zu2 BK120 fun _ _ _ _ => ?_
    go_wp2
    go_roundg k1
    case measure => have := HK1.out; omega
    case rel => exact ⟨(wrap64 (x1_1 - 64)), (x121001_1), (0), (x122000_1), (x122001_1), zrl, H', ⟨by have := HK1.out; omega⟩, ⟨(blk_put (cs := #[.int .u64 x121001_1, .int .u64 x121001_1]) (blk_put (zkq BK120) 0 _ rfl) 1 _ rfl)⟩, ⟨(zkf (zkf (zkq BK121) (zks NB120_121).out _) (zks NB120_121).out _)⟩, ⟨zaB⟩⟩
   rw [if_neg c5] at H
   have c5b0 : decide (64 ≤ x1_1) = false := decide_eq_false c5
   clear c5
   by_cases c12 : x1_1 ≤ 0
   ·rw [if_pos c12] at H
    have c12b0 : decide (x1_1 ≤ 0) = true := decide_eq_true c12
    clear c12
    simp only [Option.some.injEq, Prod.mk.injEq] at H
    obtain ⟨rfl, rfl⟩ := H
    refine zt1 NB120_121 fun _ _ => ?_
    refine zu2 BK120 fun _ _ _ _ => ?_
    refine zu2 BK121 fun _ _ _ _ => ?_
    go_wp2
    refine bodyPost_ret (results_cell_row rfl _ _ gb121 109 #[.int .u64 x121000_1, .int .u64 x121001_1] (0, 0) _ rfl (blk_put (cs := #[.int .u64 x121000_1, .int .u64 x122001_1]) (blk_put (zkq BK121) 0 _ rfl) 1 _ rfl) Try.underlying109 rfl (by kernel_rfl)) rfl ?_
    exact ⟨zaE, zaB⟩
   rw [if_neg c12] at H
   have c12b0 : decide (x1_1 ≤ 0) = false := decide_eq_false c12
   clear c12
   by_cases c16 : 0 ≤ x1_1
   ·rw [if_pos c16] at H
    have c16b0 := eq_true c16
    have c16b1 : decide (0 ≤ x1_1) = true := decide_eq_true c16
    clear c16
    obtain ⟨ji17, hji17⟩ : ∃ j_ : Int, (shl .u64 x121000_1 x1_1) = j_ := ⟨_, rfl⟩
    replace H : (if 0 ≤ (wrap64 (64 - x1_1)) then (some (Go.bits .or .u64 (ji17) (shr .u64 x121001_1 (wrap64 (64 - x1_1))), shl .u64 x121001_1 x1_1)) else (none)) = some (r1, r2) := by first | (rw [hji17] at H; exact H) | (simp only [hji17] at H ⊢; exact H)
    have hji17_ : (IntKind.u64.wrap (x121000_1 * 2 ^ min x1_1.toNat 64)) = ji17 := hji17
    have hji17z : x1_1 ≤ 64 → (IntKind.u64.wrap (x121000_1 * 2 ^ x1_1.toNat)) = ji17 := shl_small hji17
    obtain ⟨ji18, hji18⟩ : ∃ j_ : Int, (wrap64 (64 - x1_1)) = j_ := ⟨_, rfl⟩
    replace H : (if 0 ≤ (ji18) then (some (Go.bits .or .u64 (ji17) (shr .u64 x121001_1 (ji18)), shl .u64 x121001_1 x1_1)) else (none)) = some (r1, r2) := by first | (rw [hji18] at H; exact H) | (simp only [hji18] at H ⊢; exact H)
    have hji18w : (IntKind.i64.wrap (64 - x1_1)) = ji18 := (i64_w _).trans hji18
    by_cases c19 : 0 ≤ (ji18)
    ·rw [if_pos c19] at H
     have c19b0 := eq_true c19
     have c19b1 : decide (0 ≤ (ji18)) = true := decide_eq_true c19
     clear c19
     obtain ⟨ji20, hji20⟩ : ∃ j_ : Int, (shr .u64 x121001_1 (ji18)) = j_ := ⟨_, rfl⟩
     replace H : (some (Go.bits .or .u64 (ji17) (ji20), shl .u64 x121001_1 x1_1)) = some (r1, r2) := by first | (rw [hji20] at H; exact H) | (simp only [hji20] at H ⊢; exact H)
     have hji20_ : (x121001_1 / 2 ^ min (ji18).toNat 64) = ji20 := hji20
     have hji20z : (ji18) ≤ 64 → (x121001_1 / 2 ^ (ji18).toNat) = ji20 := shr_small hji20
     have c21b0 := eq_true (of_decide_eq_true (by first | (with_reducible assumption) | assumption) : 0 ≤ x1_1)
     obtain ⟨ji22, hji22⟩ : ∃ j_ : Int, (shl .u64 x121001_1 x1_1) = j_ := ⟨_, rfl⟩
     replace H : (some (Go.bits .or .u64 (ji17) (ji20), ji22)) = some (r1, r2) := by first | (rw [hji22] at H; exact H) | (simp only [hji22] at H ⊢; exact H)
     have hji22_ : (IntKind.u64.wrap (x121001_1 * 2 ^ min x1_1.toNat 64)) = ji22 := hji22
     have hji22z : x1_1 ≤ 64 → (IntKind.u64.wrap (x121001_1 * 2 ^ x1_1.toNat)) = ji22 := shl_small hji22
     simp only [Option.some.injEq, Prod.mk.injEq] at H
     obtain ⟨rfl, rfl⟩ := H
     try go_wp2
     replace BK120 := Aside0.mk (blk_drew BK120.out)
     replace BK121 := Aside0.mk (blk_drew BK121.out)
     replace HB := Aside0.mk (below_drew1 HB.out)
     refine start_ (n := 16) (S := fun w' => w'.cell? ⟨gb120, 0, none⟩ = some (.int .u64 x121000_1) ∧ w'.cell? ⟨gb120, 1, none⟩ = some (.int .u64 x121001_1)) (ds := []) #[false, false, false, false, false, false, false, false, false, false, false, false, false, false, false, false] (by kernel_rfl) rfl rfl (ze2 BK120) (fun hHeld => ?_); refine with_tabW wide_U128_Shl.tab8 wide_U128_Shl.bits8 (fun HT_ HW_ => ?_)
     generalize wr.drew = w23 at BK120 BK121 HB hHeld ⊢
     refine zpA 0 19 (h := ?_)
     refine zpA 2 21 (h := ?_)
     refine zpA 4 23 (h := ?_)
     refine zpA 6 25 (h := ?_)
     refine zpA 7 26 (h := ?_)
     refine zpA 10 29 (h := ?_)
     refine zpA 12 31 (h := ?_)
     refine ztA 1 20 (h := ?_)
     refine zpA 3 22 (h := ?_)
     refine ztA 5 24 (h := ?_)
     refine zpA 8 27 (h := ?_)
     refine zpA 9 28 (h := ?_)
     refine ztA 11 30 (h := ?_)
     refine zpA 13 32 (h := ?_)
     refine zpA 14 33 (h := ?_)
     refine one_ (i := 15) (N := none) #[true, true, true, true, true, true, true, true, true, true, true, true, true, true, true, true] rfl rfl (one_of HT_.out (by kernel_rfl)) (by decide) (fun K hK => ?_)
     have hs24 := zc0 BK121
     have hfs24 := blk_frozen BK121.out 0
     refine zt1 NB120_121 fun _ _ => ?_
     have hs25 := zc1 BK121
     have hfs25 := blk_frozen BK121.out 1
     refine zt1 NB120_121 fun _ _ => ?_
     refine skip_ (w1 := ?_) (by rfl) rfl ?_ ?_
     rotate_left
     ·go_simp
      rfl
     refine hK.out _ _ ⟨(zff NB120_121 (zff NB120_121 hHeld.1)), (zff NB120_121 (zff NB120_121 hHeld.2))⟩ (fun hHeld => ?_)
     clear hK K
     refine done_ (done_of HT_.out (by kernel_rfl)) ?_
     try go_wp2
     refine bodyPost_ret (results_cell_row rfl _ _ gb121 109 #[.int .u64 (Go.bits .or .u64 (ji17) (ji20)), .int .u64 ji22] (0, 0) _ rfl (blk_put (cs := #[.int .u64 (Go.bits .or .u64 (ji17) (ji20)), .int .u64 x122001_1]) (blk_put (zkq BK121) 0 _ rfl) 1 _ rfl) Try.underlying109 rfl (by kernel_rfl)) rfl ?_
     exact ⟨by first | rfl | (simp [errW_none, errW_some] <;> rfl) | (simp only [← hji17, ← hji18, ← hji20, ← hji22]; first | rfl | (simp [errW_none, errW_some] <;> rfl)) | (simp [*, errW_none, errW_some] <;> rfl), zaB⟩
    rw [if_neg c19] at H
    exact absurd H (by simp)
   rw [if_neg c16] at H
   exact absurd H (by simp)
def wide_U128_Shr.T10 : Bool × List (List Nat × List Nat) := (true, [([], []), ([0], [0]), ([], []), ([1, 2], [1, 2]), ([], []), ([4], [4]), ([], []), ([5, 6], [5, 6]), ([], []), ([8], [8]), ([], []), ([10], [10]), ([9, 11], [9, 11]), ([7, 12], [7, 12]), ([3, 13], [3, 13]), ([], []), ([15], [15]), ([16], [16]), ([17, 16], [16, 17]), ([16], [16]), ([19, 16], [16, 19]), ([18, 20, 16], [16, 18, 20]), ([21, 16], [16, 21]), ([16, 22], [16, 22]), ([14, 16, 0, 1, 2, 3, 4, 5, 6, 7, 8, 9, 10, 11, 12, 13, 14], [14]), ([23, 24, 0, 1, 2, 3, 4, 5, 6, 7, 8, 9, 10, 11, 12, 13, 14, 15, 16, 17, 18, 19, 20, 21, 22, 23, 24], [23])])
def wide_U128_Shr.B10 : List Nat := [0, 1, 0, 7, 0, 16, 0, 112, 0, 256, 0, 1024, 3840, 8176, 16383, 0, 32768, 98304, 229376, 98304, 622592, 2064384, 4161536, 8355840, 131071, 33554431]
theorem wide_U128_Shr.tab10 : rtab .any (opsOf Try.f151 10) = wide_U128_Shr.T10 := by kernel_rfl
theorem wide_U128_Shr.bits10 : waitsOk wide_U128_Shr.T10.2 wide_U128_Shr.B10 = true := by kernel_rfl
theorem wide_U128_Shr.calls (k : Nat) (a0_0 : Int) (a0_1 : Int) (a1 : Int) (r1 : Int) (r2 : Int) (r3 : Bool) (w : World) (h : wide_U128_Shr.f k a0_0 a0_1 a1 = some (r1, r2, r3)) :
  Calls Try.prog 151 #[.agg #[.int .u64 a0_0, .int .u64 a0_1], .int .i64 a1] w fun e w' => e = .returned (.tuple #[.agg #[.int .u64 r1, .int .u64 r2], .bool r3]) ∧ Below w.heap.size w w' := by
 have hu109 := Try.underlying109
 have HB := Aside0.mk (Below.refl w.heap.size w)
 have H : (wide_U128_Shr.l0 k a1 false a0_0 a0_1) = some (r1, r2, r3) := h
 clear h
 have H' := Aside0.mk H
 clear H
 go_enter Try.func151, Try.ntmps151
 go_wp2_with (first | ((with_reducible refine gtd 2 rfl ?_); refine zbx 2 #[.int .u64 a0_0, .int .u64 a0_1] 109 (h := ?_); intro gb122 hg w3 hbox hb; have GW122 := zkZ hg (zaB (p := Below w.heap.size w _)); replace HB := Aside0.mk (below_step zaB hb); have BK122 := Aside0.mk (hbox); clear hb hbox hg) | ((with_reducible refine gtd 4 rfl ?_); refine zbx 4 #[.int .u64 0, .int .u64 0] 109 (h := ?_); intro gb123 hg w4 hbox hb; refine zbn1 HB BK122 hg hb hbox (c := ?_); clear HB BK122 hb hbox hg; intro GW123 NB122_123 BK122 HB BK123))
 (try simp only [Act.put, List.setIfInBounds_toArray, List.set_cons_zero, List.set_cons_succ])
 go_loopg [1, 6] k (fun kq v1 v6 w' => ∃ (x1_1 : Int) (x6_1 : Bool) (x123000_1 : Int) (x123001_1 : Int) (x124000_1 : Int) (x124001_1 : Int), v1 = .int .i64 x1_1 ∧ v6 = .bool x6_1 ∧ Aside0 (wide_U128_Shr.l0 kq x1_1 x6_1 x123000_1 x123001_1 = some (r1, r2, r3)) ∧ Aside0 (kq ≤ k) ∧ Aside0 (w'.heap[gb122]? = some (.cells #[.int .u64 x123000_1, .int .u64 x123001_1] 109 (0, 0))) ∧ Aside0 (w'.heap[gb123]? = some (.cells #[.int .u64 x124000_1, .int .u64 x124001_1] 109 (0, 0))) ∧ Aside0 (Below w.heap.size w w'))
 case atStart => exact ⟨(a1), (false), (a0_0), (a0_1), (0), (0), zrl, zrl, H', ⟨Nat.le_refl _⟩, ⟨zkq BK122⟩, ⟨zkq BK123⟩, ⟨zaB⟩⟩
 case round =>
  clear H'
  obtain ⟨x1_1, x6_1, x123000_1, x123001_1, x124000_1, x124001_1, rfl, rfl, HA, HK1, BK122, BK123, HB⟩ := hrel
  cases gk with
  | zero => exact absurd HA.out (by simp [wide_U128_Shr.l0])
  | succ k1 =>
   have H := HA.out
   clear HA
   simp only [wide_U128_Shr.l0] at H
   by_cases c5 : x1_1 ≥ 64
   ·rw [if_pos c5] at H
    have c5b0 : decide (64 ≤ x1_1) = true := decide_eq_true c5
    clear c5
    by_cases c6 : x6_1 = true
    ·subst c6
     replace H := zit H
     by_cases c7 : (x123000_1 == 0) = true
     ·rw [if_pos c7] at H
      have c7b0 : (x123000_1 == 0) = true := c7
      (try (have c7b1 : decide (x123000_1 = 0) = true := by simpa using c7))
      (try (have c7b2 : (x123000_1 == 0) = true := by simpa using c7))
      clear c7
      simp only [Option.some.injEq, Prod.mk.injEq] at H
      obtain ⟨rfl, rfl, rfl⟩ := H
      refine zt1 NB122_123 fun _ _ => ?_
      refine zu2 BK122 fun _ _ _ _ => ?_
      refine zu2 BK123 fun _ _ _ _ => ?_
      go_wp2
      refine bodyPost_ret (results_ct rfl _ _ gb123 109 #[.int .u64 0, .int .u64 x123000_1] (0, 0) _ rfl (blk_put (cs := #[.int .u64 0, .int .u64 x124001_1]) (blk_put (zkf (zkf (zkq BK123) (zks NB122_123).out _) (zks NB122_123).out _) 0 _ rfl) 1 _ rfl) Try.underlying109 rfl (by kernel_rfl)) rfl ?_
      exact ⟨zaE, zaB⟩
     rw [if_neg c7] at H
     have c7b0 : (x123000_1 == 0) = false := by simpa using c7
     (try (have c7b1 : decide (x123000_1 = 0) = false := by simpa using c7))
     (try (have c7b2 : (x123000_1 == 0) = false := by simpa using c7))
     (try (have c7b3 : ¬ (x123000_1 = 0) := by simpa using c7))
     clear c7
     have H' := Aside0.mk H
     clear H
     refine zt1 NB122_123 fun _ _ => ?_
     refine zu2 BK122 fun _ _ _ _ => ?_
     go_wp2
     go_roundg k1
     case measure => have := HK1.out; omega
     case rel => exact ⟨(wrap64 (x1_1 - 64)), (true), (0), (x123000_1), (x124000_1), (x124001_1), zrl, zrl, H', ⟨by have := HK1.out; omega⟩, ⟨(blk_put (cs := #[.int .u64 0, .int .u64 x123001_1]) (blk_put (zkq BK122) 0 _ rfl) 1 _ rfl)⟩, ⟨(zkf (zkf (zkq BK123) (zks NB122_123).out _) (zks NB122_123).out _)⟩, ⟨zaB⟩⟩
    replace c6 := Bool.eq_false_iff.mpr c6
    subst c6
    replace H := zif H
    by_cases c13 : (x123000_1 == 0) = true
    ·rw [if_pos c13] at H
     have c13b0 : (x123000_1 == 0) = true := c13
     (try (have c13b1 : decide (x123000_1 = 0) = true := by simpa using c13))
     (try (have c13b2 : (x123000_1 == 0) = true := by simpa using c13))
     clear c13
     simp only [Option.some.injEq, Prod.mk.injEq] at H
     obtain ⟨rfl, rfl, rfl⟩ := H
     refine zt1 NB122_123 fun _ _ => ?_
     refine zu2 BK122 fun _ _ _ _ => ?_
     refine zu2 BK123 fun _ _ _ _ => ?_
     go_wp2
     refine bodyPost_ret (results_ct rfl _ _ gb123 109 #[.int .u64 0, .int .u64 x123000_1] (0, 0) _ rfl (blk_put (cs := #[.int .u64 0, .int .u64 x124001_1]) (blk_put (zkf (zkf (zkq BK123) (zks NB122_123).out _) (zks NB122_123).out _) 0 _ rfl) 1 _ rfl) Try.underlying109 rfl (by kernel_rfl)) rfl ?_
     exact ⟨zaE, zaB⟩
    rw [if_neg c13] at H
    have c13b0 : (x123000_1 == 0) = false := by simpa using c13
    (try (have c13b1 : decide (x123000_1 = 0) = false := by simpa using c13))
    (try (have c13b2 : (x123000_1 == 0) = false := by simpa using c13))
    (try (have c13b3 : ¬ (x123000_1 = 0) := by simpa using c13))
    clear c13
    have H' := Aside0.mk H
    clear H
    refine zt1 NB122_123 fun _ _ => ?_
    refine zu2 BK122 fun _ _ _ _ => ?_
    go_wp2
    go_roundg k1
    case measure => have := HK1.out; omega
    case rel => exact ⟨(wrap64 (x1_1 - 64)), ((x123001_1 != 0)), (0), (x123000_1), (x124000_1), (x124001_1), zrl, zrl, H', ⟨by have := HK1.out; omega⟩, ⟨(blk_put (cs := #[.int .u64 0, .int .u64 x123001_1]) (blk_put (zkq BK122) 0 _ rfl) 1 _ rfl)⟩, ⟨(zkf (zkf (zkq BK123) (zks NB122_123).out _) (zks NB122_123).out _)⟩, ⟨zaB⟩⟩
   rw [if_neg c5] at H
   have c5b0 : decide (64 ≤ x1_1) = false := decide_eq_false c5
   clear c5
   by_cases c19 : x1_1 ≤ 0
   ·rw [if_pos c19] at H
    have c19b0 : decide (x1_1 ≤ 0) = true := decide_eq_true c19
    clear c19
    simp only [Option.some.injEq, Prod.mk.injEq] at H
    obtain ⟨rfl, rfl, rfl⟩ := H
    refine zt1 NB122_123 fun _ _ => ?_
    refine zu2 BK122 fun _ _ _ _ => ?_
    refine zu2 BK123 fun _ _ _ _ => ?_
    go_wp2
    refine bodyPost_ret (results_ct rfl _ _ gb123 109 #[.int .u64 x123000_1, .int .u64 x123001_1] (0, 0) _ rfl (blk_put (cs := #[.int .u64 x123000_1, .int .u64 x124001_1]) (blk_put (zkq BK123) 0 _ rfl) 1 _ rfl) Try.underlying109 rfl (by kernel_rfl)) rfl ?_
    exact ⟨zaE, zaB⟩
   rw [if_neg c19] at H
   have c19b0 : decide (x1_1 ≤ 0) = false := decide_eq_false c19
   clear c19
   by_cases c23 : 0 ≤ x1_1
   ·rw [if_pos c23] at H
    have c23b0 := eq_true c23
    have c23b1 : decide (0 ≤ x1_1) = true := decide_eq_true c23
    clear c23
    obtain ⟨ji24, hji24⟩ : ∃ j_ : Int, (shr .u64 x123000_1 x1_1) = j_ := ⟨_, rfl⟩
    replace H : (if 0 ≤ (wrap64 (64 - x1_1)) then (if x6_1 = true then (some (ji24, Go.bits .or .u64 (shr .u64 x123001_1 x1_1) (shl .u64 x123000_1 (wrap64 (64 - x1_1))), true)) else (some (ji24, Go.bits .or .u64 (shr .u64 x123001_1 x1_1) (shl .u64 x123000_1 (wrap64 (64 - x1_1))), ((shl .u64 x123001_1 (wrap64 (64 - x1_1))) != 0)))) else (none)) = some (r1, r2, r3) := by first | (rw [hji24] at H; exact H) | (simp only [hji24] at H ⊢; exact H)
    have hji24_ : (x123000_1 / 2 ^ min x1_1.toNat 64) = ji24 := hji24
    have hji24z : x1_1 ≤ 64 → (x123000_1 / 2 ^ x1_1.toNat) = ji24 := shr_small hji24
    have c25b0 := eq_true (of_decide_eq_true (by first | (with_reducible assumption) | assumption) : 0 ≤ x1_1)
    obtain ⟨ji26, hji26⟩ : ∃ j_ : Int, (shr .u64 x123001_1 x1_1) = j_ := ⟨_, rfl⟩
    replace H : (if 0 ≤ (wrap64 (64 - x1_1)) then (if x6_1 = true then (some (ji24, Go.bits .or .u64 (ji26) (shl .u64 x123000_1 (wrap64 (64 - x1_1))), true)) else (some (ji24, Go.bits .or .u64 (ji26) (shl .u64 x123000_1 (wrap64 (64 - x1_1))), ((shl .u64 x123001_1 (wrap64 (64 - x1_1))) != 0)))) else (none)) = some (r1, r2, r3) := by first | (rw [hji26] at H; exact H) | (simp only [hji26] at H ⊢; exact H)
    have hji26_ : (x123001_1 / 2 ^ min x1_1.toNat 64) = ji26 := hji26
    have hji26z : x1_1 ≤ 64 → (x123001_1 / 2 ^ x1_1.toNat) = ji26 := shr_small hji26
    obtain ⟨ji27, hji27⟩ : ∃ j_ : Int, (wrap64 (64 - x1_1)) = j_ := ⟨_, rfl⟩
    replace H : (if 0 ≤ (ji27) then (if x6_1 = true then (some (ji24, Go.bits .or .u64 (ji26) (shl .u64 x123000_1 (ji27)), true)) else (some (ji24, Go.bits .or .u64 (ji26) (shl .u64 x123000_1 (ji27)), ((shl .u64 x123001_1 (ji27)) != 0)))) else (none)) = some (r1, r2, r3) := by first | (rw [hji27] at H; exact H) | (simp only [hji27] at H ⊢; exact H)
    have hji27w : (IntKind.i64.wrap (64 - x1_1)) = ji27 := (i64_w _).trans hji27
    by_cases c28 : 0 ≤ (ji27)
    ·rw [if_pos c28] at H
     have c28b0 := eq_true c28
     have c28b1 : decide (0 ≤ (ji27)) = true := decide_eq_true c28
     clear c28
     obtain ⟨ji29, hji29⟩ : ∃ j_ : Int, (shl .u64 x123000_1 (ji27)) = j_ := ⟨_, rfl⟩
     replace H : (if x6_1 = true then (some (ji24, Go.bits .or .u64 (ji26) (ji29), true)) else (some (ji24, Go.bits .or .u64 (ji26) (ji29), ((shl .u64 x123001_1 (ji27)) != 0)))) = some (r1, r2, r3) := by first | (rw [hji29] at H; exact H) | (simp only [hji29] at H ⊢; exact H)
     have hji29_ : (IntKind.u64.wrap (x123000_1 * 2 ^ min (ji27).toNat 64)) = ji29 := hji29
     have hji29z : (ji27) ≤ 64 → (IntKind.u64.wrap (x123000_1 * 2 ^ (ji27).toNat)) = ji29 := shl_small hji29
     by_cases c30 : x6_1 = true
     ·subst c30
      replace H := zit H
      simp only [Option.some.injEq, Prod.mk.injEq] at H
      obtain ⟨rfl, rfl, rfl⟩ := H
      try go_wp2
      replace BK122 := Aside0.mk (blk_drew BK122.out)
      replace BK123 := Aside0.mk (blk_drew BK123.out)
      replace HB := Aside0.mk (below_drew1 HB.out)
      refine start_ (n := 26) (S := fun w' => w'.cell? ⟨gb122, 0, none⟩ = some (.int .u64 x123000_1) ∧ w'.cell? ⟨gb122, 1, none⟩ = some (.int .u64 x123001_1)) (ds := []) #[false, false, false, false, false, false, false, false, false, false, false, false, false, false, false, false, false, false, false, false, false, false, false, false, false, false] (by kernel_rfl) rfl rfl (ze2 BK122) (fun hHeld => ?_); refine with_tabW wide_U128_Shr.tab10 wide_U128_Shr.bits10 (fun HT_ HW_ => ?_)
      generalize wr.drew = w31 at BK122 BK123 HB hHeld ⊢
      refine zpA 0 29 (h := ?_)
      refine zpA 2 31 (h := ?_)
      refine zpA 4 33 (h := ?_)
      refine zpA 6 35 (h := ?_)
      refine zpA 8 37 (h := ?_)
      refine zpA 10 39 (h := ?_)
      refine zpA 11 40 (h := ?_)
      refine zpA 15 44 (h := ?_)
      refine zpA 16 45 (h := ?_)
      refine zpU 17 46 (h := ?_)
      refine zpU 18 47 (h := ?_)
      refine zpU 19 48 (h := ?_)
      refine zpU 20 49 (h := ?_)
      refine zpU 21 50 (h := ?_)
      refine zpU 22 51 (h := ?_)
      refine zpA 23 52 (h := ?_)
      refine ztA 1 30 (h := ?_)
      refine zpA 3 32 (h := ?_)
      refine ztA 5 34 (h := ?_)
      refine zpA 7 36 (h := ?_)
      refine ztA 9 38 (h := ?_)
      refine zpA 12 41 (h := ?_)
      refine zpA 13 42 (h := ?_)
      refine zpA 14 43 (h := ?_)
      refine one_ (i := 24) (N := none) #[true, true, true, true, true, true, true, true, true, true, true, true, true, true, true, true, true, true, true, true, true, true, true, true, true, false] rfl rfl (one_of HT_.out (by kernel_rfl)) (by decide) (fun K hK => ?_)
      have hs32 := zc0 BK123
      have hfs32 := blk_frozen BK123.out 0
      refine zt1 NB122_123 fun _ _ => ?_
      have hs33 := zc1 BK123
      have hfs33 := blk_frozen BK123.out 1
      refine zt1 NB122_123 fun _ _ => ?_
      refine skip_ (w1 := ?_) (by rfl) rfl ?_ ?_
      rotate_left
      ·go_simp
       rfl
      refine hK.out _ _ ⟨(zff NB122_123 (zff NB122_123 hHeld.1)), (zff NB122_123 (zff NB122_123 hHeld.2))⟩ (fun hHeld => ?_)
      clear hK K
      refine zpA 25 5 (h := ?_)
      refine done_ (done_of HT_.out (by kernel_rfl)) ?_
      try go_wp2
      refine bodyPost_ret (results_ct rfl _ _ gb123 109 #[.int .u64 ji24, .int .u64 (Go.bits .or .u64 (ji26) (ji29))] (0, 0) _ rfl (blk_put (cs := #[.int .u64 ji24, .int .u64 x124001_1]) (blk_put (zkq BK123) 0 _ rfl) 1 _ rfl) Try.underlying109 rfl (by kernel_rfl)) rfl ?_
      exact ⟨by first | rfl | (simp [errW_none, errW_some] <;> rfl) | (simp only [← hji24, ← hji26, ← hji27, ← hji29]; first | rfl | (simp [errW_none, errW_some] <;> rfl)) | (simp [*, errW_none, errW_some] <;> rfl), zaB⟩
     replace c30 := Bool.eq_false_iff.mpr c30
     subst c30
     replace H := zif H
     have c34b0 := eq_true (of_decide_eq_true (by first | (with_reducible assumption) | assumption) : 0 ≤ (ji27))
     obtain ⟨ji35, hji35⟩ : ∃ j_ : Int, (shl .u64 x123001_1 (ji27)) = j_ := ⟨_, rfl⟩
     replace H : (some (ji24, Go.bits .or .u64 (ji26) (ji29), ((ji35) != 0))) = some (r1, r2, r3) := by first | (rw [hji35] at H; exact H) | (simp only [hji35] at H ⊢; exact H)
     have hji35_ : (IntKind.u64.wrap (x123001_1 * 2 ^ min (ji27).toNat 64)) = ji35 := hji35
     have hji35z : (ji27) ≤ 64 → (IntKind.u64.wrap (x123001_1 * 2 ^ (ji27).toNat)) = ji35 := shl_small hji35
     simp only [Option.some.injEq, Prod.mk.injEq] at H
     obtain ⟨rfl, rfl, rfl⟩ := H
     try go_wp2
     replace BK122 := Aside0.mk (blk_drew BK122.out)
     replace BK123 := Aside0.mk (blk_drew BK123.out)
     replace HB := Aside0.mk (below_drew1 HB.out)
     refine start_ (n := 26) (S := fun w' => w'.cell? ⟨gb122, 0, none⟩ = some (.int .u64 x123000_1) ∧ w'.cell? ⟨gb122, 1, none⟩ = some (.int .u64 x123001_1)) (ds := []) #[false, false, false, false, false, false, false, false, false, false, false, false, false, false, false, false, false, false, false, false, false, false, false, false, false, false] (by kernel_rfl) rfl rfl (ze2 BK122) (fun hHeld => ?_); refine with_tabW wide_U128_Shr.tab10 wide_U128_Shr.bits10 (fun HT_ HW_ => ?_)
     generalize wr.drew = w36 at BK122 BK123 HB hHeld ⊢
     refine zpA 0 29 (h := ?_)
     refine zpA 2 31 (h := ?_)
     refine zpA 4 33 (h := ?_)
     refine zpA 6 35 (h := ?_)
     refine zpA 8 37 (h := ?_)
     refine zpA 10 39 (h := ?_)
     refine zpA 11 40 (h := ?_)
     refine zpA 15 44 (h := ?_)
     refine zpA 16 45 (h := ?_)
     refine zpA 17 46 (h := ?_)
     refine zpA 19 48 (h := ?_)
     refine zpA 20 49 (h := ?_)
     refine ztA 1 30 (h := ?_)
     refine zpA 3 32 (h := ?_)
     refine ztA 5 34 (h := ?_)
     refine zpA 7 36 (h := ?_)
     refine ztA 9 38 (h := ?_)
     refine zpA 12 41 (h := ?_)
     refine zpA 13 42 (h := ?_)
     refine zpA 14 43 (h := ?_)
     refine ztA 18 47 (h := ?_)
     refine zpA 21 50 (h := ?_)
     refine zpA 22 51 (h := ?_)
     refine zpA 23 52 (h := ?_)
     refine one_ (i := 24) (N := none) #[true, true, true, true, true, true, true, true, true, true, true, true, true, true, true, true, true, true, true, true, true, true, true, true, true, false] rfl rfl (one_of HT_.out (by kernel_rfl)) (by decide) (fun K hK => ?_)
     have hs37 := zc0 BK123
     have hfs37 := blk_frozen BK123.out 0
     refine zt1 NB122_123 fun _ _ => ?_
     have hs38 := zc1 BK123
     have hfs38 := blk_frozen BK123.out 1
     refine zt1 NB122_123 fun _ _ => ?_
     refine skip_ (w1 := ?_) (by rfl) rfl ?_ ?_
     rotate_left
     ·go_simp
      rfl
     refine hK.out _ _ ⟨(zff NB122_123 (zff NB122_123 hHeld.1)), (zff NB122_123 (zff NB122_123 hHeld.2))⟩ (fun hHeld => ?_)
     clear hK K
     refine zpA 25 5 (h := ?_)
     refine done_ (done_of HT_.out (by kernel_rfl)) ?_
     try go_wp2
     refine bodyPost_ret (results_ct rfl _ _ gb123 109 #[.int .u64 ji24, .int .u64 (Go.bits .or .u64 (ji26) (ji29))] (0, 0) _ rfl (blk_put (cs := #[.int .u64 ji24, .int .u64 x124001_1]) (blk_put (zkq BK123) 0 _ rfl) 1 _ rfl) Try.underlying109 rfl (by kernel_rfl)) rfl ?_
     exact ⟨by first | rfl | (simp [errW_none, errW_some] <;> rfl) | (simp only [← hji24, ← hji26, ← hji27, ← hji29, ← hji35]; first | rfl | (simp [errW_none, errW_some] <;> rfl)) | (simp [*, errW_none, errW_some] <;> rfl), zaB⟩
    rw [if_neg c28] at H
    exact absurd H (by simp)
   rw [if_neg c23] at H
   exact absurd H (by simp)
end Go.Proofs.Ytmadjhmecfbcmaa.F
end
section
namespace Go.Proofs.Ytmadjhmecfbcmaa.F
open Go.RowKit Go.Proofs.YtmadjhmecfbcmaaW.PrintWords Go.Proofs.YtmadjhmecfbcmaaW.PrintLast Go.Proofs.YtmadjhmecfbcmaaW.PrintMore
attribute [local go_sem] max2_int min2_int max_two min_two max_three min_three max_four min_four
set_option linter.unusedVariables false
set_option linter.unusedSimpArgs false
set_option maxHeartbeats 8000000
set_option maxRecDepth 100000
theorem round_number_away.calls (a0_0 : Bool) (a0_1 : Int) (a0_2 : Int) (a0_3 : Int) (a0_4 : Bool) (a1 : Int) (r : Bool) (w : World) (h : round_number_away.f a0_0 a0_1 a0_2 a0_3 a0_4 a1 = some r) :
  Calls Try.prog 200 #[.agg #[.bool a0_0, .int .u64 a0_1, .int .u64 a0_2, .int .i64 a0_3, .bool a0_4], .int .u8 a1] w fun e w' => e = .returned (.bool r) ∧ Below w.heap.size w w' := by
 have hu151 := Try.underlying151
 have HB := Aside0.mk (Below.refl w.heap.size w)
 have H := h
 unfold round_number_away.f at H
 clear h
 by_cases c3 : a1 = 1
 ·rw [if_pos c3] at H
  have c3b0 : (a1 == 1) = true := beq_iff_eq.mpr c3
  have c3b1 : (a1 != 1) = false := bne_eq_false_iff_eq.mpr c3
  clear c3
  by_cases c4 : a0_0 = true
  ·subst c4
   replace H := zit H
   by_cases c5 : a1 = 2
   ·rw [if_pos c5] at H
    have c5b0 : (a1 == 2) = true := beq_iff_eq.mpr c5
    have c5b1 : (a1 != 2) = false := bne_eq_false_iff_eq.mpr c5
    clear c5
    obtain rfl := Option.some.inj H
    go_enter Try.func200, Try.ntmps200
    go_wp2_with (first | ((with_reducible refine gtd 2 rfl ?_); refine zbx 2 #[.bool true, .int .u64 a0_1, .int .u64 a0_2, .int .i64 a0_3, .bool a0_4] 151 (h := ?_); intro gb124 hg w6 hbox hb; have GW124 := zkZ hg (zaB (p := Below w.heap.size w _)); replace HB := Aside0.mk (below_step zaB hb); have BK124 := Aside0.mk (hbox); clear hb hbox hg; refine zu5 BK124 fun _ _ _ _ _ _ _ _ _ _ => ?_))
    go_ret
    exact ⟨zaE, zaB⟩
   rw [if_neg c5] at H
   have c5b0 : (a1 == 2) = false := beq_eq_false_iff_ne.mpr c5
   have c5b1 : (a1 != 2) = true := bne_iff_ne.mpr c5
   obtain rfl := Option.some.inj H
   go_enter Try.func200, Try.ntmps200
   go_wp2_with (first | ((with_reducible refine gtd 2 rfl ?_); refine zbx 2 #[.bool true, .int .u64 a0_1, .int .u64 a0_2, .int .i64 a0_3, .bool a0_4] 151 (h := ?_); intro gb124 hg w8 hbox hb; have GW124 := zkZ hg (zaB (p := Below w.heap.size w _)); replace HB := Aside0.mk (below_step zaB hb); have BK124 := Aside0.mk (hbox); clear hb hbox hg; refine zu5 BK124 fun _ _ _ _ _ _ _ _ _ _ => ?_))
   go_ret
   exact ⟨zaE, zaB⟩
  replace c4 := Bool.eq_false_iff.mpr c4
  subst c4
  replace H := zif H
  obtain rfl := Option.some.inj H
  go_enter Try.func200, Try.ntmps200
  go_wp2_with (first | ((with_reducible refine gtd 2 rfl ?_); refine zbx 2 #[.bool false, .int .u64 a0_1, .int .u64 a0_2, .int .i64 a0_3, .bool a0_4] 151 (h := ?_); intro gb124 hg w10 hbox hb; have GW124 := zkZ hg (zaB (p := Below w.heap.size w _)); replace HB := Aside0.mk (below_step zaB hb); have BK124 := Aside0.mk (hbox); clear hb hbox hg; refine zu5 BK124 fun _ _ _ _ _ _ _ _ _ _ => ?_))
  go_ret
  exact ⟨zaE, zaB⟩
 rw [if_neg c3] at H
 have c3b0 : (a1 == 1) = false := beq_eq_false_iff_ne.mpr c3
 have c3b1 : (a1 != 1) = true := bne_iff_ne.mpr c3
 by_cases c12 : a1 = 2
 ·rw [if_pos c12] at H
  have c12b0 : (a1 == 2) = true := beq_iff_eq.mpr c12
  have c12b1 : (a1 != 2) = false := bne_eq_false_iff_eq.mpr c12
  clear c12
  obtain rfl := Option.some.inj H
  go_enter Try.func200, Try.ntmps200
  go_wp2_with (first | ((with_reducible refine gtd 2 rfl ?_); refine zbx 2 #[.bool a0_0, .int .u64 a0_1, .int .u64 a0_2, .int .i64 a0_3, .bool a0_4] 151 (h := ?_); intro gb124 hg w13 hbox hb; have GW124 := zkZ hg (zaB (p := Below w.heap.size w _)); replace HB := Aside0.mk (below_step zaB hb); have BK124 := Aside0.mk (hbox); clear hb hbox hg; refine zu5 BK124 fun _ _ _ _ _ _ _ _ _ _ => ?_))
  go_ret
  exact ⟨zaE, zaB⟩
 rw [if_neg c12] at H
 have c12b0 : (a1 == 2) = false := beq_eq_false_iff_ne.mpr c12
 have c12b1 : (a1 != 2) = true := bne_iff_ne.mpr c12
 obtain rfl := Option.some.inj H
 go_enter Try.func200, Try.ntmps200
 go_wp2_with (first | ((with_reducible refine gtd 2 rfl ?_); refine zbx 2 #[.bool a0_0, .int .u64 a0_1, .int .u64 a0_2, .int .i64 a0_3, .bool a0_4] 151 (h := ?_); intro gb124 hg w15 hbox hb; have GW124 := zkZ hg (zaB (p := Below w.heap.size w _)); replace HB := Aside0.mk (below_step zaB hb); have BK124 := Aside0.mk (hbox); clear hb hbox hg))
 go_ret
 exact ⟨zaE, zaB⟩
theorem round_number_towards.calls (a0_0 : Bool) (a0_1 : Int) (a0_2 : Int) (a0_3 : Int) (a0_4 : Bool) (a1 : Int) (r : Bool) (w : World) (h : round_number_towards.f a0_0 a0_1 a0_2 a0_3 a0_4 a1 = some r) :
  Calls Try.prog 201 #[.agg #[.bool a0_0, .int .u64 a0_1, .int .u64 a0_2, .int .i64 a0_3, .bool a0_4], .int .u8 a1] w fun e w' => e = .returned (.bool r) ∧ Below w.heap.size w w' := by
 have hu151 := Try.underlying151
 have HB := Aside0.mk (Below.refl w.heap.size w)
 have H := h
 unfold round_number_towards.f at H
 clear h
 by_cases c3 : a1 = 1
 ·rw [if_pos c3] at H
  have c3b0 : (a1 == 1) = true := beq_iff_eq.mpr c3
  have c3b1 : (a1 != 1) = false := bne_eq_false_iff_eq.mpr c3
  clear c3
  by_cases c4 : a0_0 = true
  ·subst c4
   replace H := zit H
   obtain rfl := Option.some.inj H
   go_enter Try.func201, Try.ntmps201
   go_wp2_with (first | ((with_reducible refine gtd 2 rfl ?_); refine zbx 2 #[.bool true, .int .u64 a0_1, .int .u64 a0_2, .int .i64 a0_3, .bool a0_4] 151 (h := ?_); intro gb125 hg w5 hbox hb; have GW125 := zkZ hg (zaB (p := Below w.heap.size w _)); replace HB := Aside0.mk (below_step zaB hb); have BK125 := Aside0.mk (hbox); clear hb hbox hg; refine zu5 BK125 fun _ _ _ _ _ _ _ _ _ _ => ?_))
   go_ret
   exact ⟨zaE, zaB⟩
  replace c4 := Bool.eq_false_iff.mpr c4
  subst c4
  replace H := zif H
  by_cases c7 : a1 = 2
  ·rw [if_pos c7] at H
   have c7b0 : (a1 == 2) = true := beq_iff_eq.mpr c7
   have c7b1 : (a1 != 2) = false := bne_eq_false_iff_eq.mpr c7
   clear c7
   obtain rfl := Option.some.inj H
   go_enter Try.func201, Try.ntmps201
   go_wp2_with (first | ((with_reducible refine gtd 2 rfl ?_); refine zbx 2 #[.bool false, .int .u64 a0_1, .int .u64 a0_2, .int .i64 a0_3, .bool a0_4] 151 (h := ?_); intro gb125 hg w8 hbox hb; have GW125 := zkZ hg (zaB (p := Below w.heap.size w _)); replace HB := Aside0.mk (below_step zaB hb); have BK125 := Aside0.mk (hbox); clear hb hbox hg; refine zu5 BK125 fun _ _ _ _ _ _ _ _ _ _ => ?_))
   go_ret
   exact ⟨zaE, zaB⟩
  rw [if_neg c7] at H
  have c7b0 : (a1 == 2) = false := beq_eq_false_iff_ne.mpr c7
  have c7b1 : (a1 != 2) = true := bne_iff_ne.mpr c7
  obtain rfl := Option.some.inj H
  go_enter Try.func201, Try.ntmps201
  go_wp2_with (first | ((with_reducible refine gtd 2 rfl ?_); refine zbx 2 #[.bool false, .int .u64 a0_1, .int .u64 a0_2, .int .i64 a0_3, .bool a0_4] 151 (h := ?_); intro gb125 hg w10 hbox hb; have GW125 := zkZ hg (zaB (p := Below w.heap.size w _)); replace HB := Aside0.mk (below_step zaB hb); have BK125 := Aside0.mk (hbox); clear hb hbox hg; refine zu5 BK125 fun _ _ _ _ _ _ _ _ _ _ => ?_))
  go_ret
  exact ⟨zaE, zaB⟩
 rw [if_neg c3] at H
 have c3b0 : (a1 == 1) = false := beq_eq_false_iff_ne.mpr c3
 have c3b1 : (a1 != 1) = true := bne_iff_ne.mpr c3
 by_cases c12 : a1 = 2
 ·rw [if_pos c12] at H
  have c12b0 : (a1 == 2) = true := beq_iff_eq.mpr c12
  have c12b1 : (a1 != 2) = false := bne_eq_false_iff_eq.mpr c12
  clear c12
  obtain rfl := Option.some.inj H
  go_enter Try.func201, Try.ntmps201
  go_wp2_with (first | ((with_reducible refine gtd 2 rfl ?_); refine zbx 2 #[.bool a0_0, .int .u64 a0_1, .int .u64 a0_2, .int .i64 a0_3, .bool a0_4] 151 (h := ?_); intro gb125 hg w13 hbox hb; have GW125 := zkZ hg (zaB (p := Below w.heap.size w _)); replace HB := Aside0.mk (below_step zaB hb); have BK125 := Aside0.mk (hbox); clear hb hbox hg; refine zu5 BK125 fun _ _ _ _ _ _ _ _ _ _ => ?_))
  go_ret
  exact ⟨zaE, zaB⟩
 rw [if_neg c12] at H
 have c12b0 : (a1 == 2) = false := beq_eq_false_iff_ne.mpr c12
 have c12b1 : (a1 != 2) = true := bne_iff_ne.mpr c12
 obtain rfl := Option.some.inj H
 go_enter Try.func201, Try.ntmps201
 go_wp2_with (first | ((with_reducible refine gtd 2 rfl ?_); refine zbx 2 #[.bool a0_0, .int .u64 a0_1, .int .u64 a0_2, .int .i64 a0_3, .bool a0_4] 151 (h := ?_); intro gb125 hg w15 hbox hb; have GW125 := zkZ hg (zaB (p := Below w.heap.size w _)); replace HB := Aside0.mk (below_step zaB hb); have BK125 := Aside0.mk (hbox); clear hb hbox hg))
 go_ret
 exact ⟨zaE, zaB⟩
theorem round_number_up.calls (a0_0 : Bool) (a0_1 : Int) (a0_2 : Int) (a0_3 : Int) (a0_4 : Bool) (a1 : Int) (a2 : Bool) (a3 : Bool) (a4 : Bool) (r : Bool) (w : World) (h : round_number_up.f a0_0 a0_1 a0_2 a0_3 a0_4 a1 a2 a3 a4 = some r) :
  Calls Try.prog 184 #[.agg #[.bool a0_0, .int .u64 a0_1, .int .u64 a0_2, .int .i64 a0_3, .bool a0_4], .int .u8 a1, .bool a2, .bool a3, .bool a4] w fun e w' => e = .returned (.bool r) ∧ Below w.heap.size w w' := by
 have hu151 := Try.underlying151
 have HB := Aside0.mk (Below.refl w.heap.size w)
 have H := h
 unfold round_number_up.f at H
 clear h
 obtain ⟨t127, A6, H⟩ := zbs H
 try dsimp only at H
 by_cases c7 : t127 = true
 ·subst c7
  replace H := zit H
  by_cases c8 : a3 = true
  ·subst c8
   replace H := zit H
   obtain rfl := Option.some.inj H
   go_enter Try.func184, Try.ntmps184
   go_wp2_with (first | ((with_reducible refine gtd 5 rfl ?_); refine zbx 5 #[.bool a0_0, .int .u64 a0_1, .int .u64 a0_2, .int .i64 a0_3, .bool a0_4] 151 (h := ?_); intro gb126 hg w9 hbox hb; have GW126 := zkZ hg (zaB (p := Below w.heap.size w _)); replace HB := Aside0.mk (below_step zaB hb); have BK126 := Aside0.mk (hbox); clear hb hbox hg; refine zu5 BK126 fun _ _ _ _ _ _ _ _ _ _ => ?_) | ((with_reducible refine gtc 200 rfl ?_); refine zgL 14 Try.func200 (round_number_away.calls a0_0 a0_1 a0_2 a0_3 a0_4 a1 true _ A6.out) (h := ?_); rintro w11 hb; replace BK126 := zkb BK126 hb; replace HB := zkB HB hb; (try clear hb)))
   go_ret
   exact ⟨zaE, zaB⟩
  replace c8 := Bool.eq_false_iff.mpr c8
  subst c8
  replace H := zif H
  obtain rfl := Option.some.inj H
  go_enter Try.func184, Try.ntmps184
  go_wp2_with (first | ((with_reducible refine gtd 5 rfl ?_); refine zbx 5 #[.bool a0_0, .int .u64 a0_1, .int .u64 a0_2, .int .i64 a0_3, .bool a0_4] 151 (h := ?_); intro gb126 hg w12 hbox hb; have GW126 := zkZ hg (zaB (p := Below w.heap.size w _)); replace HB := Aside0.mk (below_step zaB hb); have BK126 := Aside0.mk (hbox); clear hb hbox hg; refine zu5 BK126 fun _ _ _ _ _ _ _ _ _ _ => ?_) | ((with_reducible refine gtc 200 rfl ?_); refine zgL 14 Try.func200 (round_number_away.calls a0_0 a0_1 a0_2 a0_3 a0_4 a1 true _ A6.out) (h := ?_); rintro w14 hb; replace BK126 := zkb BK126 hb; replace HB := zkB HB hb; (try clear hb)))
  go_ret
  exact ⟨zaE, zaB⟩
 replace c7 := Bool.eq_false_iff.mpr c7
 subst c7
 replace H := zif H
 obtain ⟨t128, A15, H⟩ := zbs H
 try dsimp only at H
 by_cases c16 : t128 = true
 ·subst c16
  replace H := zit H
  obtain rfl := Option.some.inj H
  go_enter Try.func184, Try.ntmps184
  go_wp2_with (first | ((with_reducible refine gtd 5 rfl ?_); refine zbx 5 #[.bool a0_0, .int .u64 a0_1, .int .u64 a0_2, .int .i64 a0_3, .bool a0_4] 151 (h := ?_); intro gb126 hg w17 hbox hb; have GW126 := zkZ hg (zaB (p := Below w.heap.size w _)); replace HB := Aside0.mk (below_step zaB hb); have BK126 := Aside0.mk (hbox); clear hb hbox hg; refine zu5 BK126 fun _ _ _ _ _ _ _ _ _ _ => ?_) | ((with_reducible refine gtc 200 rfl ?_); refine zgL 14 Try.func200 (round_number_away.calls a0_0 a0_1 a0_2 a0_3 a0_4 a1 false _ A6.out) (h := ?_); rintro w19 hb; replace BK126 := zkb BK126 hb; replace HB := zkB HB hb; (try clear hb); refine zu5 BK126 fun _ _ _ _ _ _ _ _ _ _ => ?_) | ((with_reducible refine gtc 201 rfl ?_); refine zgL 22 Try.func201 (round_number_towards.calls a0_0 a0_1 a0_2 a0_3 a0_4 a1 true _ A15.out) (h := ?_); rintro w21 hb; replace BK126 := zkb BK126 hb; replace HB := zkB HB hb; (try clear hb)))
  go_ret
  exact ⟨zaE, zaB⟩
 replace c16 := Bool.eq_false_iff.mpr c16
 subst c16
 replace H := zif H
 by_cases c22 : a3 = true
 ·subst c22
  replace H := zit H
  by_cases c23 : a4 = true
  ·subst c23
   replace H := zit H
   obtain rfl := Option.some.inj H
   go_enter Try.func184, Try.ntmps184
   go_wp2_with (first | ((with_reducible refine gtd 5 rfl ?_); refine zbx 5 #[.bool a0_0, .int .u64 a0_1, .int .u64 a0_2, .int .i64 a0_3, .bool a0_4] 151 (h := ?_); intro gb126 hg w24 hbox hb; have GW126 := zkZ hg (zaB (p := Below w.heap.size w _)); replace HB := Aside0.mk (below_step zaB hb); have BK126 := Aside0.mk (hbox); clear hb hbox hg; refine zu5 BK126 fun _ _ _ _ _ _ _ _ _ _ => ?_) | ((with_reducible refine gtc 200 rfl ?_); refine zgL 14 Try.func200 (round_number_away.calls a0_0 a0_1 a0_2 a0_3 a0_4 a1 false _ A6.out) (h := ?_); rintro w26 hb; replace BK126 := zkb BK126 hb; replace HB := zkB HB hb; (try clear hb); refine zu5 BK126 fun _ _ _ _ _ _ _ _ _ _ => ?_) | ((with_reducible refine gtc 201 rfl ?_); refine zgL 22 Try.func201 (round_number_towards.calls a0_0 a0_1 a0_2 a0_3 a0_4 a1 false _ A15.out) (h := ?_); rintro w28 hb; replace BK126 := zkb BK126 hb; replace HB := zkB HB hb; (try clear hb)))
   go_ret
   exact ⟨zaE, zaB⟩
  replace c23 := Bool.eq_false_iff.mpr c23
  subst c23
  replace H := zif H
  obtain rfl := Option.some.inj H
  go_enter Try.func184, Try.ntmps184
  go_wp2_with (first | ((with_reducible refine gtd 5 rfl ?_); refine zbx 5 #[.bool a0_0, .int .u64 a0_1, .int .u64 a0_2, .int .i64 a0_3, .bool a0_4] 151 (h := ?_); intro gb126 hg w29 hbox hb; have GW126 := zkZ hg (zaB (p := Below w.heap.size w _)); replace HB := Aside0.mk (below_step zaB hb); have BK126 := Aside0.mk (hbox); clear hb hbox hg; refine zu5 BK126 fun _ _ _ _ _ _ _ _ _ _ => ?_) | ((with_reducible refine gtc 200 rfl ?_); refine zgL 14 Try.func200 (round_number_away.calls a0_0 a0_1 a0_2 a0_3 a0_4 a1 false _ A6.out) (h := ?_); rintro w31 hb; replace BK126 := zkb BK126 hb; replace HB := zkB HB hb; (try clear hb); refine zu5 BK126 fun _ _ _ _ _ _ _ _ _ _ => ?_) | ((with_reducible refine gtc 201 rfl ?_); refine zgL 22 Try.func201 (round_number_towards.calls a0_0 a0_1 a0_2 a0_3 a0_4 a1 false _ A15.out) (h := ?_); rintro w33 hb; replace BK126 := zkb BK126 hb; replace HB := zkB HB hb; (try clear hb)))
  go_ret
  exact ⟨zaE, zaB⟩
 replace c22 := Bool.eq_false_iff.mpr c22
 subst c22
 replace H := zif H
 obtain rfl := Option.some.inj H
 go_enter Try.func184, Try.ntmps184
 go_wp2_with (first | ((with_reducible refine gtd 5 rfl ?_); refine zbx 5 #[.bool a0_0, .int .u64 a0_1, .int .u64 a0_2, .int .i64 a0_3, .bool a0_4] 151 (h := ?_); intro gb126 hg w34 hbox hb; have GW126 := zkZ hg (zaB (p := Below w.heap.size w _)); replace HB := Aside0.mk (below_step zaB hb); have BK126 := Aside0.mk (hbox); clear hb hbox hg; refine zu5 BK126 fun _ _ _ _ _ _ _ _ _ _ => ?_) | ((with_reducible refine gtc 200 rfl ?_); refine zgL 14 Try.func200 (round_number_away.calls a0_0 a0_1 a0_2 a0_3 a0_4 a1 false _ A6.out) (h := ?_); rintro w36 hb; replace BK126 := zkb BK126 hb; replace HB := zkB HB hb; (try clear hb); refine zu5 BK126 fun _ _ _ _ _ _ _ _ _ _ => ?_) | ((with_reducible refine gtc 201 rfl ?_); refine zgL 22 Try.func201 (round_number_towards.calls a0_0 a0_1 a0_2 a0_3 a0_4 a1 false _ A15.out) (h := ?_); rintro w38 hb; replace BK126 := zkb BK126 hb; replace HB := zkB HB hb; (try clear hb)))
 go_ret
 exact ⟨zaE, zaB⟩
theorem round_number_over.calls (k : Nat) (a0_0 : Bool) (a0_1 : Int) (a0_2 : Int) (a0_3 : Int) (a0_4 : Bool) (a1 : Int) (r1 : Int) (r2 : Int) (w : World) (h : round_number_over.f k a0_0 a0_1 a0_2 a0_3 a0_4 a1 = some (r1, r2)) :
  Calls Try.prog 185 #[.agg #[.bool a0_0, .int .u64 a0_1, .int .u64 a0_2, .int .i64 a0_3, .bool a0_4], .int .u8 a1] w fun e w' => e = .returned (.tuple #[.int .u64 r1, .int .u8 r2]) ∧ Below w.heap.size w w' := by
 have hu151 := Try.underlying151
 have HB := Aside0.mk (Below.refl w.heap.size w)
 have H := h
 unfold round_number_over.f at H
 clear h
 obtain ⟨t132, A3, H⟩ := zbs H
 try dsimp only at H
 obtain ⟨t133, A4, H⟩ := zbs H
 try dsimp only at H
 by_cases c5 : t133 = true
 ·subst c5
  replace H := zit H
  simp only [Option.some.injEq, Prod.mk.injEq] at H
  obtain ⟨rfl, rfl⟩ := H
  go_enter Try.func185, Try.ntmps185
  go_wp2_with (first | ((with_reducible refine gtd 2 rfl ?_); refine zbx 2 #[.bool a0_0, .int .u64 a0_1, .int .u64 a0_2, .int .i64 a0_3, .bool a0_4] 151 (h := ?_); intro gb131 hg w6 hbox hb; have GW131 := zkZ hg (zaB (p := Below w.heap.size w _)); replace HB := Aside0.mk (below_step zaB hb); have BK131 := Aside0.mk (hbox); clear hb hbox hg; refine zu5 BK131 fun _ _ _ _ _ _ _ _ _ _ => ?_) | ((with_reducible refine gtc 79 rfl ?_); refine zgL 9 Try.func79 (pattern_Inf.calls k a0_0 t132 _ A3.out) (h := ?_); rintro w' ⟨nd, rfl⟩) | ((with_reducible refine gtc 201 rfl ?_); refine zgL 12 Try.func201 (round_number_towards.calls a0_0 a0_1 a0_2 a0_3 a0_4 a1 true _ A4.out) (h := ?_); rintro w8 hb; replace BK131 := zkb BK131 hb; replace HB := zkB HB hb; (try clear hb)))
  go_ret2
  exact ⟨zaE, zaB⟩
 replace c5 := Bool.eq_false_iff.mpr c5
 subst c5
 replace H := zif H
 simp only [Option.some.injEq, Prod.mk.injEq] at H
 obtain ⟨rfl, rfl⟩ := H
 go_enter Try.func185, Try.ntmps185
 go_wp2_with (first | ((with_reducible refine gtd 2 rfl ?_); refine zbx 2 #[.bool a0_0, .int .u64 a0_1, .int .u64 a0_2, .int .i64 a0_3, .bool a0_4] 151 (h := ?_); intro gb131 hg w9 hbox hb; have GW131 := zkZ hg (zaB (p := Below w.heap.size w _)); replace HB := Aside0.mk (below_step zaB hb); have BK131 := Aside0.mk (hbox); clear hb hbox hg; refine zu5 BK131 fun _ _ _ _ _ _ _ _ _ _ => ?_) | ((with_reducible refine gtc 79 rfl ?_); refine zgL 9 Try.func79 (pattern_Inf.calls k a0_0 t132 _ A3.out) (h := ?_); rintro w' ⟨nd, rfl⟩) | ((with_reducible refine gtc 201 rfl ?_); refine zgL 12 Try.func201 (round_number_towards.calls a0_0 a0_1 a0_2 a0_3 a0_4 a1 false _ A4.out) (h := ?_); rintro w11 hb; replace BK131 := zkb BK131 hb; replace HB := zkB HB hb; (try clear hb)))
 go_ret2
 exact ⟨zaE, zaB⟩
end Go.Proofs.Ytmadjhmecfbcmaa.F
end
