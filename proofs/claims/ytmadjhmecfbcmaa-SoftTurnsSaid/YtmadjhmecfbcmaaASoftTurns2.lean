/- The walk of the law SoftTurns and what it computes, part 2 of 5: no conditions. -/
import Derived.Test.YtmadjhmecfbcmaaASoftTurns1
import Derived.Shelf.Small.Bits
import Derived.Shelf.Strconv.Itoa0
import Derived.Shelf.Bits.Mul64
import Derived.Test.YtmadjhmecfbcmaaProg
import Derived.Lib.BitFns
import Derived.Laws.Externs
import Derived.Shelf.Spec.BitsCarry
set_option linter.unusedVariables false
set_option linter.unusedSimpArgs false
section
namespace Go.Proofs
open Go.Shelf
def Try.lays134_ren : Go.Shelf.Ren := ⟨fun | 134 => 186 | 129 => 161 | n => n, fun | 53 => 22 | 3 => 3 | 4 => 4 | 46 => 126 | 5 => 5 | 9 => 9 | n => n, fun | n => n⟩
theorem Try.lays134 : Go.Proofs.Lays.n134 Try.prog Try.lays134_ren := {
  mixed := by kernel_rfl
  f129 := Try.func161.trans (congrArg some (by kernel_rfl))
  f134 := Try.func186.trans (congrArg some (by kernel_rfl))
  t3 := Try.underlying3
  a3 := Try.isAgg3
  z3 := Try.sizeOf3
  v3 := Try.zeroValue3
  t4 := Try.underlying4
  a4 := Try.isAgg4
  z4 := Try.sizeOf4
  v4 := Try.zeroValue4
  t5 := Try.underlying5
  a5 := Try.isAgg5
  z5 := Try.sizeOf5
  v5 := Try.zeroValue5
  t9 := Try.underlying9
  a9 := Try.isAgg9
  z9 := Try.sizeOf9
  v9 := Try.zeroValue9
  t46 := Try.underlying126
  a46 := Try.isAgg126
  z46 := Try.sizeOf126
  v46 := Try.zeroValue126
  t53 := Try.underlying22
  a53 := Try.isAgg22
  z53 := Try.sizeOf22
  v53 := Try.zeroValue22 }
theorem Try.bits_LeadingZeros64 (x : Int) (w : World) (h0 : 0 ≤ x) (h1 : x ≤ 18446744073709551615) :
    Calls Try.prog 186 #[.int .u64 x] w fun e w' => e = .returned (.int .i64 (64 - (Lib.bitLen x.toNat : Int))) ∧ w' = w := Any.bits_LeadingZeros64 Try.lays134 x w h0 h1
def Try.lays129_ren : Go.Shelf.Ren := ⟨fun | 129 => 161 | n => n, fun | 53 => 22 | 3 => 3 | 4 => 4 | 46 => 126 | 5 => 5 | 9 => 9 | n => n, fun | n => n⟩
theorem Try.lays129 : Go.Proofs.Lays.n129 Try.prog Try.lays129_ren := {
  mixed := by kernel_rfl
  f129 := Try.func161.trans (congrArg some (by kernel_rfl))
  t3 := Try.underlying3
  a3 := Try.isAgg3
  z3 := Try.sizeOf3
  v3 := Try.zeroValue3
  t4 := Try.underlying4
  a4 := Try.isAgg4
  z4 := Try.sizeOf4
  v4 := Try.zeroValue4
  t5 := Try.underlying5
  a5 := Try.isAgg5
  z5 := Try.sizeOf5
  v5 := Try.zeroValue5
  t9 := Try.underlying9
  a9 := Try.isAgg9
  z9 := Try.sizeOf9
  v9 := Try.zeroValue9
  t46 := Try.underlying126
  a46 := Try.isAgg126
  z46 := Try.sizeOf126
  v46 := Try.zeroValue126
  t53 := Try.underlying22
  a53 := Try.isAgg22
  z53 := Try.sizeOf22
  v53 := Try.zeroValue22 }
theorem Try.bits_Len64 (x : Int) (w : World) (h0 : 0 ≤ x) (h1 : x ≤ 18446744073709551615) :
    Calls Try.prog 161 #[.int .u64 x] w fun e w' => e = .returned (.int .i64 (Lib.bitLen x.toNat)) ∧ w' = w := Any.bits_Len64 Try.lays129 x w h0 h1
def Try.lays264_ren : Go.Shelf.Ren := ⟨fun | 264 => 160 | n => n, fun | 53 => 22 | 46 => 126 | n => n, fun | n => n⟩
theorem Try.lays264 : Go.Proofs.Lays.n264 Try.prog Try.lays264_ren := {
  mixed := by kernel_rfl
  f264 := Try.func160.trans (congrArg some (by kernel_rfl))
  t46 := Try.underlying126
  a46 := Try.isAgg126
  z46 := Try.sizeOf126
  v46 := Try.zeroValue126
  t53 := Try.underlying22
  a53 := Try.isAgg22
  z53 := Try.sizeOf22
  v53 := Try.zeroValue22 }
open Go.RowKit Go.Lib in
theorem Try.bits_Mul64 (x y : Nat) (hx : x < 18446744073709551616) (hy : y < 18446744073709551616) (w : World) :
    Calls Try.prog 160 #[.int .u64 x, .int .u64 y] w fun e w' => e = .returned (.tuple #[.int .u64 ((x * y / 18446744073709551616 : Nat) : Int), .int .u64 ((x * y % 18446744073709551616 : Nat) : Int)]) ∧ w' = w := Any.bits_Mul64 Try.lays264 x y hx hy w
end Go.Proofs
end
section
namespace Go.Proofs.Ytmadjhmecfbcmaa.F
open Go.RowKit Go.Proofs.YtmadjhmecfbcmaaW.PrintWords Go.Proofs.YtmadjhmecfbcmaaW.PrintLast Go.Proofs.YtmadjhmecfbcmaaW.PrintMore
set_option linter.unusedVariables false
def pattern_Quiet.f  : Option (Int) := some 9221120237041090560
def pattern_Parts.f (a0 : Int) : Option (Bool × Int × Int) := some (((a0 / 9223372036854775808) == 1), wrap64 (Go.bits .and .u64 (a0 / 4503599627370496) 2047), Go.bits .and .u64 a0 4503599627370495)
mutual
def pattern_Class.j0 : Nat → Int → Int → Bool → Option (Int)
  | 0, _, _, _ => none
  | k + 1, x4, x5, x12 => if x12 = true then (some 3) else (if x4 = 2047 then (some 4) else (if x4 = 0 then (pattern_Class.j1 k x4 (x5 == 0)) else (pattern_Class.j1 k x4 false)))
def pattern_Class.j1 : Nat → Int → Bool → Option (Int)
  | 0, _, _ => none
  | k + 1, x4, x22 => if x22 = true then (some 0) else (if x4 = 0 then (some 1) else (some 2))
end
def pattern_Class.f (k : Nat) (a0 : Int) : Option (Int) := (pattern_Parts.f a0).bind fun bt101 => (if bt101.2.1 = 2047 then (pattern_Class.j0 k bt101.2.1 bt101.2.2 (bt101.2.2 == 0)) else (pattern_Class.j0 k bt101.2.1 bt101.2.2 false))
def pattern_Split.f (k : Nat) (a0 : Int) : Option (Int × Int) := (pattern_Parts.f a0).bind fun bt104 => ((pattern_Class.f k a0).bind fun t107 => (if t107 = 2 then (some (Go.bits .or .u64 4503599627370496 bt104.2.2, wrap64 (bt104.2.1 - 1075))) else (if t107 = 1 then (some (bt104.2.2, (-1074))) else (some (0, 0)))))
def soft_of.f (k : Nat) (a0 : Int) : Option (Int × Int × Bool × Int × Int) := (pattern_Split.f k a0).bind fun bt109 => ((pattern_Class.f k a0).bind fun t111 => (some (a0, t111, ((a0 / 9223372036854775808) == 1), bt109.1, bt109.2)))
def soft_either.f (a0_0 : Int) (a0_1 : Int) (a0_2 : Bool) (a0_3 : Int) (a0_4 : Int) (a1_0 : Int) (a1_1 : Int) (a1_2 : Bool) (a1_3 : Int) (a1_4 : Int) (a2 : Int) : Option (Bool) := if a0_1 = a2 then (some true) else (some (a1_1 == a2))
def soft_invalid.f  : Option (Int × Int) := (pattern_Quiet.f).bind fun t114 => (some (t114, 16))
def pattern_Make.j0 : Nat → Bool → Int → Int → Bool → Option (Int × Int)
  | 0, _, _, _, _ => none
  | k + 1, x0, x1, x2, x18 => if x18 = true then (some (0, 1)) else (if x0 = true then (some (Go.bits .or .u64 (Go.bits .or .u64 (IntKind.u64.wrap ((IntKind.u64.wrap (x1)) * 4503599627370496)) x2) 9223372036854775808, 0)) else (some (Go.bits .or .u64 (IntKind.u64.wrap ((IntKind.u64.wrap (x1)) * 4503599627370496)) x2, 0)))
def pattern_Make.f (k : Nat) (a0 : Bool) (a1 : Int) (a2 : Int) : Option (Int × Int) := if a1 < 0 then (pattern_Make.j0 k a0 a1 a2 true) else (if a1 > 2047 then (pattern_Make.j0 k a0 a1 a2 true) else (pattern_Make.j0 k a0 a1 a2 (decide (a2 > 4503599627370495))))
def soft_zero.f (k : Nat) (a0 : Bool) : Option (Int) := (pattern_Make.f k a0 0 0).bind fun bt115 => (some bt115.1)
def bits_Len64.f (a0 : Int) : Option Int := if 0 ≤ a0 ∧ a0 ≤ 18446744073709551615 then some (Lib.bitLen a0.toNat : Int) else none
def wide_U128_Len.f (a0_0 : Int) (a0_1 : Int) : Option (Int) := if a0_0 > 0 then ((bits_Len64.f a0_0).bind fun t118 => (some (wrap64 (64 + t118)))) else ((bits_Len64.f a0_1).bind fun t119 => (some t119))
def wide_U128_Shl.l0 : Nat → Int → Int → Int → Option (Int × Int)
  | 0, _, _, _ => none
  | k + 1, x1, x121000, x121001 => if x1 ≥ 64 then (if (x121001 == 0) = true then (some (x121001, 0)) else (wide_U128_Shl.l0 k (wrap64 (x1 - 64)) x121001 0)) else (if x1 ≤ 0 then (some (x121000, x121001)) else (if 0 ≤ x1 then (if 0 ≤ (wrap64 (64 - x1)) then (some (Go.bits .or .u64 (shl .u64 x121000 x1) (shr .u64 x121001 (wrap64 (64 - x1))), shl .u64 x121001 x1)) else (none)) else (none)))
def wide_U128_Shl.f (k : Nat) (a0_0 : Int) (a0_1 : Int) (a1 : Int) : Option (Int × Int) := wide_U128_Shl.l0 k a1 a0_0 a0_1
def wide_U128_Shr.l0 : Nat → Int → Bool → Int → Int → Option (Int × Int × Bool)
  | 0, _, _, _, _ => none
  | k + 1, x1, x6, x123000, x123001 => if x1 ≥ 64 then (if x6 = true then (if (x123000 == 0) = true then (some (0, x123000, true)) else (wide_U128_Shr.l0 k (wrap64 (x1 - 64)) true 0 x123000)) else (if (x123000 == 0) = true then (some (0, x123000, (x123001 != 0))) else (wide_U128_Shr.l0 k (wrap64 (x1 - 64)) (x123001 != 0) 0 x123000))) else (if x1 ≤ 0 then (some (x123000, x123001, x6)) else (if 0 ≤ x1 then (if 0 ≤ (wrap64 (64 - x1)) then (if x6 = true then (some (shr .u64 x123000 x1, Go.bits .or .u64 (shr .u64 x123001 x1) (shl .u64 x123000 (wrap64 (64 - x1))), true)) else (some (shr .u64 x123000 x1, Go.bits .or .u64 (shr .u64 x123001 x1) (shl .u64 x123000 (wrap64 (64 - x1))), ((shl .u64 x123001 (wrap64 (64 - x1))) != 0)))) else (none)) else (none)))
def wide_U128_Shr.f (k : Nat) (a0_0 : Int) (a0_1 : Int) (a1 : Int) : Option (Int × Int × Bool) := wide_U128_Shr.l0 k a1 false a0_0 a0_1
def round_number_away.f (a0_0 : Bool) (a0_1 : Int) (a0_2 : Int) (a0_3 : Int) (a0_4 : Bool) (a1 : Int) : Option (Bool) := if a1 = 1 then (if a0_0 = true then (if a1 = 2 then (some a0_0) else (some false)) else (some true)) else (if a1 = 2 then (some a0_0) else (some false))
def round_number_towards.f (a0_0 : Bool) (a0_1 : Int) (a0_2 : Int) (a0_3 : Int) (a0_4 : Bool) (a1 : Int) : Option (Bool) := if a1 = 1 then (if a0_0 = true then (some true) else (if a1 = 2 then (some (!a0_0)) else (some false))) else (if a1 = 2 then (some (!a0_0)) else (some false))
def round_number_up.f (a0_0 : Bool) (a0_1 : Int) (a0_2 : Int) (a0_3 : Int) (a0_4 : Bool) (a1 : Int) (a2 : Bool) (a3 : Bool) (a4 : Bool) : Option (Bool) := (round_number_away.f a0_0 a0_1 a0_2 a0_3 a0_4 a1).bind fun t127 => (if t127 = true then (if a3 = true then (some true) else (some a4)) else ((round_number_towards.f a0_0 a0_1 a0_2 a0_3 a0_4 a1).bind fun t128 => (if t128 = true then (some false) else (if a3 = true then (if a4 = true then (some true) else (some a2)) else (some false)))))
def pattern_Inf.f (k : Nat) (a0 : Bool) : Option (Int) := (pattern_Make.f k a0 2047 0).bind fun bt129 => (some bt129.1)
def round_number_over.f (k : Nat) (a0_0 : Bool) (a0_1 : Int) (a0_2 : Int) (a0_3 : Int) (a0_4 : Bool) (a1 : Int) : Option (Int × Int) := (pattern_Inf.f k a0_0).bind fun t132 => ((round_number_towards.f a0_0 a0_1 a0_2 a0_3 a0_4 a1).bind fun t133 => (if t133 = true then (some (IntKind.u64.wrap (t132 - 1), 5)) else (some (t132, 5))))
mutual
def round_number_float.j0 : Nat → Int → Int → Int → Bool → Bool → Bool → Int → Int → Int → Bool → Int → Int → Option (Int × Int)
  | 0, _, _, _, _, _, _, _, _, _, _, _, _ => none
  | k + 1, x1, x6, x7, x9, x10, x135000, x135001, x135002, x135003, x135004, x137000, x137001 => (round_number_up.f x135000 x135001 x135002 x135003 x135004 x1 ((Go.bits .and .u64 x137001 1) == 1) x9 x10).bind fun t148 => (if t148 = true then (round_number_float.j1 k x1 x6 x7 x9 x10 (IntKind.u64.wrap (x137001 + 1)) x135000 x135001 x135002 x135003 x135004) else (round_number_float.j1 k x1 x6 x7 x9 x10 x137001 x135000 x135001 x135002 x135003 x135004))
def round_number_float.j1 : Nat → Int → Int → Int → Bool → Bool → Int → Bool → Int → Int → Int → Bool → Option (Int × Int)
  | 0, _, _, _, _, _, _, _, _, _, _, _ => none
  | k + 1, x1, x6, x7, x9, x10, x13, x135000, x135001, x135002, x135003, x135004 => if x13 = 9007199254740992 then (round_number_float.j2 k x1 x6 (wrap64 (x7 + 1)) x9 x10 (x13 / 2) x135000 x135001 x135002 x135003 x135004) else (round_number_float.j2 k x1 x6 x7 x9 x10 x13 x135000 x135001 x135002 x135003 x135004)
def round_number_float.j2 : Nat → Int → Int → Int → Bool → Bool → Int → Bool → Int → Int → Int → Bool → Option (Int × Int)
  | 0, _, _, _, _, _, _, _, _, _, _, _ => none
  | k + 1, x1, x6, x7, x9, x10, x13, x135000, x135001, x135002, x135003, x135004 => if x7 > 971 then ((round_number_over.f k x135000 x135001 x135002 x135003 x135004 x1).bind fun bt149 => (some (bt149.1, bt149.2))) else (if x9 = true then (round_number_float.j3 k x6 x7 x13 0 true x135000 x135001 x135002 x135003 x135004) else (round_number_float.j3 k x6 x7 x13 0 x10 x135000 x135001 x135002 x135003 x135004))
def round_number_float.j3 : Nat → Int → Int → Int → Int → Bool → Bool → Int → Int → Int → Bool → Option (Int × Int)
  | 0, _, _, _, _, _, _, _, _, _, _ => none
  | k + 1, x6, x7, x13, x14, x90, x135000, x135001, x135002, x135003, x135004 => if x90 = true then (if (wrap64 (x6 + x135003)) ≤ (-1022) then (if (x13 / 4503599627370496) = 1 then ((pattern_Make.f k x135000 (wrap64 ((wrap64 (x7 - (-1074))) + 1)) (Go.bits .and .u64 x13 4503599627370495)).bind fun bt151 => (some (bt151.1, Go.bits .or .u8 1 2))) else ((pattern_Make.f k x135000 0 (Go.bits .and .u64 x13 4503599627370495)).bind fun bt153 => (some (bt153.1, Go.bits .or .u8 1 2)))) else (if (x13 / 4503599627370496) = 1 then ((pattern_Make.f k x135000 (wrap64 ((wrap64 (x7 - (-1074))) + 1)) (Go.bits .and .u64 x13 4503599627370495)).bind fun bt155 => (some (bt155.1, 1))) else ((pattern_Make.f k x135000 0 (Go.bits .and .u64 x13 4503599627370495)).bind fun bt157 => (some (bt157.1, 1))))) else (if (x13 / 4503599627370496) = 1 then ((pattern_Make.f k x135000 (wrap64 ((wrap64 (x7 - (-1074))) + 1)) (Go.bits .and .u64 x13 4503599627370495)).bind fun bt159 => (some (bt159.1, x14))) else ((pattern_Make.f k x135000 0 (Go.bits .and .u64 x13 4503599627370495)).bind fun bt161 => (some (bt161.1, x14))))
end
def round_number_float.f (k : Nat) (a0_0 : Bool) (a0_1 : Int) (a0_2 : Int) (a0_3 : Int) (a0_4 : Bool) (a1 : Int) : Option (Int × Int) := (wide_U128_Len.f a0_1 a0_2).bind fun t135 => (if (wrap64 ((mx (wrap64 ((wrap64 (t135 - 53)) + a0_3)) (-1074)) - a0_3)) > 0 then ((wide_U128_Shr.f k a0_1 a0_2 (wrap64 ((wrap64 ((mx (wrap64 ((wrap64 (t135 - 53)) + a0_3)) (-1074)) - a0_3)) - 1))).bind fun bt137 => (if a0_4 = true then ((wide_U128_Shr.f k bt137.1 bt137.2.1 1).bind fun bt140 => (round_number_float.j0 k a1 t135 (mx (wrap64 ((wrap64 (t135 - 53)) + a0_3)) (-1074)) ((Go.bits .and .u64 bt137.2.1 1) == 1) true a0_0 a0_1 a0_2 a0_3 a0_4 bt140.1 bt140.2.1)) else ((wide_U128_Shr.f k bt137.1 bt137.2.1 1).bind fun bt143 => (round_number_float.j0 k a1 t135 (mx (wrap64 ((wrap64 (t135 - 53)) + a0_3)) (-1074)) ((Go.bits .and .u64 bt137.2.1 1) == 1) bt137.2.2 a0_0 a0_1 a0_2 a0_3 a0_4 bt143.1 bt143.2.1)))) else ((wide_U128_Shl.f k a0_1 a0_2 (wrap64 (-(wrap64 ((mx (wrap64 ((wrap64 (t135 - 53)) + a0_3)) (-1074)) - a0_3))))).bind fun bt146 => (round_number_float.j0 k a1 t135 (mx (wrap64 ((wrap64 (t135 - 53)) + a0_3)) (-1074)) false a0_4 a0_0 a0_1 a0_2 a0_3 a0_4 bt146.1 bt146.2)))
def round_Round.f (k : Nat) (a0 : Bool) (a1_0 : Int) (a1_1 : Int) (a2 : Int) (a3 : Bool) (a4 : Int) : Option (Int × Int) := (wide_U128_Len.f a1_0 a1_1).bind fun t164 => (if t164 = 0 then ((pattern_Make.f k a0 0 0).bind fun bt165 => (some (bt165.1, 0))) else (if a3 = true then ((round_number_float.f k a0 a1_0 a1_1 (mn (mx a2 (-5000)) 5000) (decide (t164 > 53)) a4).bind fun bt167 => (some (bt167.1, bt167.2))) else ((round_number_float.f k a0 a1_0 a1_1 (mn (mx a2 (-5000)) 5000) false a4).bind fun bt169 => (some (bt169.1, bt169.2)))))
def wide_U128_Add.f (a0_0 : Int) (a0_1 : Int) (a1_0 : Int) (a1_1 : Int) : Option (Int × Int × Int) :=
  if 0 ≤ a0_0 ∧ 0 ≤ a0_1 ∧ 0 ≤ a1_0 ∧ 0 ≤ a1_1 ∧ a0_1 < 18446744073709551616 ∧ a1_1 < 18446744073709551616 then
    some ((a0_0 + a1_0 + (a0_1 + a1_1) / 18446744073709551616) % 18446744073709551616, (a0_1 + a1_1) % 18446744073709551616, (a0_0 + a1_0 + (a0_1 + a1_1) / 18446744073709551616) / 18446744073709551616)
  else none
def wide_U128_Sub.f (a0_0 : Int) (a0_1 : Int) (a1_0 : Int) (a1_1 : Int) : Option (Int × Int × Int) :=
  if 0 ≤ a0_0 ∧ 0 ≤ a0_1 ∧ 0 ≤ a1_0 ∧ 0 ≤ a1_1 ∧ a0_0 < 18446744073709551616 ∧ a0_1 < 18446744073709551616 ∧ a1_0 < 18446744073709551616 ∧ a1_1 < 18446744073709551616 then
    some ((a0_0 - a1_0 - (if a0_1 < a1_1 then 1 else 0)) % 18446744073709551616, (a0_1 - a1_1) % 18446744073709551616, if a0_0 < a1_0 + (if a0_1 < a1_1 then 1 else 0) then 1 else 0)
  else none
def soft_num_add.f (k : Nat) (a0_0 : Int) (a0_1 : Int) (a0_2 : Bool) (a0_3 : Int) (a0_4 : Int) (a1_0 : Int) (a1_1 : Int) (a1_2 : Bool) (a1_3 : Int) (a1_4 : Int) (a2 : Int) : Option (Int × Int) := (wide_U128_Shl.f k 0 a0_3 70).bind fun bt173 => ((wide_U128_Shl.f k 0 a1_3 70).bind fun bt176 => ((wide_U128_Shr.f k bt176.1 bt176.2 (wrap64 (a0_4 - a1_4))).bind fun bt178 => (if (a0_2 == a1_2) = true then ((wide_U128_Add.f bt173.1 bt173.2 bt178.1 bt178.2.1).bind fun bt183 => ((round_Round.f k a0_2 bt183.1 bt183.2.1 (wrap64 (a0_4 - 70)) bt178.2.2 a2).bind fun bt186 => (some (bt186.1, bt186.2)))) else ((wide_U128_Sub.f bt173.1 bt173.2 bt178.1 bt178.2.1).bind fun bt188 => (if (bt188.1 == 0 && (bt188.2.1 == 0)) = true then ((soft_zero.f k (a2 == 2)).bind fun t191 => (some (t191, 0))) else (if bt178.2.2 = true then ((wide_U128_Sub.f bt188.1 bt188.2.1 0 1).bind fun bt192 => ((round_Round.f k a0_2 bt192.1 bt192.2.1 (wrap64 (a0_4 - 70)) bt178.2.2 a2).bind fun bt195 => (some (bt195.1, bt195.2)))) else ((round_Round.f k a0_2 bt188.1 bt188.2.1 (wrap64 (a0_4 - 70)) bt178.2.2 a2).bind fun bt197 => (some (bt197.1, bt197.2)))))))))
mutual
def soft_Add.j0 : Nat → Int → Int → Int → Bool → Int → Int → Bool → Int → Int → Int → Int → Bool → Int → Int → Option (Int × Int)
  | 0, _, _, _, _, _, _, _, _, _, _, _, _, _, _ => none
  | k + 1, x0, x1, x2, x19, x210000, x210001, x210002, x210003, x210004, x211000, x211001, x211002, x211003, x211004 => if x19 = true then ((soft_invalid.f).bind fun bt213 => (some (bt213.1, bt213.2))) else (if x210001 = 3 then (some (x0, 0)) else (if x211001 = 3 then (some (x1, 0)) else (if x210003 = 0 then (if x211003 = 0 then (soft_Add.j1 k x0 x1 x2 (x210002 == x211002) x210000 x210001 x210002 x210003 x210004 x211000 x211001 x211002 x211003 x211004) else (soft_Add.j1 k x0 x1 x2 false x210000 x210001 x210002 x210003 x210004 x211000 x211001 x211002 x211003 x211004)) else (soft_Add.j1 k x0 x1 x2 false x210000 x210001 x210002 x210003 x210004 x211000 x211001 x211002 x211003 x211004))))
def soft_Add.j1 : Nat → Int → Int → Int → Bool → Int → Int → Bool → Int → Int → Int → Int → Bool → Int → Int → Option (Int × Int)
  | 0, _, _, _, _, _, _, _, _, _, _, _, _, _, _ => none
  | k + 1, x0, x1, x2, x48, x210000, x210001, x210002, x210003, x210004, x211000, x211001, x211002, x211003, x211004 => if x48 = true then (some (x0, 0)) else (if x210003 = 0 then (soft_Add.j2 k x0 x1 x2 (x211003 == 0) x210000 x210001 x210002 x210003 x210004 x211000 x211001 x211002 x211003 x211004) else (soft_Add.j2 k x0 x1 x2 false x210000 x210001 x210002 x210003 x210004 x211000 x211001 x211002 x211003 x211004))
def soft_Add.j2 : Nat → Int → Int → Int → Bool → Int → Int → Bool → Int → Int → Int → Int → Bool → Int → Int → Option (Int × Int)
  | 0, _, _, _, _, _, _, _, _, _, _, _, _, _, _ => none
  | k + 1, x0, x1, x2, x65, x210000, x210001, x210002, x210003, x210004, x211000, x211001, x211002, x211003, x211004 => if x65 = true then ((soft_zero.f k (x2 == 2)).bind fun t215 => (some (t215, 0))) else (if x210003 = 0 then (some (x1, 0)) else (if x211003 = 0 then (some (x0, 0)) else (if x210004 < x211004 then ((soft_num_add.f k x211000 x211001 x211002 x211003 x211004 x210000 x210001 x210002 x210003 x210004 x2).bind fun bt216 => (some (bt216.1, bt216.2))) else (if x210004 = x211004 then (if x210003 < x211003 then ((soft_num_add.f k x211000 x211001 x211002 x211003 x211004 x210000 x210001 x210002 x210003 x210004 x2).bind fun bt218 => (some (bt218.1, bt218.2))) else ((soft_num_add.f k x210000 x210001 x210002 x210003 x210004 x211000 x211001 x211002 x211003 x211004 x2).bind fun bt220 => (some (bt220.1, bt220.2)))) else ((soft_num_add.f k x210000 x210001 x210002 x210003 x210004 x211000 x211001 x211002 x211003 x211004 x2).bind fun bt222 => (some (bt222.1, bt222.2)))))))
end
def soft_Add.f (k : Nat) (a0 : Int) (a1 : Int) (a2 : Int) : Option (Int × Int) := (soft_of.f k a0).bind fun bt199 => ((soft_of.f k a1).bind fun bt204 => ((soft_either.f bt199.1 bt199.2.1 bt199.2.2.1 bt199.2.2.2.1 bt199.2.2.2.2 bt204.1 bt204.2.1 bt204.2.2.1 bt204.2.2.2.1 bt204.2.2.2.2 4).bind fun t211 => (if t211 = true then ((pattern_Quiet.f).bind fun t212 => (some (t212, 0))) else (if bt199.2.1 = 3 then (if bt204.2.1 = 3 then (soft_Add.j0 k a0 a1 a2 (bt199.2.2.1 != bt204.2.2.1) bt199.1 bt199.2.1 bt199.2.2.1 bt199.2.2.2.1 bt199.2.2.2.2 bt204.1 bt204.2.1 bt204.2.2.1 bt204.2.2.2.1 bt204.2.2.2.2) else (soft_Add.j0 k a0 a1 a2 false bt199.1 bt199.2.1 bt199.2.2.1 bt199.2.2.2.1 bt199.2.2.2.2 bt204.1 bt204.2.1 bt204.2.2.1 bt204.2.2.2.1 bt204.2.2.2.2)) else (soft_Add.j0 k a0 a1 a2 false bt199.1 bt199.2.1 bt199.2.2.1 bt199.2.2.2.1 bt199.2.2.2.2 bt204.1 bt204.2.1 bt204.2.2.1 bt204.2.2.2.1 bt204.2.2.2.2)))))
def pattern_nan.f (k : Nat) (a0 : Int) : Option (Bool) := (pattern_Class.f k a0).bind fun t224 => (some (t224 == 4))
def pattern_Neg.f (k : Nat) (a0 : Int) : Option (Int) := (pattern_nan.f k a0).bind fun t225 => (if t225 = true then (some a0) else (some (Go.bits .xor .u64 a0 9223372036854775808)))
def soft_Sub.f (k : Nat) (a0 : Int) (a1 : Int) (a2 : Int) : Option (Int × Int) := (pattern_Neg.f k a1).bind fun t226 => ((soft_Add.f k a0 t226 a2).bind fun bt227 => (some (bt227.1, bt227.2)))
def bits_Mul64.f (a0 : Int) (a1 : Int) : Option (Int × Int) :=
  if 0 ≤ a0 ∧ 0 ≤ a1 ∧ a0 < 18446744073709551616 ∧ a1 < 18446744073709551616 then some (a0 * a1 / 18446744073709551616, a0 * a1 % 18446744073709551616) else none
def wide_Mul.f (a0 : Int) (a1 : Int) : Option (Int × Int) := (bits_Mul64.f a0 a1).bind fun bt230 => (some (bt230.1, bt230.2))
def soft_Mul.j0 : Nat → Int → Bool → Bool → Int → Int → Bool → Int → Int → Int → Int → Bool → Int → Int → Option (Int × Int)
  | 0, _, _, _, _, _, _, _, _, _, _, _, _, _ => none
  | k + 1, x2, x10, x25, x243000, x243001, x243002, x243003, x243004, x244000, x244001, x244002, x244003, x244004 => if x25 = true then ((soft_invalid.f).bind fun bt248 => (some (bt248.1, bt248.2))) else ((soft_either.f x243000 x243001 x243002 x243003 x243004 x244000 x244001 x244002 x244003 x244004 3).bind fun t250 => (if t250 = true then ((pattern_Inf.f k x10).bind fun t251 => (some (t251, 0))) else ((wide_Mul.f x243003 x244003).bind fun bt252 => ((round_Round.f k x10 bt252.1 bt252.2 (wrap64 (x243004 + x244004)) false x2).bind fun bt254 => (some (bt254.1, bt254.2))))))
def soft_Mul.f (k : Nat) (a0 : Int) (a1 : Int) (a2 : Int) : Option (Int × Int) := (soft_of.f k a0).bind fun bt232 => ((soft_of.f k a1).bind fun bt237 => ((soft_either.f bt232.1 bt232.2.1 bt232.2.2.1 bt232.2.2.2.1 bt232.2.2.2.2 bt237.1 bt237.2.1 bt237.2.2.1 bt237.2.2.2.1 bt237.2.2.2.2 4).bind fun t244 => (if t244 = true then ((pattern_Quiet.f).bind fun t245 => (some (t245, 0))) else ((soft_either.f bt232.1 bt232.2.1 bt232.2.2.1 bt232.2.2.2.1 bt232.2.2.2.2 bt237.1 bt237.2.1 bt237.2.2.1 bt237.2.2.2.1 bt237.2.2.2.2 3).bind fun t246 => (if t246 = true then ((soft_either.f bt232.1 bt232.2.1 bt232.2.2.1 bt232.2.2.2.1 bt232.2.2.2.2 bt237.1 bt237.2.1 bt237.2.2.1 bt237.2.2.2.1 bt237.2.2.2.2 0).bind fun t247 => (soft_Mul.j0 k a2 (bt232.2.2.1 != bt237.2.2.1) t247 bt232.1 bt232.2.1 bt232.2.2.1 bt232.2.2.2.1 bt232.2.2.2.2 bt237.1 bt237.2.1 bt237.2.2.1 bt237.2.2.2.1 bt237.2.2.2.2)) else (soft_Mul.j0 k a2 (bt232.2.2.1 != bt237.2.2.1) false bt232.1 bt232.2.1 bt232.2.2.1 bt232.2.2.2.1 bt232.2.2.2.2 bt237.1 bt237.2.1 bt237.2.2.1 bt237.2.2.2.1 bt237.2.2.2.2))))))
def bits_LeadingZeros64.f (a0 : Int) : Option Int := if 0 ≤ a0 ∧ a0 ≤ 18446744073709551615 then some (64 - (Lib.bitLen a0.toNat : Int)) else none
mutual
def bits_Div64q.j2 : Nat → Int → Int → Int → Int → Int → Int → Int → Int → Option (Int × Int)
  | 0, _, _, _, _, _, _, _, _ => none
  | k + 1, x2, x8, x9, x10, x11, x13, x14, x15 => if x9 = 0 then (none) else (bits_Div64q.l1 k x2 x8 x9 x10 x14 x15 (IntKind.u64.wrap ((IntKind.u64.wrap ((IntKind.u64.wrap ((IntKind.u64.wrap (x11 * 4294967296)) + x13)) - (IntKind.u64.wrap (x15 * x2)))) - (IntKind.u64.wrap ((IntKind.u64.wrap (Int.tdiv (IntKind.u64.wrap ((IntKind.u64.wrap ((IntKind.u64.wrap (x11 * 4294967296)) + x13)) - (IntKind.u64.wrap (x15 * x2)))) x9)) * x9)))) (IntKind.u64.wrap ((IntKind.u64.wrap ((IntKind.u64.wrap (x11 * 4294967296)) + x13)) - (IntKind.u64.wrap (x15 * x2)))) (IntKind.u64.wrap (Int.tdiv (IntKind.u64.wrap ((IntKind.u64.wrap ((IntKind.u64.wrap (x11 * 4294967296)) + x13)) - (IntKind.u64.wrap (x15 * x2)))) x9)))
def bits_Div64q.l1 : Nat → Int → Int → Int → Int → Int → Int → Int → Int → Int → Option (Int × Int)
  | 0, _, _, _, _, _, _, _, _, _ => none
  | k + 1, x2, x8, x9, x10, x14, x15, x16, x17, x18 => if x18 ≥ 4294967296 then (bits_Div64q.j4 k x2 x8 x9 x10 x14 x15 x16 x17 x18 true) else (bits_Div64q.j4 k x2 x8 x9 x10 x14 x15 x16 x17 x18 (decide ((IntKind.u64.wrap (x18 * x10)) > (IntKind.u64.wrap ((IntKind.u64.wrap (4294967296 * x16)) + x14)))))
def bits_Div64q.j4 : Nat → Int → Int → Int → Int → Int → Int → Int → Int → Int → Bool → Option (Int × Int)
  | 0, _, _, _, _, _, _, _, _, _, _ => none
  | k + 1, x2, x8, x9, x10, x14, x15, x16, x17, x18, x113 => if x113 = true then (if (IntKind.u64.wrap (x16 + x9)) ≥ 4294967296 then (if 0 ≤ x8 then (some (IntKind.u64.wrap ((IntKind.u64.wrap (x15 * 4294967296)) + (IntKind.u64.wrap (x18 - 1))), shr .u64 (IntKind.u64.wrap ((IntKind.u64.wrap ((IntKind.u64.wrap (x17 * 4294967296)) + x14)) - (IntKind.u64.wrap ((IntKind.u64.wrap (x18 - 1)) * x2)))) x8)) else (none)) else (bits_Div64q.l1 k x2 x8 x9 x10 x14 x15 (IntKind.u64.wrap (x16 + x9)) x17 (IntKind.u64.wrap (x18 - 1)))) else (if 0 ≤ x8 then (some (IntKind.u64.wrap ((IntKind.u64.wrap (x15 * 4294967296)) + x18), shr .u64 (IntKind.u64.wrap ((IntKind.u64.wrap ((IntKind.u64.wrap (x17 * 4294967296)) + x14)) - (IntKind.u64.wrap (x18 * x2)))) x8)) else (none))
def bits_Div64q.l0 : Nat → Int → Int → Int → Int → Int → Int → Int → Int → Int → Option (Int × Int)
  | 0, _, _, _, _, _, _, _, _, _ => none
  | k + 1, x2, x8, x9, x10, x11, x13, x14, x15, x16 => if x15 ≥ 4294967296 then (bits_Div64q.j1 k x2 x8 x9 x10 x11 x13 x14 x15 x16 true) else (bits_Div64q.j1 k x2 x8 x9 x10 x11 x13 x14 x15 x16 (decide ((IntKind.u64.wrap (x15 * x10)) > (IntKind.u64.wrap ((IntKind.u64.wrap (4294967296 * x16)) + x13)))))
def bits_Div64q.j1 : Nat → Int → Int → Int → Int → Int → Int → Int → Int → Int → Bool → Option (Int × Int)
  | 0, _, _, _, _, _, _, _, _, _, _ => none
  | k + 1, x2, x8, x9, x10, x11, x13, x14, x15, x16, x78 => if x78 = true then (if (IntKind.u64.wrap (x16 + x9)) ≥ 4294967296 then (bits_Div64q.j2 k x2 x8 x9 x10 x11 x13 x14 (IntKind.u64.wrap (x15 - 1))) else (bits_Div64q.l0 k x2 x8 x9 x10 x11 x13 x14 (IntKind.u64.wrap (x15 - 1)) (IntKind.u64.wrap (x16 + x9)))) else (bits_Div64q.j2 k x2 x8 x9 x10 x11 x13 x14 x15)
end
def bits_Div64q.f (k : Nat) (a0 : Int) (a1 : Int) (a2 : Int) : Option (Int × Int) := if a0 = 0 then (if a2 = 0 then (none) else (some (IntKind.u64.wrap (Int.tdiv a1 a2), Int.tmod a1 a2))) else ((bits_LeadingZeros64.f a2).bind fun t256 => (if 0 ≤ (IntKind.u64.wrap (t256)) then (if 0 ≤ (IntKind.u64.wrap (64 - (IntKind.u64.wrap (t256)))) then (if ((shl .u64 a2 (IntKind.u64.wrap (t256))) / 4294967296) = 0 then (none) else (bits_Div64q.l0 k (shl .u64 a2 (IntKind.u64.wrap (t256))) (IntKind.u64.wrap (t256)) ((shl .u64 a2 (IntKind.u64.wrap (t256))) / 4294967296) (Go.bits .and .u64 (shl .u64 a2 (IntKind.u64.wrap (t256))) 4294967295) (Go.bits .or .u64 (shl .u64 a0 (IntKind.u64.wrap (t256))) (shr .u64 a1 (IntKind.u64.wrap (64 - (IntKind.u64.wrap (t256)))))) ((shl .u64 a1 (IntKind.u64.wrap (t256))) / 4294967296) (Go.bits .and .u64 (shl .u64 a1 (IntKind.u64.wrap (t256))) 4294967295) (IntKind.u64.wrap (Int.tdiv (Go.bits .or .u64 (shl .u64 a0 (IntKind.u64.wrap (t256))) (shr .u64 a1 (IntKind.u64.wrap (64 - (IntKind.u64.wrap (t256)))))) ((shl .u64 a2 (IntKind.u64.wrap (t256))) / 4294967296))) (IntKind.u64.wrap ((Go.bits .or .u64 (shl .u64 a0 (IntKind.u64.wrap (t256))) (shr .u64 a1 (IntKind.u64.wrap (64 - (IntKind.u64.wrap (t256)))))) - (IntKind.u64.wrap ((IntKind.u64.wrap (Int.tdiv (Go.bits .or .u64 (shl .u64 a0 (IntKind.u64.wrap (t256))) (shr .u64 a1 (IntKind.u64.wrap (64 - (IntKind.u64.wrap (t256)))))) ((shl .u64 a2 (IntKind.u64.wrap (t256))) / 4294967296))) * ((shl .u64 a2 (IntKind.u64.wrap (t256))) / 4294967296))))))) else (none)) else (none)))
def bits_Div64.f (a0 : Int) (a1 : Int) (a2 : Int) : Option (Int × Int) :=
  if 0 ≤ a0 ∧ 0 ≤ a1 ∧ a1 < 18446744073709551616 ∧ a0 < a2 ∧ a2 < 18446744073709551616 then
    some ((a0 * 18446744073709551616 + a1) / a2, (a0 * 18446744073709551616 + a1) % a2) else none
def wide_U128_Div.f (a0_0 : Int) (a0_1 : Int) (a1 : Int) : Option (Int × Int × Int) := if a1 = 0 then (some (0, 0, 0)) else ((bits_Div64.f 0 a0_0 a1).bind fun bt258 => ((bits_Div64.f bt258.2 a0_1 a1).bind fun bt260 => (some (bt258.1, bt260.1, bt260.2))))
mutual
def soft_Div.j0 : Nat → Int → Bool → Bool → Int → Int → Bool → Int → Int → Int → Int → Bool → Int → Int → Option (Int × Int)
  | 0, _, _, _, _, _, _, _, _, _, _, _, _, _ => none
  | k + 1, x2, x10, x28, x273000, x273001, x273002, x273003, x273004, x274000, x274001, x274002, x274003, x274004 => if x28 = true then ((soft_invalid.f).bind fun bt276 => (some (bt276.1, bt276.2))) else (if x273001 = 3 then ((pattern_Inf.f k x10).bind fun t278 => (some (t278, 0))) else (if x274001 = 0 then ((pattern_Inf.f k x10).bind fun t279 => (some (t279, 8))) else (if x273001 = 0 then (soft_Div.j1 k x2 x10 (x273001 == 0) x273000 x273001 x273002 x273003 x273004 x274000 x274001 x274002 x274003 x274004) else (soft_Div.j1 k x2 x10 (x274001 == 3) x273000 x273001 x273002 x273003 x273004 x274000 x274001 x274002 x274003 x274004))))
def soft_Div.j1 : Nat → Int → Bool → Bool → Int → Int → Bool → Int → Int → Int → Int → Bool → Int → Int → Option (Int × Int)
  | 0, _, _, _, _, _, _, _, _, _, _, _, _, _ => none
  | k + 1, x2, x10, x59, x273000, x273001, x273002, x273003, x273004, x274000, x274001, x274002, x274003, x274004 => if x59 = true then ((soft_zero.f k x10).bind fun t280 => (some (t280, 0))) else ((wide_U128_Len.f 0 x273003).bind fun t281 => (if 0 ≤ (wrap64 (64 - t281)) then ((wide_U128_Div.f (shl .u64 x273003 (wrap64 (64 - t281))) 0 x274003).bind fun bt282 => ((round_Round.f k x10 bt282.1 bt282.2.1 (wrap64 ((wrap64 ((wrap64 (x273004 - (wrap64 (64 - t281)))) - 64)) - x274004)) (bt282.2.2 != 0) x2).bind fun bt286 => (some (bt286.1, bt286.2)))) else (none)))
end
def soft_Div.f (k : Nat) (a0 : Int) (a1 : Int) (a2 : Int) : Option (Int × Int) := (soft_of.f k a0).bind fun bt262 => ((soft_of.f k a1).bind fun bt267 => ((soft_either.f bt262.1 bt262.2.1 bt262.2.2.1 bt262.2.2.2.1 bt262.2.2.2.2 bt267.1 bt267.2.1 bt267.2.2.1 bt267.2.2.2.1 bt267.2.2.2.2 4).bind fun t274 => (if t274 = true then ((pattern_Quiet.f).bind fun t275 => (some (t275, 0))) else (if bt262.2.1 = bt267.2.1 then (if bt262.2.1 = 3 then (soft_Div.j0 k a2 (bt262.2.2.1 != bt267.2.2.1) true bt262.1 bt262.2.1 bt262.2.2.1 bt262.2.2.2.1 bt262.2.2.2.2 bt267.1 bt267.2.1 bt267.2.2.1 bt267.2.2.2.1 bt267.2.2.2.2) else (soft_Div.j0 k a2 (bt262.2.2.1 != bt267.2.2.1) (bt262.2.1 == 0) bt262.1 bt262.2.1 bt262.2.2.1 bt262.2.2.2.1 bt262.2.2.2.2 bt267.1 bt267.2.1 bt267.2.2.1 bt267.2.2.2.1 bt267.2.2.2.2)) else (soft_Div.j0 k a2 (bt262.2.2.1 != bt267.2.2.1) false bt262.1 bt262.2.1 bt262.2.2.1 bt262.2.2.2.1 bt262.2.2.2.2 bt267.1 bt267.2.1 bt267.2.2.1 bt267.2.2.2.1 bt267.2.2.2.2)))))
def wide_U128_Cmp.f (a0_0 : Int) (a0_1 : Int) (a1_0 : Int) (a1_1 : Int) : Option (Int) :=
  some (if a0_0 < a1_0 then -1 else if a1_0 < a0_0 then 1 else if a0_1 < a1_1 then -1 else if a1_1 < a0_1 then 1 else 0)
def wide_U128_Sqrt.l0 : Nat → Int → Int → Int → Int → Option (Int × Int × Int)
  | 0, _, _, _, _ => none
  | k + 1, x4, x5, x289000, x289001 => if x5 > 0 then ((wide_Mul.f (Go.bits .or .u64 x4 x5) (Go.bits .or .u64 x4 x5)).bind fun bt296 => ((wide_U128_Cmp.f bt296.1 bt296.2 x289000 x289001).bind fun t298 => (if t298 ≤ 0 then (wide_U128_Sqrt.l0 k (Go.bits .or .u64 x4 x5) (x5 / 2) x289000 x289001) else (wide_U128_Sqrt.l0 k x4 (x5 / 2) x289000 x289001)))) else ((wide_Mul.f x4 x4).bind fun bt290 => ((wide_U128_Sub.f x289000 x289001 bt290.1 bt290.2).bind fun bt292 => (some (x4, bt292.1, bt292.2.1))))
def wide_U128_Sqrt.f (k : Nat) (a0_0 : Int) (a0_1 : Int) : Option (Int × Int × Int) := wide_U128_Sqrt.l0 k 0 9223372036854775808 a0_0 a0_1
def soft_Sqrt.j0 : Nat → Int → Int → Bool → Int → Int → Bool → Int → Int → Option (Int × Int)
  | 0, _, _, _, _, _, _, _, _ => none
  | k + 1, x0, x1, x18, x305000, x305001, x305002, x305003, x305004 => if x18 = true then (some (x0, 0)) else (if x305002 = true then ((soft_invalid.f).bind fun bt306 => (some (bt306.1, bt306.2))) else ((wide_U128_Len.f 0 x305003).bind fun t309 => (if (Int.tmod (wrap64 (x305004 - (wrap64 (126 - t309)))) 2) = 0 then ((wide_U128_Shl.f k 0 x305003 (wrap64 (126 - t309))).bind fun bt310 => ((wide_U128_Sqrt.f k bt310.1 bt310.2).bind fun bt312 => ((round_Round.f k false 0 bt312.1 (wrap64 (Int.tdiv (wrap64 (x305004 - (wrap64 (126 - t309)))) 2)) (!(bt312.2.1 == 0) || (!(bt312.2.2 == 0))) x1).bind fun bt316 => (some (bt316.1, bt316.2))))) else ((wide_U128_Shl.f k 0 x305003 (wrap64 ((wrap64 (126 - t309)) + 1))).bind fun bt318 => ((wide_U128_Sqrt.f k bt318.1 bt318.2).bind fun bt320 => ((round_Round.f k false 0 bt320.1 (wrap64 (Int.tdiv (wrap64 (x305004 - (wrap64 ((wrap64 (126 - t309)) + 1)))) 2)) (!(bt320.2.1 == 0) || (!(bt320.2.2 == 0))) x1).bind fun bt324 => (some (bt324.1, bt324.2))))))))
def soft_Sqrt.f (k : Nat) (a0 : Int) (a1 : Int) : Option (Int × Int) := (soft_of.f k a0).bind fun bt299 => (if bt299.2.1 = 4 then ((pattern_Quiet.f).bind fun t305 => (some (t305, 0))) else (if bt299.2.1 = 0 then (soft_Sqrt.j0 k a0 a1 (bt299.2.1 == 0) bt299.1 bt299.2.1 bt299.2.2.1 bt299.2.2.2.1 bt299.2.2.2.2) else (if bt299.2.1 = 3 then (soft_Sqrt.j0 k a0 a1 (!bt299.2.2.1) bt299.1 bt299.2.1 bt299.2.2.1 bt299.2.2.2.1 bt299.2.2.2.2) else (soft_Sqrt.j0 k a0 a1 false bt299.1 bt299.2.1 bt299.2.2.1 bt299.2.2.2.1 bt299.2.2.2.2))))
def soft_Sum.l0 : Nat → Int → Int → List Int → Int → Int → Option (Int)
  | 0, _, _, _, _, _ => none
  | k + 1, x0, x5, x8, x9, x10 => if x10 < x9 then (if 0 ≤ x10 then (if x10 < (x8.length : Int) then ((soft_Add.f k x5 (rd x8 x10) x0).bind fun bt327 => (soft_Sum.l0 k x0 bt327.1 x8 x9 (wrap64 (x10 + 1)))) else (none)) else (none)) else (some x5)
def soft_Sum.f (k : Nat) (a0 : Int) (l1 : List Int) : Option (Int) := soft_Sum.l0 k a0 0 l1 (l1.length : Int) 0
def flyballlaw06_works.f (k : Nat)  : Option (Bool) := (soft_Add.f k 4607182418800017408 4368491638549381120 0).bind fun bt329 => ((soft_Add.f k 4607182418800017408 4368491638549381120 1).bind fun bt331 => ((soft_Sub.f k 4607182418800017408 4607182418800017408 0).bind fun bt333 => ((soft_Sub.f k 4607182418800017408 4607182418800017408 2).bind fun bt335 => ((soft_Div.f k 13830554455654793216 0 0).bind fun bt337 => ((soft_Sqrt.f k 4611686018427387904 0).bind fun bt339 => ((pattern_Inf.f k false).bind fun t341 => ((soft_Mul.f k 0 t341 0).bind fun bt342 => ((soft_Sum.f k 0 (([4607182418800017408, 4607182418800017408, 4607182418800017408] : List Int))).bind fun t347 => (if bt329.1 = 4607182418800017408 then (if bt329.2 = 1 then (if bt331.1 = 4607182418800017409 then (if bt333.1 = 0 then (if bt335.1 = 9223372036854775808 then ((pattern_Inf.f k true).bind fun t348 => (if bt337.1 = t348 then (if bt337.2 = 8 then (if bt339.1 = 4609047870845172685 then ((pattern_Quiet.f).bind fun t349 => (if bt342.1 = t349 then (if bt342.2 = 16 then (some (t347 == 4613937818241073152)) else (some false)) else (some false))) else (some false)) else (some false)) else (some false))) else (some false)) else (some false)) else (some false)) else (some false)) else (some false))))))))))
def pattern_key.f (a0 : Int) : Option (Int) := if (a0 / 9223372036854775808) = 1 then (some (wrap64 (-(wrap64 (Go.bits .andNot .u64 a0 9223372036854775808))))) else (some (wrap64 (Go.bits .andNot .u64 a0 9223372036854775808)))
def pattern_Cmp.j0 : Nat → Int → Int → Bool → Option (Int × Bool)
  | 0, _, _, _ => none
  | k + 1, x0, x1, x13 => if x13 = true then (some (0, false)) else ((pattern_key.f x0).bind fun t666 => ((pattern_key.f x1).bind fun t667 => (if t666 < t667 then (some ((-1), true)) else (if t666 > t667 then (some (1, true)) else (some (0, true))))))
def pattern_Cmp.f (k : Nat) (a0 : Int) (a1 : Int) : Option (Int × Bool) := (pattern_nan.f k a0).bind fun t664 => (if t664 = true then (pattern_Cmp.j0 k a0 a1 true) else ((pattern_nan.f k a1).bind fun t665 => (pattern_Cmp.j0 k a0 a1 t665)))
def flyballlaw06_SoftTurns.j0 : Nat → Int → Int → Bool → Int → Int → Int → Int → Int → Int → Int → Int → Int → Option (Bool)
  | 0, _, _, _, _, _, _, _, _, _, _, _, _ => none
  | k + 1, x0, x1, x7, x8, x9, x10, x11, x12, x13, x14, x15, x16 => (pattern_Neg.f k x0).bind fun t677 => ((pattern_Neg.f k x1).bind fun t678 => ((soft_Add.f k t677 t678 x16).bind fun bt679 => ((pattern_Neg.f k bt679.1).bind fun t681 => ((pattern_Cmp.f k t681 x8).bind fun bt682 => ((pattern_Class.f k x8).bind fun t684 => (if t684 = 4 then (if x7 = true then (if x8 = x10 then (if x9 = x11 then (if x12 = x14 then (if x13 = x15 then (some (bt679.1 == x8)) else (some false)) else (some false)) else (some false)) else (some false)) else (some false)) else (if x7 = true then (if x8 = x10 then (if x9 = x11 then (if x12 = x14 then (if x13 = x15 then (if bt682.1 = 0 then (some bt682.2) else (some false)) else (some false)) else (some false)) else (some false)) else (some false)) else (some false))))))))
def flyballlaw06_SoftTurns.f (k : Nat) (a0 : Int) (a1 : Int) (a2 : Int) : Option (Bool) := (flyballlaw06_works.f k).bind fun t668 => (if t668 = true then ((soft_Add.f k a0 a1 a2).bind fun bt669 => ((soft_Add.f k a1 a0 a2).bind fun bt671 => ((soft_Mul.f k a0 a1 a2).bind fun bt673 => ((soft_Mul.f k a1 a0 a2).bind fun bt675 => (if a2 = 1 then (flyballlaw06_SoftTurns.j0 k a0 a1 t668 bt669.1 bt669.2 bt671.1 bt671.2 bt673.1 bt673.2 bt675.1 bt675.2 2) else (if a2 = 2 then (flyballlaw06_SoftTurns.j0 k a0 a1 t668 bt669.1 bt669.2 bt671.1 bt671.2 bt673.1 bt673.2 bt675.1 bt675.2 1) else (flyballlaw06_SoftTurns.j0 k a0 a1 t668 bt669.1 bt669.2 bt671.1 bt671.2 bt673.1 bt673.2 bt675.1 bt675.2 a2))))))) else (some false))
def flyballlaw06_SoftTurns.Pure : Prop := ∀ (a0 : Int) (a1 : Int) (a2 : Int), (Lit.int .u64 a0).wf = true → (Lit.int .u64 a1).wf = true → (Lit.int .u8 a2).wf = true → ∃ k, flyballlaw06_SoftTurns.f k a0 a1 a2 = some true
end Go.Proofs.Ytmadjhmecfbcmaa.F
end
section
namespace Go.Proofs.Ytmadjhmecfbcmaa.F
open Go.RowKit Go.Proofs.YtmadjhmecfbcmaaW.PrintWords Go.Proofs.YtmadjhmecfbcmaaW.PrintLast Go.Proofs.YtmadjhmecfbcmaaW.PrintMore
attribute [local go_sem] max2_int min2_int max_two min_two max_three min_three max_four min_four
set_option linter.unusedVariables false
set_option linter.unusedSimpArgs false
def errW : Option Int → Value
 | none => .nilIface
 | some c => .iface 0 (.int .i64 c)
theorem errW_none : errW none = .nilIface := rfl
theorem errW_some (c : Int) : errW (some c) = .iface 0 (.int .i64 c) := rfl
end Go.Proofs.Ytmadjhmecfbcmaa.F
end
section
namespace Go.Proofs.Ytmadjhmecfbcmaa.F
open Go.RowKit Go.Proofs.YtmadjhmecfbcmaaW.PrintWords Go.Proofs.YtmadjhmecfbcmaaW.PrintLast Go.Proofs.YtmadjhmecfbcmaaW.PrintMore
section
variable {P : Program} {ops : Array Oper} {Q : Exit → Act → World → Prop} {rest : List Oper} {o : Oper} {a : Act} {w w' w1 W W' : World} {g n : Nat} {ob : Obj} {t : TypeId}
theorem zkb (h : Aside0 (w.heap[g]? = some ob)) (hb : Below w'.heap.size w' w1) (k : Below w.heap.size w w' := by (first | exact Below.refl _ _ | (repeat (first | exact Below.refl _ _ | (with_reducible first | apply pw_below_drewN | apply below_drew1 | apply below_alloc))))) : Aside0 (w1.heap[g]? = some ob) := ⟨blk_below (blk_below h.out k) hb⟩
theorem zkq (h : Aside0 (w.heap[g]? = some ob)) (k : Below w.heap.size w w' := by (first | exact Below.refl _ _ | (repeat (first | exact Below.refl _ _ | (with_reducible first | apply pw_below_drewN | apply below_drew1 | apply below_alloc))))) : w'.heap[g]? = some ob := blk_below h.out k
theorem zkB (h : Aside0 (Below w.heap.size w W)) (hb : Below W'.heap.size W' w1) (k : Below W.heap.size W W' := by (first | exact Below.refl _ _ | (repeat (first | exact Below.refl _ _ | (with_reducible first | apply pw_below_drewN | apply below_drew1 | apply below_alloc))))) : Aside0 (Below w.heap.size w w1) := ⟨below_step (below_step h.out k) hb⟩
theorem zkl (h : Aside0 (w.heap[g]? = some ob)) (hg : n = w'.heap.size) (k : Below w.heap.size w w' := by (first | exact Below.refl _ _ | (repeat (first | exact Below.refl _ _ | (with_reducible first | apply pw_below_drewN | apply below_drew1 | apply below_alloc))))) : Aside0 (g ≠ n) := ⟨by rw [hg]; exact Nat.ne_of_lt (blk_lt (zkq h k))⟩
theorem zkr (h : Aside0 (w.heap[g]? = some ob)) (hg : n = w'.heap.size) (k : Below w.heap.size w w' := by (first | exact Below.refl _ _ | (repeat (first | exact Below.refl _ _ | (with_reducible first | apply pw_below_drewN | apply below_drew1 | apply below_alloc))))) : Aside0 (n ≠ g) := ⟨(zkl h hg k).out.symm⟩
theorem zkz (h : Aside0 (Below w.heap.size w W)) (hg : n = W'.heap.size) (k : Below W.heap.size W W' := by (first | exact Below.refl _ _ | (repeat (first | exact Below.refl _ _ | (with_reducible first | apply pw_below_drewN | apply below_drew1 | apply below_alloc))))) : Aside0 (w.heap.size ≤ n) := ⟨by rw [hg]; exact below_size (below_step h.out k)⟩
theorem zkL (hg : n = w.heap.size) (h : w.heap[g]? = some ob) : Aside0 (g ≠ n) := ⟨by rw [hg]; exact Nat.ne_of_lt (blk_lt h)⟩
theorem zkZ (hg : n = W.heap.size) (h : Below w.heap.size w W) : Aside0 (w.heap.size ≤ n) := ⟨by rw [hg]; exact below_size h⟩
variable {v0 v1 v2 v3 v4 v5 v6 v7 : Value} {l : List Value}
theorem zc0 (h : Aside0 (w.heap[g]? = some (.cells (v0 :: l).toArray t (0, 0)))) : w.cell? ⟨g, 0, none⟩ = some v0 := (blk_cell h.out 0).trans rfl
theorem zc1 (h : Aside0 (w.heap[g]? = some (.cells (v0 :: v1 :: l).toArray t (0, 0)))) : w.cell? ⟨g, 1, none⟩ = some v1 := (blk_cell h.out 1).trans rfl
theorem zc2 (h : Aside0 (w.heap[g]? = some (.cells (v0 :: v1 :: v2 :: l).toArray t (0, 0)))) : w.cell? ⟨g, 2, none⟩ = some v2 := (blk_cell h.out 2).trans rfl
theorem zc3 (h : Aside0 (w.heap[g]? = some (.cells (v0 :: v1 :: v2 :: v3 :: l).toArray t (0, 0)))) : w.cell? ⟨g, 3, none⟩ = some v3 := (blk_cell h.out 3).trans rfl
theorem zc4 (h : Aside0 (w.heap[g]? = some (.cells (v0 :: v1 :: v2 :: v3 :: v4 :: l).toArray t (0, 0)))) : w.cell? ⟨g, 4, none⟩ = some v4 := (blk_cell h.out 4).trans rfl
theorem ze2 (h : Aside0 (w.heap[g]? = some (.cells (v0 :: v1 :: l).toArray t (0, 0)))) : w.cell? ⟨g, 0, none⟩ = some v0 ∧ w.cell? ⟨g, 1, none⟩ = some v1 := ⟨zc0 h, zc1 h⟩
theorem zk5 {R : Prop} (h : Aside0 (w.heap[g]? = some (.cells (v0 :: v1 :: v2 :: v3 :: v4 :: l).toArray t (0, 0)))) (r : R) : w.cell? ⟨g, 0, none⟩ = some v0 ∧ w.cell? ⟨g, 1, none⟩ = some v1 ∧ w.cell? ⟨g, 2, none⟩ = some v2 ∧ w.cell? ⟨g, 3, none⟩ = some v3 ∧ w.cell? ⟨g, 4, none⟩ = some v4 ∧ R := ⟨zc0 h, zc1 h, zc2 h, zc3 h, zc4 h, r⟩
theorem ze5 (h : Aside0 (w.heap[g]? = some (.cells (v0 :: v1 :: v2 :: v3 :: v4 :: l).toArray t (0, 0)))) : w.cell? ⟨g, 0, none⟩ = some v0 ∧ w.cell? ⟨g, 1, none⟩ = some v1 ∧ w.cell? ⟨g, 2, none⟩ = some v2 ∧ w.cell? ⟨g, 3, none⟩ = some v3 ∧ w.cell? ⟨g, 4, none⟩ = some v4 := ⟨zc0 h, zc1 h, zc2 h, zc3 h, zc4 h⟩
theorem zff {g' j j' : Nat} {u v : Value} (h : Aside0 (g ≠ g')) (e : w.cell? ⟨g, j, none⟩ = some v) : (w.setCell ⟨g', j', none⟩ u).cell? ⟨g, j, none⟩ = some v := (cell_far (p := ⟨g', j', none⟩) h.out _).trans e
theorem zkf {p : Addr} (h : w.heap[g]? = some ob) (hp : g ≠ p.block) (u : Value) : (w.setCell p u).heap[g]? = some ob := (Below.heap_setCell w p u g hp).trans h
theorem zks {x y : Nat} (h : Aside0 (x ≠ y)) : Aside0 (y ≠ x) := ⟨h.out.symm⟩
theorem zaB {p : Prop} (h : p := by repeat (first | (with_reducible first | exact HB.out | apply below_alloc | apply pw_below_drewN | apply below_drew1) | refine below_set ?_ (Aside0.out (by assumption)) | exact HB.out)) : p := h
theorem zaE {p : Prop} (h : p := by first | rfl | (simp [errW_none, errW_some] <;> rfl) | (simp [*, errW_none, errW_some] <;> rfl)) : p := h
theorem zbx (N : Tmp) (cs : Array Value) (t : TypeId) (hN : o.dst = some N := by with_reducible rfl) (hg : o.guard = none := by rfl)
    (hr : (execOp a.eval o).run P W = .ok (.value (.pointer (some ⟨W.heap.size, 0, none⟩))) (W.alloc (.cells cs t (0, 0))) := by first | (go_simp; done) | (go_simp; rfl))
    (h : ∀ g, g = W.heap.size → ∀ w1, w1.heap[g]? = some (.cells cs t (0, 0)) → Below W.heap.size W w1 → wpList P ops Q rest (a.put o.dst (.pointer (some ⟨g, 0, none⟩))) w1) : wpList P ops Q (o :: rest) a W :=
  box_event hg hN hr h
end
section
variable {P : Program} {ops : Array Oper} {Q : Exit → Act → World → Prop} {md : Region.Mode} {S : World → Prop} {ds : List Nat} {oi : Oper} {v : Value} {fuel : Nat} {l l' : Array Bool} {a a' : Act} {w W x : World} {K : Act → World → Prop} {rest : List Oper}
theorem zpA (i : Nat) (N : Tmp) (hi : ops[i]? = some oi := by exact rfl) (hN : oi.dst = some N := by exact rfl) (_hl : l.setIfInBounds i true = l' := by simp only [List.setIfInBounds_toArray, List.set_cons_zero, List.set_cons_succ]; exact rfl)
    (hc : anyB md ops l l' i = true := by exact any_of HT_.out (by kernel_rfl)) (hy : Yields P ops oi v a := by (refine Or.inl ⟨by rfl, ?_⟩; intro w'; go_simp; with_reducible rfl))
    (hQ : ∀ c a w, Q (.panic c) (a.put oi.dst v) w → Q (.panic c) a w := by exact fun _ _ _ h => h) (ha : a.put (some N) v = a' := by simp only [Act.put, List.setIfInBounds_toArray, List.set_cons_zero, List.set_cons_succ, i64_w, i32_w]; rfl)
    (h : wpAnyLast P md ops Q S ds fuel l' a' w) : wpAnyLast P md ops Q S ds (fuel + 1) l a w := pure_ l' hi hN hc hQ hy ha h
theorem zpU (i : Nat) (N : Tmp) (hi : ops[i]? = some oi := by exact rfl) (hN : oi.dst = some N := by exact rfl) (_hl : l.setIfInBounds i true = l' := by simp only [List.setIfInBounds_toArray, List.set_cons_zero, List.set_cons_succ]; exact rfl)
    (hc : anyB md ops l l' i = true := by exact any_of HT_.out (by kernel_rfl)) (hy : Yields P ops oi undef a := by exact Or.inr ⟨by rfl, rfl⟩)
    (hQ : ∀ c a w, Q (.panic c) (a.put oi.dst undef) w → Q (.panic c) a w := by exact fun _ _ _ h => h) (ha : a.put (some N) undef = a' := by simp only [Act.put, List.setIfInBounds_toArray, List.set_cons_zero, List.set_cons_succ, i64_w, i32_w]; rfl)
    (h : wpAnyLast P md ops Q S ds fuel l' a' w) : wpAnyLast P md ops Q S ds (fuel + 1) l a w := pure_ l' hi hN hc hQ hy ha h
theorem ztA (i : Nat) (N : Tmp) (hi : ops[i]? = some oi := by exact rfl) (hN : oi.dst = some N := by exact rfl) (_hl : l.setIfInBounds i true = l' := by simp only [List.setIfInBounds_toArray, List.set_cons_zero, List.set_cons_succ]; exact rfl)
    (hc : takeB md ops ds l l' i = true := by exact take_ofW HT_.out HW_.out (by kernel_rfl)) (hy : YieldsIf P ops S oi v a := by (refine Or.inl ⟨by rfl, ?_⟩; intro w' s_; (repeat (obtain ⟨_, s_⟩ := s_)); go_simp; with_reducible rfl))
    (hQ : ∀ c a w, Q (.panic c) (a.put oi.dst v) w → Q (.panic c) a w := by exact fun _ _ _ h => h) (hS : S w := by exact hHeld) (ha : a.put (some N) v = a' := by simp only [Act.put, List.setIfInBounds_toArray, List.set_cons_zero, List.set_cons_succ, i64_w, i32_w]; rfl)
    (h : wpAnyLast P md ops Q S ds fuel l' a' w) : wpAnyLast P md ops Q S ds (fuel + 1) l a w := take_ l' hi hN hc hQ hy hS ha h
theorem zoA (i : Nat) (N : Tmp) (hi : ops[i]? = some oi := by exact rfl) (hN : oi.dst = some N := by exact rfl) (_hl : l.setIfInBounds i true = l' := by simp only [List.setIfInBounds_toArray, List.set_cons_zero, List.set_cons_succ]; exact rfl)
    (hc : readyB md ops l l' i = true := by exact one_of HT_.out (by kernel_rfl)) (hd : i ∉ ds := by decide)
    (h : ∀ K : Act → World → Prop, Shut (∀ a' w', S w' → (S w' → wpAnyLast P md ops Q S ds fuel l' a' w') → K a' w') → if Region.wanted oi (yielded ops a.tmps) = true then Oper.wp P oi a w K Q else K (a.put (some N) undef) w) :
    wpAnyLast P md ops Q S ds (fuel + 1) l a w := one_ l' hi hN hc hd h
theorem znA (N : Tmp) (ha : a.put (some N) v = a' := by simp only [Act.put, List.setIfInBounds_toArray, List.set_cons_zero, List.set_cons_succ, i64_w, i32_w]; rfl) (h : wpAnyLast P md ops Q S ds fuel l a' w) : wpAnyLast P md ops Q S ds fuel l (a.put (some N) v) w := norm_ ha h
theorem zgA {f : FuncId} {fn : Func} {ars : Array Operand} {ts : Array TypeId} {args : Array Value} {N : Option Tmp} {R : World → Prop} (hf : P.funcs[f]? = some fn) (hc : Calls P f args w (fun e w' => e = .returned v ∧ R w')) (hname : (fn.name == "runtime.NumGoroutine") = false := by kernel_rfl) (hb : fn.body.isSome = true := by exact rfl)
    (hw : Region.wanted oi (yielded ops a.tmps) = true := by rfl) (hN : oi.dst = N := by exact rfl) (hop : oi.op = .call { callee := .value (.func f), args := ars, argTypes := ts } := by exact rfl)
    (hargs : ars.map a.eval = args := by (try simp only [List.map_toArray, List.map_cons, List.map_nil]); first | done | rfl | (simp only [List.length_drop, List.length_take]; rfl))
    (h : ∀ w', R w' → K (a.put N v) w') : if Region.wanted oi (yielded ops a.tmps) = true then Oper.wp P oi a w K Q else K (a.put N undef) w :=
  goes_ hf hname hb args hw hN hop hargs (hc.mono fun _ _ h2 => ⟨v, h2.1, h _ h2.2⟩)
theorem zgL {f : FuncId} {fn : Func} {ars : Array Operand} {ts : Array TypeId} {args : Array Value} (N : Tmp) {R : World → Prop} (hf : P.funcs[f]? = some fn) (hc : Calls P f args w (fun e w' => e = .returned v ∧ R w')) (hd : oi.dst = some N := by exact rfl) (hg : oi.guard = none := by exact rfl) (hname : (fn.name == "runtime.NumGoroutine") = false := by kernel_rfl) (hb : fn.body.isSome = true := by exact rfl)
    (hop : oi.op = .call { callee := .value (.func f), args := ars, argTypes := ts } := by exact rfl)
    (hargs : ars.map a.eval = args := by (try simp only [List.map_toArray, List.map_cons, List.map_nil]); first | done | rfl | (simp only [List.length_drop, List.length_take]; rfl))
    (h : ∀ w', R w' → wpList P ops Q rest (a.put (some N) v) w') : wpList P ops Q (oi :: rest) a w :=
  goesL_ (some N) hd hg hf hname hb args hop hargs (hc.mono fun _ _ h2 => ⟨v, h2.1, h _ h2.2⟩)
theorem zkg {g : Nat} {ob : Obj} (e : W = x) (h : W.heap[g]? = some ob) : Aside0 (x.heap[g]? = some ob) := ⟨e ▸ h⟩
theorem zkG {B : Nat} (e : W = x) (h : Below B w W) : Aside0 (Below B w x) := ⟨e ▸ h⟩
theorem zbs {α β : Type} {y : Option α} {f : α → Option β} {r : β} (h : y.bind f = some r) : ∃ b, Aside0 (y = some b) ∧ f b = some r := by
  obtain ⟨b, h1, h2⟩ := Option.bind_eq_some_iff.mp h
  exact ⟨b, ⟨h1⟩, h2⟩
end
end Go.Proofs.Ytmadjhmecfbcmaa.F
end
section
namespace Go.Proofs.Ytmadjhmecfbcmaa.F
open Go.RowKit Go.Proofs.YtmadjhmecfbcmaaW.PrintWords Go.Proofs.YtmadjhmecfbcmaaW.PrintLast Go.Proofs.YtmadjhmecfbcmaaW.PrintMore
attribute [local go_sem] max2_int min2_int max_two min_two max_three min_three max_four min_four
set_option linter.unusedVariables false
set_option linter.unusedSimpArgs false
set_option maxHeartbeats 8000000 in
set_option maxRecDepth 100000 in
theorem pattern_Parts.calls (a0 : Int) (r1 : Bool) (r2 : Int) (r3 : Int) (w : World) (h : pattern_Parts.f a0 = some (r1, r2, r3)) :
  Calls Try.prog 98 #[.int .u64 a0] w fun e w' => e = .returned (.tuple #[.bool r1, .int .i64 r2, .int .u64 r3]) ∧ Drawn0 w w' := by
 have H : (some (((a0 / 9223372036854775808) == 1), wrap64 (Go.bits .and .u64 (a0 / 4503599627370496) 2047), Go.bits .and .u64 a0 4503599627370495)) = some (r1, r2, r3) := h
 clear h
 simp only [Option.some.injEq, Prod.mk.injEq] at H
 obtain ⟨rfl, rfl, rfl⟩ := H
 go_enter Try.func98, Try.ntmps98
 go_wp2
 go_ret3
 exact ⟨by first | rfl | (simp; done) | (simp [*]; done), by repeat (first | exact Drawn0.refl _ | apply Drawn0.step)⟩
end Go.Proofs.Ytmadjhmecfbcmaa.F
end
section
namespace Go.Proofs.Ytmadjhmecfbcmaa.F
open Go.RowKit Go.Proofs.YtmadjhmecfbcmaaW.PrintWords Go.Proofs.YtmadjhmecfbcmaaW.PrintLast Go.Proofs.YtmadjhmecfbcmaaW.PrintMore
attribute [local go_sem] max2_int min2_int max_two min_two max_three min_three max_four min_four
set_option linter.unusedVariables false
set_option linter.unusedSimpArgs false
set_option maxHeartbeats 8000000 in
set_option maxRecDepth 100000 in
theorem pattern_Class.calls (k : Nat) (a0 : Int) (r : Int) (w : World) (h : pattern_Class.f k a0 = some r) :
  Calls Try.prog 24 #[.int .u64 a0] w fun e w' => e = .returned (.int .u8 r) ∧ Drawn0 w w' := by
 have H : ((pattern_Parts.f a0).bind fun bt101 => (if bt101.2.1 = 2047 then (pattern_Class.j0 k bt101.2.1 bt101.2.2 (bt101.2.2 == 0)) else (pattern_Class.j0 k bt101.2.1 bt101.2.2 false))) = some r := h
 clear h
 obtain ⟨⟨t101, t102, t103⟩, A2, H⟩ := zbs H
 try dsimp only at H
 have HC3 := Aside0.mk H
 clear H
 go_enter Try.func24, Try.ntmps24
 go_upto_region 2 with (first | ((with_reducible refine gate_callee (f := 98) rfl ?_); refine zgL 8 Try.func98 (pattern_Parts.calls a0 t101 t102 t103 _ A2.out) (h := ?_); rintro w' ⟨nd, rfl⟩))
 (try simp only [Act.put, List.setIfInBounds_toArray, List.set_cons_zero, List.set_cons_succ])
 go_cut [12] (fun v12 wc => ∃ (kq : Nat) (x12_2 : Bool), v12 = .bool x12_2 ∧ Aside0 (pattern_Class.j0 kq t102 t103 x12_2 = some r) ∧ Aside0 (kq ≤ k) ∧ Drawn0 w wc)
 case first =>
  have H := HC3.out
  clear HC3
  by_cases c4 : t102 = 2047
  ·rw [if_pos c4] at H
   have c4b0 : (t102 == 2047) = true := beq_iff_eq.mpr c4
   have c4b1 : (t102 != 2047) = false := bne_eq_false_iff_eq.mpr c4
   clear c4
   (first | rw [c4b0] | (simp only [i64_w, i32_w]; rw [c4b0]) | skip)
   have H' := Aside0.mk H
   clear H
   go_wp2
   go_meet
   case rel => exact ⟨_, ((t103 == 0)), (by first | rfl | (simp; done) | (simp [*]; done)), H', ⟨by first | omega | exact Nat.le_refl _⟩, by repeat (first | exact Drawn0.refl _ | apply Drawn0.step)⟩
  ·rw [if_neg c4] at H
   have c4b0 : (t102 == 2047) = false := beq_eq_false_iff_ne.mpr c4
   have c4b1 : (t102 != 2047) = true := bne_iff_ne.mpr c4
   (first | rw [c4b0] | (simp only [i64_w, i32_w]; rw [c4b0]) | skip)
   have H' := Aside0.mk H
   clear H
   go_wp2
   go_meet
   case rel => exact ⟨_, (false), (by first | rfl | (simp; done) | (simp [*]; done)), H', ⟨by first | omega | exact Nat.le_refl _⟩, by repeat (first | exact Drawn0.refl _ | apply Drawn0.step)⟩
 case rest =>
  clear HC3
  try clear c2
  try clear p2
  try clear c4
  try clear c4b0
  try clear c4b1
  obtain ⟨kq, x12_2, rfl, HA, HJ2, ⟨mc2, rfl⟩⟩ := hcut
  cases kq with
  | zero => exact absurd HA.out (by simp [pattern_Class.j0])
  | succ kj2 =>
   have H := HA.out
   clear HA
   simp only [pattern_Class.j0] at H
   by_cases c5 : x12_2 = true
   ·subst c5
    have H1 : (some 3) = some r := by rw [if_pos rfl] at H; exact H
    clear H
    have H := H1
    clear H1
    obtain rfl := Option.some.inj H
    go_wp2
    go_ret
    exact ⟨by first | rfl | (simp; done) | (simp [*]; done), by repeat (first | exact Drawn0.refl _ | apply Drawn0.step)⟩
   ·replace c5 := Bool.eq_false_iff.mpr c5
    subst c5
    have H1 : (if t102 = 2047 then (some 4) else (if t102 = 0 then (pattern_Class.j1 kj2 t102 (t103 == 0)) else (pattern_Class.j1 kj2 t102 false))) = some r := by rw [if_neg (show ¬ (false = true) by decide)] at H; exact H
    clear H
    have H := H1
    clear H1
    by_cases c6 : t102 = 2047
    ·rw [if_pos c6] at H
     have c6b0 : (t102 == 2047) = true := beq_iff_eq.mpr c6
     have c6b1 : (t102 != 2047) = false := bne_eq_false_iff_eq.mpr c6
     clear c6
     obtain rfl := Option.some.inj H
     go_wp2
     go_ret
     exact ⟨by first | rfl | (simp; done) | (simp [*]; done), by repeat (first | exact Drawn0.refl _ | apply Drawn0.step)⟩
    ·rw [if_neg c6] at H
     have c6b0 : (t102 == 2047) = false := beq_eq_false_iff_ne.mpr c6
     have c6b1 : (t102 != 2047) = true := bne_iff_ne.mpr c6
     have HC7 := Aside0.mk H
     clear H
     go_upto_region 6 with (fail)
     go_cut [22] (fun v22 wc => ∃ (kq : Nat) (x22_6 : Bool), v22 = .bool x22_6 ∧ Aside0 (pattern_Class.j1 kq t102 x22_6 = some r) ∧ Aside0 (kq ≤ kj2) ∧ Drawn0 w wc)
     case first =>
      have H := HC7.out
      clear HC7
      by_cases c8 : t102 = 0
      ·rw [if_pos c8] at H
       have c8b0 : (t102 == 0) = true := beq_iff_eq.mpr c8
       have c8b1 : (t102 != 0) = false := bne_eq_false_iff_eq.mpr c8
       clear c8
       (first | rw [c8b0] | (simp only [i64_w, i32_w]; rw [c8b0]) | skip)
       have H' := Aside0.mk H
       clear H
       go_wp2
       go_meet
       case rel => exact ⟨_, ((t103 == 0)), (by first | rfl | (simp; done) | (simp [*]; done)), H', ⟨by have := HJ2.out; first | omega | exact Nat.le_refl _⟩, by repeat (first | exact Drawn0.refl _ | apply Drawn0.step)⟩
      ·rw [if_neg c8] at H
       have c8b0 : (t102 == 0) = false := beq_eq_false_iff_ne.mpr c8
       have c8b1 : (t102 != 0) = true := bne_iff_ne.mpr c8
       (first | rw [c8b0] | (simp only [i64_w, i32_w]; rw [c8b0]) | skip)
       have H' := Aside0.mk H
       clear H
       go_wp2
       go_meet
       case rel => exact ⟨_, (false), (by first | rfl | (simp; done) | (simp [*]; done)), H', ⟨by have := HJ2.out; first | omega | exact Nat.le_refl _⟩, by repeat (first | exact Drawn0.refl _ | apply Drawn0.step)⟩
     case rest =>
      clear HC7
      try clear c2
      try clear p2
      try clear c4
      try clear c4b0
      try clear c4b1
      try clear c5
      try clear c6
      try clear c6b0
      try clear c6b1
      try clear c8
      try clear c8b0
      try clear c8b1
      try clear p2
      obtain ⟨kq, x22_6, rfl, HA, HJ6, ⟨mc6, rfl⟩⟩ := hcut
      cases kq with
      | zero => exact absurd HA.out (by simp [pattern_Class.j1])
      | succ kj6 =>
       have H := HA.out
       clear HA
       simp only [pattern_Class.j1] at H
       by_cases c9 : x22_6 = true
       ·subst c9
        have H1 : (some 0) = some r := by rw [if_pos rfl] at H; exact H
        clear H
        have H := H1
        clear H1
        obtain rfl := Option.some.inj H
        go_wp2
        go_ret
        exact ⟨by first | rfl | (simp; done) | (simp [*]; done), by repeat (first | exact Drawn0.refl _ | apply Drawn0.step)⟩
       ·replace c9 := Bool.eq_false_iff.mpr c9
        subst c9
        have H1 : (if t102 = 0 then (some 1) else (some 2)) = some r := by rw [if_neg (show ¬ (false = true) by decide)] at H; exact H
        clear H
        have H := H1
        clear H1
        by_cases c10 : t102 = 0
        ·rw [if_pos c10] at H
         have c10b0 : (t102 == 0) = true := beq_iff_eq.mpr c10
         have c10b1 : (t102 != 0) = false := bne_eq_false_iff_eq.mpr c10
         clear c10
         obtain rfl := Option.some.inj H
         go_wp2
         go_ret
         exact ⟨by first | rfl | (simp; done) | (simp [*]; done), by repeat (first | exact Drawn0.refl _ | apply Drawn0.step)⟩
        ·rw [if_neg c10] at H
         have c10b0 : (t102 == 0) = false := beq_eq_false_iff_ne.mpr c10
         have c10b1 : (t102 != 0) = true := bne_iff_ne.mpr c10
         obtain rfl := Option.some.inj H
         go_wp2
         go_ret
         exact ⟨by first | rfl | (simp; done) | (simp [*]; done), by repeat (first | exact Drawn0.refl _ | apply Drawn0.step)⟩
end Go.Proofs.Ytmadjhmecfbcmaa.F
end
section
namespace Go.Proofs.Ytmadjhmecfbcmaa.F
open Go.RowKit Go.Proofs.YtmadjhmecfbcmaaW.PrintWords Go.Proofs.YtmadjhmecfbcmaaW.PrintLast Go.Proofs.YtmadjhmecfbcmaaW.PrintMore
attribute [local go_sem] max2_int min2_int max_two min_two max_three min_three max_four min_four
set_option linter.unusedVariables false
set_option linter.unusedSimpArgs false
set_option maxHeartbeats 8000000 in
set_option maxRecDepth 100000 in
theorem pattern_Quiet.calls  (r : Int) (w : World) (h : pattern_Quiet.f  = some r) :
  Calls Try.prog 81 #[] w fun e w' => e = .returned (.int .u64 r) ∧ Drawn0 w w' := by
 have H : (some 9221120237041090560) = some r := h
 clear h
 obtain rfl := Option.some.inj H
 go_enter Try.func81, Try.ntmps81
 go_wp2
 go_ret
 exact ⟨by first | rfl | (simp; done) | (simp [*]; done), by repeat (first | exact Drawn0.refl _ | apply Drawn0.step)⟩
end Go.Proofs.Ytmadjhmecfbcmaa.F
end
section
namespace Go.Proofs.Ytmadjhmecfbcmaa.F
open Go.RowKit Go.Proofs.YtmadjhmecfbcmaaW.PrintWords Go.Proofs.YtmadjhmecfbcmaaW.PrintLast Go.Proofs.YtmadjhmecfbcmaaW.PrintMore
attribute [local go_sem] max2_int min2_int max_two min_two max_three min_three max_four min_four
set_option linter.unusedVariables false
set_option linter.unusedSimpArgs false
set_option maxHeartbeats 8000000 in
set_option maxRecDepth 100000 in
theorem pattern_Split.calls (k : Nat) (a0 : Int) (r1 : Int) (r2 : Int) (w : World) (h : pattern_Split.f k a0 = some (r1, r2)) :
  Calls Try.prog 140 #[.int .u64 a0] w fun e w' => e = .returned (.tuple #[.int .u64 r1, .int .i64 r2]) ∧ Drawn0 w w' := by
 have H : ((pattern_Parts.f a0).bind fun bt104 => ((pattern_Class.f k a0).bind fun t107 => (if t107 = 2 then (some (Go.bits .or .u64 4503599627370496 bt104.2.2, wrap64 (bt104.2.1 - 1075))) else (if t107 = 1 then (some (bt104.2.2, (-1074))) else (some (0, 0)))))) = some (r1, r2) := h
 clear h
 obtain ⟨⟨t104, t105, t106⟩, A2, H⟩ := zbs H
 try dsimp only at H
 obtain ⟨t107, A3, H⟩ := zbs H
 try dsimp only at H
 by_cases c4 : t107 = 2
 ·rw [if_pos c4] at H
  have c4b0 : (t107 == 2) = true := beq_iff_eq.mpr c4
  have c4b1 : (t107 != 2) = false := bne_eq_false_iff_eq.mpr c4
  clear c4
  simp only [Option.some.injEq, Prod.mk.injEq] at H
  obtain ⟨rfl, rfl⟩ := H
  go_enter Try.func140, Try.ntmps140
  go_wp2_with (first | ((with_reducible refine gate_callee (f := 98) rfl ?_); refine zgL 9 Try.func98 (pattern_Parts.calls a0 t104 t105 t106 _ A2.out) (h := ?_); rintro w' ⟨nd, rfl⟩) | ((with_reducible refine gate_callee (f := 24) rfl ?_); refine zgL 14 Try.func24 (pattern_Class.calls k a0 t107 _ A3.out) (h := ?_); rintro w' ⟨nd, rfl⟩))
  go_ret2
  exact ⟨by first | rfl | (simp; done) | (simp [*]; done), by repeat (first | exact Drawn0.refl _ | apply Drawn0.step)⟩
 ·rw [if_neg c4] at H
  have c4b0 : (t107 == 2) = false := beq_eq_false_iff_ne.mpr c4
  have c4b1 : (t107 != 2) = true := bne_iff_ne.mpr c4
  by_cases c5 : t107 = 1
  ·rw [if_pos c5] at H
   have c5b0 : (t107 == 1) = true := beq_iff_eq.mpr c5
   have c5b1 : (t107 != 1) = false := bne_eq_false_iff_eq.mpr c5
   clear c5
   simp only [Option.some.injEq, Prod.mk.injEq] at H
   obtain ⟨rfl, rfl⟩ := H
   go_enter Try.func140, Try.ntmps140
   go_wp2_with (first | ((with_reducible refine gate_callee (f := 98) rfl ?_); refine zgL 9 Try.func98 (pattern_Parts.calls a0 t104 t105 t106 _ A2.out) (h := ?_); rintro w' ⟨nd, rfl⟩) | ((with_reducible refine gate_callee (f := 24) rfl ?_); refine zgL 14 Try.func24 (pattern_Class.calls k a0 t107 _ A3.out) (h := ?_); rintro w' ⟨nd, rfl⟩))
   go_ret2
   exact ⟨by first | rfl | (simp; done) | (simp [*]; done), by repeat (first | exact Drawn0.refl _ | apply Drawn0.step)⟩
  ·rw [if_neg c5] at H
   have c5b0 : (t107 == 1) = false := beq_eq_false_iff_ne.mpr c5
   have c5b1 : (t107 != 1) = true := bne_iff_ne.mpr c5
   simp only [Option.some.injEq, Prod.mk.injEq] at H
   obtain ⟨rfl, rfl⟩ := H
   go_enter Try.func140, Try.ntmps140
   go_wp2_with (first | ((with_reducible refine gate_callee (f := 98) rfl ?_); refine zgL 9 Try.func98 (pattern_Parts.calls a0 t104 t105 t106 _ A2.out) (h := ?_); rintro w' ⟨nd, rfl⟩) | ((with_reducible refine gate_callee (f := 24) rfl ?_); refine zgL 14 Try.func24 (pattern_Class.calls k a0 t107 _ A3.out) (h := ?_); rintro w' ⟨nd, rfl⟩))
   go_ret2
   exact ⟨by first | rfl | (simp; done) | (simp [*]; done), by repeat (first | exact Drawn0.refl _ | apply Drawn0.step)⟩
end Go.Proofs.Ytmadjhmecfbcmaa.F
end
section
namespace Go.Proofs.Ytmadjhmecfbcmaa.F
open Go.RowKit Go.Proofs.YtmadjhmecfbcmaaW.PrintWords Go.Proofs.YtmadjhmecfbcmaaW.PrintLast Go.Proofs.YtmadjhmecfbcmaaW.PrintMore
attribute [local go_sem] max2_int min2_int max_two min_two max_three min_three max_four min_four
set_option linter.unusedVariables false
set_option linter.unusedSimpArgs false
set_option maxHeartbeats 8000000 in
set_option maxRecDepth 100000 in
theorem soft_of.calls (k : Nat) (a0 : Int) (r1 : Int) (r2 : Int) (r3 : Bool) (r4 : Int) (r5 : Int) (w : World) (h : soft_of.f k a0 = some (r1, r2, r3, r4, r5)) :
  Calls Try.prog 82 #[.int .u64 a0] w fun e w' => e = .returned (.agg #[.int .u64 r1, .int .u8 r2, .bool r3, .int .u64 r4, .int .i64 r5]) ∧ Below w.heap.size w w' := by
 have hu88 := Try.underlying88
 have HB := Aside0.mk (Below.refl w.heap.size w)
 have H : ((pattern_Split.f k a0).bind fun bt109 => ((pattern_Class.f k a0).bind fun t111 => (some (a0, t111, ((a0 / 9223372036854775808) == 1), bt109.1, bt109.2)))) = some (r1, r2, r3, r4, r5) := h
 clear h
 obtain ⟨⟨t109, t110⟩, A2, H⟩ := zbs H
 try dsimp only at H
 obtain ⟨t111, A3, H⟩ := zbs H
 try dsimp only at H
 simp only [Option.some.injEq, Prod.mk.injEq] at H
 obtain ⟨rfl, rfl, rfl, rfl, rfl⟩ := H
 go_enter Try.func82, Try.ntmps82
 go_wp2_with (first | ((with_reducible refine gate_dst (N := 2) rfl ?_); refine zbx 2 #[.int .u64 0, .int .u8 0, .bool false, .int .u64 0, .int .i64 0] 88 (h := ?_); intro gb108 hg w4 hbox hb; have GW108 := zkZ hg (zaB (p := Below w.heap.size w _)); have GE108 := GW108; replace HB := Aside0.mk (below_step zaB hb); have BK108 := Aside0.mk (hbox); clear hb hbox hg) | ((with_reducible refine gate_callee (f := 140) rfl ?_); refine zgL 7 Try.func140 (pattern_Split.calls k a0 t109 t110 _ A2.out) (h := ?_); rintro w' ⟨nd, rfl⟩; (try (rw [drewN_self w4]; generalize hq_ : World.drewN w4 _ = w4; have n0_ : Aside0 (w4.heap[gb108]? = some (.cells #[.int .u64 0, .int .u8 0, .bool false, .int .u64 0, .int .i64 0] 88 (0, 0))) := ⟨by rw [← hq_]; exact (zkq BK108)⟩; have n1_ : Aside0 (Below w.heap.size w w4) := ⟨by rw [← hq_]; exact zaB⟩; clear BK108 HB hq_; have BK108 := n0_; have HB := n1_; clear n0_ n1_))) | ((with_reducible refine gate_callee (f := 24) rfl ?_); refine zgL 12 Try.func24 (pattern_Class.calls k a0 t111 _ A3.out) (h := ?_); rintro w' ⟨nd, rfl⟩; (try (rw [drewN_self w4]; generalize hq_ : World.drewN w4 _ = w4; have n0_ : Aside0 (w4.heap[gb108]? = some (.cells #[.int .u64 0, .int .u8 0, .bool false, .int .u64 0, .int .i64 0] 88 (0, 0))) := ⟨by rw [← hq_]; exact (zkq BK108)⟩; have n1_ : Aside0 (Below w.heap.size w w4) := ⟨by rw [← hq_]; exact zaB⟩; clear BK108 HB hq_; have BK108 := n0_; have HB := n1_; clear n0_ n1_)); have hcz5_0 := zc0 BK108; have hcz5_1 := zc1 BK108; have hcz5_2 := zc2 BK108; have hcz5_3 := zc3 BK108; have hcz5_4 := zc4 BK108; have hfz5_0 := blk_frozen BK108.out 0; have hfz5_1 := blk_frozen BK108.out 1; have hfz5_2 := blk_frozen BK108.out 2; have hfz5_3 := blk_frozen BK108.out 3; have hfz5_4 := blk_frozen BK108.out 4))
 refine bodyPost_ret (results_cell_row rfl _ _ gb108 88 #[.int .u64 a0, .int .u8 t111, .bool ((a0 / 9223372036854775808) == 1), .int .u64 t109, .int .i64 t110] (0, 0) _ rfl (blk_put (cs := #[.int .u64 a0, .int .u8 t111, .bool ((a0 / 9223372036854775808) == 1), .int .u64 t109, .int .i64 0]) (blk_put (cs := #[.int .u64 a0, .int .u8 t111, .bool ((a0 / 9223372036854775808) == 1), .int .u64 0, .int .i64 0]) (blk_put (cs := #[.int .u64 a0, .int .u8 t111, .bool false, .int .u64 0, .int .i64 0]) (blk_put (cs := #[.int .u64 a0, .int .u8 0, .bool false, .int .u64 0, .int .i64 0]) (blk_put (zkq BK108) 0 _ rfl) 1 _ rfl) 2 _ rfl) 3 _ rfl) 4 _ rfl) Try.underlying88 rfl (by kernel_rfl)) rfl ?_
 exact ⟨zaE, zaB⟩
end Go.Proofs.Ytmadjhmecfbcmaa.F
end
section
namespace Go.Proofs.Ytmadjhmecfbcmaa.F
open Go.RowKit Go.Proofs.YtmadjhmecfbcmaaW.PrintWords Go.Proofs.YtmadjhmecfbcmaaW.PrintLast Go.Proofs.YtmadjhmecfbcmaaW.PrintMore
attribute [local go_sem] max2_int min2_int max_two min_two max_three min_three max_four min_four
set_option linter.unusedVariables false
set_option linter.unusedSimpArgs false
set_option maxHeartbeats 8000000 in
set_option maxRecDepth 100000 in
theorem soft_either.calls (a0_0 : Int) (a0_1 : Int) (a0_2 : Bool) (a0_3 : Int) (a0_4 : Int) (a1_0 : Int) (a1_1 : Int) (a1_2 : Bool) (a1_3 : Int) (a1_4 : Int) (a2 : Int) (r : Bool) (w : World) (h : soft_either.f a0_0 a0_1 a0_2 a0_3 a0_4 a1_0 a1_1 a1_2 a1_3 a1_4 a2 = some r) :
  Calls Try.prog 83 #[.agg #[.int .u64 a0_0, .int .u8 a0_1, .bool a0_2, .int .u64 a0_3, .int .i64 a0_4], .agg #[.int .u64 a1_0, .int .u8 a1_1, .bool a1_2, .int .u64 a1_3, .int .i64 a1_4], .int .u8 a2] w fun e w' => e = .returned (.bool r) ∧ Below w.heap.size w w' := by
 have hu88 := Try.underlying88
 have HB := Aside0.mk (Below.refl w.heap.size w)
 have H : (if a0_1 = a2 then (some true) else (some (a1_1 == a2))) = some r := h
 clear h
 by_cases c4 : a0_1 = a2
 ·rw [if_pos c4] at H
  have c4b0 : (a0_1 == a2) = true := beq_iff_eq.mpr c4
  have c4b1 : (a0_1 != a2) = false := bne_eq_false_iff_eq.mpr c4
  clear c4
  obtain rfl := Option.some.inj H
  go_enter Try.func83, Try.ntmps83
  go_wp2_with (first | ((with_reducible refine gate_dst (N := 3) rfl ?_); refine zbx 3 #[.int .u64 a0_0, .int .u8 a0_1, .bool a0_2, .int .u64 a0_3, .int .i64 a0_4] 88 (h := ?_); intro gb112 hg w5 hbox hb; have GW112 := zkZ hg (zaB (p := Below w.heap.size w _)); have GE112 := GW112; replace HB := Aside0.mk (below_step zaB hb); have BK112 := Aside0.mk (hbox); clear hb hbox hg) | ((with_reducible refine gate_dst (N := 4) rfl ?_); refine zbx 4 #[.int .u64 a1_0, .int .u8 a1_1, .bool a1_2, .int .u64 a1_3, .int .i64 a1_4] 88 (h := ?_); intro gb113 hg w6 hbox hb; have GW113 := zkz HB hg; have GE113 := GW113; have NB112_113 := zkl BK112 hg; have NB113_112 := zkr BK112 hg; replace BK112 := zkb BK112 hb; replace HB := zkB HB hb; have BK113 := Aside0.mk (hbox); clear hb hbox hg; have hnb7 := NB112_113.out; have hnc7 := NB113_112.out; have hcz8_0 := zc0 BK112; have hcz8_1 := zc1 BK112; have hcz8_2 := zc2 BK112; have hcz8_3 := zc3 BK112; have hcz8_4 := zc4 BK112; have hfz8_0 := blk_frozen BK112.out 0; have hfz8_1 := blk_frozen BK112.out 1; have hfz8_2 := blk_frozen BK112.out 2; have hfz8_3 := blk_frozen BK112.out 3; have hfz8_4 := blk_frozen BK112.out 4))
  go_ret
  exact ⟨zaE, zaB⟩
 ·rw [if_neg c4] at H
  have c4b0 : (a0_1 == a2) = false := beq_eq_false_iff_ne.mpr c4
  have c4b1 : (a0_1 != a2) = true := bne_iff_ne.mpr c4
  obtain rfl := Option.some.inj H
  go_enter Try.func83, Try.ntmps83
  go_wp2_with (first | ((with_reducible refine gate_dst (N := 3) rfl ?_); refine zbx 3 #[.int .u64 a0_0, .int .u8 a0_1, .bool a0_2, .int .u64 a0_3, .int .i64 a0_4] 88 (h := ?_); intro gb112 hg w9 hbox hb; have GW112 := zkZ hg (zaB (p := Below w.heap.size w _)); have GE112 := GW112; replace HB := Aside0.mk (below_step zaB hb); have BK112 := Aside0.mk (hbox); clear hb hbox hg) | ((with_reducible refine gate_dst (N := 4) rfl ?_); refine zbx 4 #[.int .u64 a1_0, .int .u8 a1_1, .bool a1_2, .int .u64 a1_3, .int .i64 a1_4] 88 (h := ?_); intro gb113 hg w10 hbox hb; have GW113 := zkz HB hg; have GE113 := GW113; have NB112_113 := zkl BK112 hg; have NB113_112 := zkr BK112 hg; replace BK112 := zkb BK112 hb; replace HB := zkB HB hb; have BK113 := Aside0.mk (hbox); clear hb hbox hg; have hnb11 := NB112_113.out; have hnc11 := NB113_112.out; have hcz12_0 := zc0 BK112; have hcz12_1 := zc1 BK112; have hcz12_2 := zc2 BK112; have hcz12_3 := zc3 BK112; have hcz12_4 := zc4 BK112; have hfz12_0 := blk_frozen BK112.out 0; have hfz12_1 := blk_frozen BK112.out 1; have hfz12_2 := blk_frozen BK112.out 2; have hfz12_3 := blk_frozen BK112.out 3; have hfz12_4 := blk_frozen BK112.out 4; have hcz13_0 := zc0 BK113; have hcz13_1 := zc1 BK113; have hcz13_2 := zc2 BK113; have hcz13_3 := zc3 BK113; have hcz13_4 := zc4 BK113; have hfz13_0 := blk_frozen BK113.out 0; have hfz13_1 := blk_frozen BK113.out 1; have hfz13_2 := blk_frozen BK113.out 2; have hfz13_3 := blk_frozen BK113.out 3; have hfz13_4 := blk_frozen BK113.out 4))
  go_ret
  exact ⟨zaE, zaB⟩
end Go.Proofs.Ytmadjhmecfbcmaa.F
end
section
namespace Go.Proofs.Ytmadjhmecfbcmaa.F
open Go.RowKit Go.Proofs.YtmadjhmecfbcmaaW.PrintWords Go.Proofs.YtmadjhmecfbcmaaW.PrintLast Go.Proofs.YtmadjhmecfbcmaaW.PrintMore
attribute [local go_sem] max2_int min2_int max_two min_two max_three min_three max_four min_four
set_option linter.unusedVariables false
set_option linter.unusedSimpArgs false
set_option maxHeartbeats 8000000 in
set_option maxRecDepth 100000 in
theorem soft_invalid.calls  (r1 : Int) (r2 : Int) (w : World) (h : soft_invalid.f  = some (r1, r2)) :
  Calls Try.prog 84 #[] w fun e w' => e = .returned (.tuple #[.int .u64 r1, .int .u8 r2]) ∧ Drawn0 w w' := by
 have H : ((pattern_Quiet.f).bind fun t114 => (some (t114, 16))) = some (r1, r2) := h
 clear h
 obtain ⟨t114, A1, H⟩ := zbs H
 try dsimp only at H
 simp only [Option.some.injEq, Prod.mk.injEq] at H
 obtain ⟨rfl, rfl⟩ := H
 go_enter Try.func84, Try.ntmps84
 go_wp2_with (first | ((with_reducible refine gate_callee (f := 81) rfl ?_); refine zgL 2 Try.func81 (pattern_Quiet.calls  t114 _ A1.out) (h := ?_); rintro w' ⟨nd, rfl⟩))
 go_ret2
 exact ⟨by first | rfl | (simp; done) | (simp [*]; done), by repeat (first | exact Drawn0.refl _ | apply Drawn0.step)⟩
end Go.Proofs.Ytmadjhmecfbcmaa.F
end
section
namespace Go.Proofs.Ytmadjhmecfbcmaa.F
open Go.RowKit Go.Proofs.YtmadjhmecfbcmaaW.PrintWords Go.Proofs.YtmadjhmecfbcmaaW.PrintLast Go.Proofs.YtmadjhmecfbcmaaW.PrintMore
attribute [local go_sem] max2_int min2_int max_two min_two max_three min_three max_four min_four
set_option linter.unusedVariables false
set_option linter.unusedSimpArgs false
set_option maxHeartbeats 8000000 in
set_option maxRecDepth 100000 in
theorem pattern_Make.calls (k : Nat) (a0 : Bool) (a1 : Int) (a2 : Int) (r1 : Int) (r2 : Int) (w : World) (h : pattern_Make.f k a0 a1 a2 = some (r1, r2)) :
  Calls Try.prog 150 #[.bool a0, .int .i64 a1, .int .u64 a2] w fun e w' => e = .returned (.tuple #[.int .u64 r1, .int .i64 r2]) ∧ Drawn0 w w' := by
 have H : (if a1 < 0 then (pattern_Make.j0 k a0 a1 a2 true) else (if a1 > 2047 then (pattern_Make.j0 k a0 a1 a2 true) else (pattern_Make.j0 k a0 a1 a2 (decide (a2 > 4503599627370495))))) = some (r1, r2) := h
 clear h
 have HC4 := Aside0.mk H
 clear H
 go_enter Try.func150, Try.ntmps150
 go_upto_region 1 with (fail)
 go_cut [18] (fun v18 wc => ∃ (kq : Nat) (x18_3 : Bool), v18 = .bool x18_3 ∧ Aside0 (pattern_Make.j0 kq a0 a1 a2 x18_3 = some (r1, r2)) ∧ Aside0 (kq ≤ k) ∧ Drawn0 w wc)
 case first =>
  have H := HC4.out
  clear HC4
  by_cases c5 : a1 < 0
  ·rw [if_pos c5] at H
   have c5b0 : decide (a1 < 0) = true := decide_eq_true c5
   clear c5
   (first | rw [c5b0] | (simp only [i64_w, i32_w]; rw [c5b0]) | skip)
   have H' := Aside0.mk H
   clear H
   go_wp2
   go_meet
   case rel => exact ⟨_, (true), (by first | rfl | (simp; done) | (simp [*]; done)), H', ⟨by first | omega | exact Nat.le_refl _⟩, by repeat (first | exact Drawn0.refl _ | apply Drawn0.step)⟩
  ·rw [if_neg c5] at H
   have c5b0 : decide (a1 < 0) = false := decide_eq_false c5
   clear c5
   (first | rw [c5b0] | (simp only [i64_w, i32_w]; rw [c5b0]) | skip)
   by_cases c6 : a1 > 2047
   ·rw [if_pos c6] at H
    have c6b0 : decide (2047 < a1) = true := decide_eq_true c6
    clear c6
    have H' := Aside0.mk H
    clear H
    go_wp2
    go_meet
    case rel => exact ⟨_, (true), (by first | rfl | (simp; done) | (simp [*]; done)), H', ⟨by first | omega | exact Nat.le_refl _⟩, by repeat (first | exact Drawn0.refl _ | apply Drawn0.step)⟩
   ·rw [if_neg c6] at H
    have c6b0 : decide (2047 < a1) = false := decide_eq_false c6
    clear c6
    have H' := Aside0.mk H
    clear H
    go_wp2
    go_meet
    case rel => exact ⟨_, (decide (a2 > 4503599627370495)), (by first | rfl | (simp; done) | (simp [*]; done)), H', ⟨by first | omega | exact Nat.le_refl _⟩, by repeat (first | exact Drawn0.refl _ | apply Drawn0.step)⟩
 case rest =>
  clear HC4
  try clear c1
  try clear p2
  try clear c5
  try clear c5b0
  try clear c6
  try clear c6b0
  obtain ⟨kq, x18_3, rfl, HA, HJ3, ⟨mc3, rfl⟩⟩ := hcut
  cases kq with
  | zero => exact absurd HA.out (by simp [pattern_Make.j0])
  | succ kj3 =>
   have H := HA.out
   clear HA
   simp only [pattern_Make.j0] at H
   by_cases c7 : x18_3 = true
   ·subst c7
    have H1 : (some (0, 1)) = some (r1, r2) := by rw [if_pos rfl] at H; exact H
    clear H
    have H := H1
    clear H1
    simp only [Option.some.injEq, Prod.mk.injEq] at H
    obtain ⟨rfl, rfl⟩ := H
    go_wp2
    go_ret2
    exact ⟨by first | rfl | (simp; done) | (simp [*]; done), by repeat (first | exact Drawn0.refl _ | apply Drawn0.step)⟩
   ·replace c7 := Bool.eq_false_iff.mpr c7
    subst c7
    have H1 : (if a0 = true then (some (Go.bits .or .u64 (Go.bits .or .u64 (IntKind.u64.wrap ((IntKind.u64.wrap (a1)) * 4503599627370496)) a2) 9223372036854775808, 0)) else (some (Go.bits .or .u64 (IntKind.u64.wrap ((IntKind.u64.wrap (a1)) * 4503599627370496)) a2, 0))) = some (r1, r2) := by rw [if_neg (show ¬ (false = true) by decide)] at H; exact H
    clear H
    have H := H1
    clear H1
    by_cases c8 : a0 = true
    ·subst c8
     have H1 : (some (Go.bits .or .u64 (Go.bits .or .u64 (IntKind.u64.wrap ((IntKind.u64.wrap (a1)) * 4503599627370496)) a2) 9223372036854775808, 0)) = some (r1, r2) := by rw [if_pos rfl] at H; exact H
     clear H
     have H := H1
     clear H1
     simp only [Option.some.injEq, Prod.mk.injEq] at H
     obtain ⟨rfl, rfl⟩ := H
     go_wp2
     go_ret2
     exact ⟨by first | rfl | (simp; done) | (simp [*]; done), by repeat (first | exact Drawn0.refl _ | apply Drawn0.step)⟩
    ·replace c8 := Bool.eq_false_iff.mpr c8
     subst c8
     have H1 : (some (Go.bits .or .u64 (IntKind.u64.wrap ((IntKind.u64.wrap (a1)) * 4503599627370496)) a2, 0)) = some (r1, r2) := by rw [if_neg (show ¬ (false = true) by decide)] at H; exact H
     clear H
     have H := H1
     clear H1
     simp only [Option.some.injEq, Prod.mk.injEq] at H
     obtain ⟨rfl, rfl⟩ := H
     go_wp2
     go_ret2
     exact ⟨by first | rfl | (simp; done) | (simp [*]; done), by repeat (first | exact Drawn0.refl _ | apply Drawn0.step)⟩
end Go.Proofs.Ytmadjhmecfbcmaa.F
end
section
namespace Go.Proofs.Ytmadjhmecfbcmaa.F
open Go.RowKit Go.Proofs.YtmadjhmecfbcmaaW.PrintWords Go.Proofs.YtmadjhmecfbcmaaW.PrintLast Go.Proofs.YtmadjhmecfbcmaaW.PrintMore
attribute [local go_sem] max2_int min2_int max_two min_two max_three min_three max_four min_four
set_option linter.unusedVariables false
set_option linter.unusedSimpArgs false
set_option maxHeartbeats 8000000 in
set_option maxRecDepth 100000 in
theorem soft_zero.calls (k : Nat) (a0 : Bool) (r : Int) (w : World) (h : soft_zero.f k a0 = some r) :
  Calls Try.prog 85 #[.bool a0] w fun e w' => e = .returned (.int .u64 r) ∧ Drawn0 w w' := by
 have H : ((pattern_Make.f k a0 0 0).bind fun bt115 => (some bt115.1)) = some r := h
 clear h
 obtain ⟨⟨t115, t116⟩, A2, H⟩ := zbs H
 try dsimp only at H
 obtain rfl := Option.some.inj H
 go_enter Try.func85, Try.ntmps85
 go_wp2_with (first | ((with_reducible refine gate_callee (f := 150) rfl ?_); refine zgL 7 Try.func150 (pattern_Make.calls k a0 0 0 t115 t116 _ A2.out) (h := ?_); rintro w' ⟨nd, rfl⟩))
 go_ret
 exact ⟨by first | rfl | (simp; done) | (simp [*]; done), by repeat (first | exact Drawn0.refl _ | apply Drawn0.step)⟩
end Go.Proofs.Ytmadjhmecfbcmaa.F
end
section
namespace Go.Proofs.Ytmadjhmecfbcmaa.F
open Go.RowKit Go.Proofs.YtmadjhmecfbcmaaW.PrintWords Go.Proofs.YtmadjhmecfbcmaaW.PrintLast Go.Proofs.YtmadjhmecfbcmaaW.PrintMore
attribute [local go_sem] max2_int min2_int max_two min_two max_three min_three max_four min_four
set_option linter.unusedVariables false
set_option linter.unusedSimpArgs false
theorem eqA109 (d : Nat) (w : World) (x0 y0 : Int) (x1 y1 : Int) :
  (Op.equalIn (d + 2) 109 (.agg #[.int .u64 x0, .int .u64 x1]) (.agg #[.int .u64 y0, .int .u64 y1])).run Try.prog w = .ok (x0 == y0 && (x1 == y1)) w := by
 refine eqA_of Try.underlying109 (by kernel_rfl) ?_
 refine eqf_cons (by rfl) (by go_simp; rfl) (by go_simp; rfl) (by go_simp) ?_
 exact eqf_last (by rfl) (by go_simp; rfl) (by go_simp; rfl) (by go_simp)
end Go.Proofs.Ytmadjhmecfbcmaa.F
end
section
namespace Go.Proofs.Ytmadjhmecfbcmaa.F
open Go.RowKit Go.Proofs.YtmadjhmecfbcmaaW.PrintWords Go.Proofs.YtmadjhmecfbcmaaW.PrintLast Go.Proofs.YtmadjhmecfbcmaaW.PrintMore
attribute [local go_sem] max2_int min2_int max_two min_two max_three min_three max_four min_four
set_option linter.unusedVariables false
set_option linter.unusedSimpArgs false
attribute [local go_sem high] eqA109
def wide_U128_Shl.T8 : Bool × List (List Nat × List Nat) := (true, [([], []), ([0], [0]), ([], []), ([1, 2], [1, 2]), ([], []), ([4], [4]), ([], []), ([6], [6]), ([5, 7], [5, 7]), ([3, 8], [3, 8]), ([], []), ([10], [10]), ([], []), ([11, 12], [11, 12]), ([9, 13], [9, 13]), ([14, 0, 1, 2, 3, 4, 5, 6, 7, 8, 9, 10, 11, 12, 13, 14], [14])])
def wide_U128_Shl.B8 : List Nat := [0, 1, 0, 7, 0, 16, 0, 64, 240, 511, 0, 1024, 0, 7168, 16383, 32767]
theorem wide_U128_Shl.tab8 : rtab .any (opsOf Try.f106 8) = wide_U128_Shl.T8 := by kernel_rfl
theorem wide_U128_Shl.bits8 : waitsOk wide_U128_Shl.T8.2 wide_U128_Shl.B8 = true := by kernel_rfl
set_option maxHeartbeats 8000000 in
set_option maxRecDepth 100000 in
theorem wide_U128_Shl.calls (k : Nat) (a0_0 : Int) (a0_1 : Int) (a1 : Int) (r1 : Int) (r2 : Int) (w : World) (h : wide_U128_Shl.f k a0_0 a0_1 a1 = some (r1, r2)) :
  Calls Try.prog 106 #[.agg #[.int .u64 a0_0, .int .u64 a0_1], .int .i64 a1] w fun e w' => e = .returned (.agg #[.int .u64 r1, .int .u64 r2]) ∧ Below w.heap.size w w' := by
 have hu109 := Try.underlying109
 have HB := Aside0.mk (Below.refl w.heap.size w)
 have H : (wide_U128_Shl.l0 k a1 a0_0 a0_1) = some (r1, r2) := h
 clear h
 have H' := Aside0.mk H
 clear H
 go_enter Try.func106, Try.ntmps106
 go_wp2_with (first | ((with_reducible refine gate_dst (N := 2) rfl ?_); refine zbx 2 #[.int .u64 a0_0, .int .u64 a0_1] 109 (h := ?_); intro gb120 hg w3 hbox hb; have GW120 := zkZ hg (zaB (p := Below w.heap.size w _)); have GE120 := GW120; replace HB := Aside0.mk (below_step zaB hb); have BK120 := Aside0.mk (hbox); clear hb hbox hg) | ((with_reducible refine gate_dst (N := 4) rfl ?_); refine zbx 4 #[.int .u64 0, .int .u64 0] 109 (h := ?_); intro gb121 hg w4 hbox hb; have GW121 := zkz HB hg; have GE121 := GW121; have NB120_121 := zkl BK120 hg; have NB121_120 := zkr BK120 hg; replace BK120 := zkb BK120 hb; replace HB := zkB HB hb; have BK121 := Aside0.mk (hbox); clear hb hbox hg))
 (try simp only [Act.put, List.setIfInBounds_toArray, List.set_cons_zero, List.set_cons_succ])
 go_loopg [1] k (fun kq v1 w' => ∃ (x1_1 : Int) (x121000_1 : Int) (x121001_1 : Int) (x122000_1 : Int) (x122001_1 : Int), v1 = .int .i64 x1_1 ∧ Aside0 (wide_U128_Shl.l0 kq x1_1 x121000_1 x121001_1 = some (r1, r2)) ∧ Aside0 (kq ≤ k) ∧ Aside0 (w'.heap[gb120]? = some (.cells #[.int .u64 x121000_1, .int .u64 x121001_1] 109 (0, 0))) ∧ Aside0 (w'.heap[gb121]? = some (.cells #[.int .u64 x122000_1, .int .u64 x122001_1] 109 (0, 0))) ∧ Aside0 (Below w.heap.size w w'))
 case atStart => exact ⟨(a1), (a0_0), (a0_1), (0), (0), (by first | rfl | (simp; done) | (simp [*]; done)), H', ⟨Nat.le_refl _⟩, ⟨(zkq BK120)⟩, ⟨(zkq BK121)⟩, ⟨zaB⟩⟩
 case round =>
  clear H'
  try clear c1
  try clear p2
  obtain ⟨x1_1, x121000_1, x121001_1, x122000_1, x122001_1, rfl, HA, HK1, BK120, BK121, HB⟩ := hrel
  cases gk with
  | zero => exact absurd HA.out (by simp [wide_U128_Shl.l0])
  | succ k1 =>
   have H := HA.out
   clear HA
   simp only [wide_U128_Shl.l0] at H
   by_cases c5 : x1_1 ≥ 64
   ·rw [if_pos c5] at H
    have c5b0 : decide (64 ≤ x1_1) = true := decide_eq_true c5
    clear c5
    by_cases c6 : (x121001_1 == 0) = true
    ·rw [if_pos c6] at H
     have c6b0 : (x121001_1 == 0) = true := c6
     (try (have c6b1 : decide (x121001_1 = 0) = true := by simpa using c6))
     (try (have c6b2 : (x121001_1 == 0) = true := by simpa using c6))
     clear c6
     simp only [Option.some.injEq, Prod.mk.injEq] at H
     obtain ⟨rfl, rfl⟩ := H
     have hnb7 := NB120_121.out
     have hnc7 := NB121_120.out
     have hcz8_0 := zc0 BK120
     have hcz8_1 := zc1 BK120
     have hfz8_0 := blk_frozen BK120.out 0
     have hfz8_1 := blk_frozen BK120.out 1
     have hcz9_0 := zc0 BK121
     have hcz9_1 := zc1 BK121
     have hfz9_0 := blk_frozen BK121.out 0
     have hfz9_1 := blk_frozen BK121.out 1
     go_wp2
     refine bodyPost_ret (results_cell_row rfl _ _ gb121 109 #[.int .u64 x121001_1, .int .u64 0] (0, 0) _ rfl (blk_put (cs := #[.int .u64 x121001_1, .int .u64 x122001_1]) (blk_put (zkf (zkf (zkq BK121) NB121_120.out _) NB121_120.out _) 0 _ rfl) 1 _ rfl) Try.underlying109 rfl (by kernel_rfl)) rfl ?_
     exact ⟨zaE, zaB⟩
    ·rw [if_neg c6] at H
     have c6b0 : (x121001_1 == 0) = false := by simpa using c6
     (try (have c6b1 : decide (x121001_1 = 0) = false := by simpa using c6))
     (try (have c6b2 : (x121001_1 == 0) = false := by simpa using c6))
     (try (have c6b3 : ¬ (x121001_1 = 0) := by simpa using c6))
     clear c6
     have H' := Aside0.mk H
     clear H
     have hnb10 := NB120_121.out
     have hnc10 := NB121_120.out
     have hcz11_0 := zc0 BK120
     have hcz11_1 := zc1 BK120
     have hfz11_0 := blk_frozen BK120.out 0
     have hfz11_1 := blk_frozen BK120.out 1
     go_wp2
     go_roundg k1
     case measure => have := HK1.out; omega
     case rel => exact ⟨(wrap64 (x1_1 - 64)), (x121001_1), (0), (x122000_1), (x122001_1), (by first | rfl | (simp; done) | (simp [*]; done)), H', ⟨by have := HK1.out; omega⟩, ⟨(blk_put (cs := #[.int .u64 x121001_1, .int .u64 x121001_1]) (blk_put (zkq BK120) 0 _ rfl) 1 _ rfl)⟩, ⟨(zkf (zkf (zkq BK121) NB121_120.out _) NB121_120.out _)⟩, ⟨zaB⟩⟩
   ·rw [if_neg c5] at H
    have c5b0 : decide (64 ≤ x1_1) = false := decide_eq_false c5
    clear c5
    by_cases c12 : x1_1 ≤ 0
    ·rw [if_pos c12] at H
     have c12b0 : decide (x1_1 ≤ 0) = true := decide_eq_true c12
     clear c12
     simp only [Option.some.injEq, Prod.mk.injEq] at H
     obtain ⟨rfl, rfl⟩ := H
     have hnb13 := NB120_121.out
     have hnc13 := NB121_120.out
     have hcz14_0 := zc0 BK120
     have hcz14_1 := zc1 BK120
     have hfz14_0 := blk_frozen BK120.out 0
     have hfz14_1 := blk_frozen BK120.out 1
     have hcz15_0 := zc0 BK121
     have hcz15_1 := zc1 BK121
     have hfz15_0 := blk_frozen BK121.out 0
     have hfz15_1 := blk_frozen BK121.out 1
     go_wp2
     refine bodyPost_ret (results_cell_row rfl _ _ gb121 109 #[.int .u64 x121000_1, .int .u64 x121001_1] (0, 0) _ rfl (blk_put (cs := #[.int .u64 x121000_1, .int .u64 x122001_1]) (blk_put (zkq BK121) 0 _ rfl) 1 _ rfl) Try.underlying109 rfl (by kernel_rfl)) rfl ?_
     exact ⟨zaE, zaB⟩
    ·rw [if_neg c12] at H
     have c12b0 : decide (x1_1 ≤ 0) = false := decide_eq_false c12
     clear c12
     by_cases c16 : 0 ≤ x1_1
     ·rw [if_pos c16] at H
      have c16b0 := eq_true c16
      have c16b1 : decide (0 ≤ x1_1) = true := decide_eq_true c16
      clear c16
      obtain ⟨ji17, hji17⟩ : ∃ j_ : Int, (shl .u64 x121000_1 x1_1) = j_ := ⟨_, rfl⟩
      replace H : (if 0 ≤ (wrap64 (64 - x1_1)) then (some (Go.bits .or .u64 (ji17) (shr .u64 x121001_1 (wrap64 (64 - x1_1))), shl .u64 x121001_1 x1_1)) else (none)) = some (r1, r2) := by first | (rw [hji17] at H; exact H) | (simp only [hji17] at H ⊢; exact H)
      have hji17_ : (IntKind.u64.wrap (x121000_1 * 2 ^ min x1_1.toNat 64)) = ji17 := hji17
      have hji17z : x1_1 ≤ 64 → (IntKind.u64.wrap (x121000_1 * 2 ^ x1_1.toNat)) = ji17 := shl_small hji17
      obtain ⟨ji18, hji18⟩ : ∃ j_ : Int, (wrap64 (64 - x1_1)) = j_ := ⟨_, rfl⟩
      replace H : (if 0 ≤ (ji18) then (some (Go.bits .or .u64 (ji17) (shr .u64 x121001_1 (ji18)), shl .u64 x121001_1 x1_1)) else (none)) = some (r1, r2) := by first | (rw [hji18] at H; exact H) | (simp only [hji18] at H ⊢; exact H)
      have hji18w : (IntKind.i64.wrap (64 - x1_1)) = ji18 := (i64_w _).trans hji18
      by_cases c19 : 0 ≤ (ji18)
      ·rw [if_pos c19] at H
       have c19b0 := eq_true c19
       have c19b1 : decide (0 ≤ (ji18)) = true := decide_eq_true c19
       clear c19
       obtain ⟨ji20, hji20⟩ : ∃ j_ : Int, (shr .u64 x121001_1 (ji18)) = j_ := ⟨_, rfl⟩
       replace H : (some (Go.bits .or .u64 (ji17) (ji20), shl .u64 x121001_1 x1_1)) = some (r1, r2) := by first | (rw [hji20] at H; exact H) | (simp only [hji20] at H ⊢; exact H)
       have hji20_ : (x121001_1 / 2 ^ min (ji18).toNat 64) = ji20 := hji20
       have hji20z : (ji18) ≤ 64 → (x121001_1 / 2 ^ (ji18).toNat) = ji20 := shr_small hji20
       have c21b0 := eq_true (of_decide_eq_true (by first | (with_reducible assumption) | assumption) : 0 ≤ x1_1)
       obtain ⟨ji22, hji22⟩ : ∃ j_ : Int, (shl .u64 x121001_1 x1_1) = j_ := ⟨_, rfl⟩
       replace H : (some (Go.bits .or .u64 (ji17) (ji20), ji22)) = some (r1, r2) := by first | (rw [hji22] at H; exact H) | (simp only [hji22] at H ⊢; exact H)
       have hji22_ : (IntKind.u64.wrap (x121001_1 * 2 ^ min x1_1.toNat 64)) = ji22 := hji22
       have hji22z : x1_1 ≤ 64 → (IntKind.u64.wrap (x121001_1 * 2 ^ x1_1.toNat)) = ji22 := shl_small hji22
       simp only [Option.some.injEq, Prod.mk.injEq] at H
       obtain ⟨rfl, rfl⟩ := H
       try go_wp2
       replace BK120 := Aside0.mk (blk_drew BK120.out)
       replace BK121 := Aside0.mk (blk_drew BK121.out)
       replace HB := Aside0.mk (below_drew1 HB.out)
       refine start_ (n := 16) (S := fun w' => w'.cell? ⟨gb120, 0, none⟩ = some (.int .u64 x121000_1) ∧ w'.cell? ⟨gb120, 1, none⟩ = some (.int .u64 x121001_1)) (ds := []) #[false, false, false, false, false, false, false, false, false, false, false, false, false, false, false, false] (by kernel_rfl) rfl rfl (ze2 BK120) (fun hHeld => ?_); refine with_tabW wide_U128_Shl.tab8 wide_U128_Shl.bits8 (fun HT_ HW_ => ?_)
       generalize wr.drew = w23 at BK120 BK121 HB hHeld ⊢
       refine zpA 0 19 (h := ?_)
       refine zpA 2 21 (h := ?_)
       refine zpA 4 23 (h := ?_)
       refine zpA 6 25 (h := ?_)
       refine zpA 7 26 (h := ?_)
       refine zpA 10 29 (h := ?_)
       refine zpA 12 31 (h := ?_)
       refine ztA 1 20 (h := ?_)
       refine zpA 3 22 (h := ?_)
       refine ztA 5 24 (h := ?_)
       refine zpA 8 27 (h := ?_)
       refine zpA 9 28 (h := ?_)
       refine ztA 11 30 (h := ?_)
       refine zpA 13 32 (h := ?_)
       refine zpA 14 33 (h := ?_)
       refine one_ (i := 15) (N := none) #[true, true, true, true, true, true, true, true, true, true, true, true, true, true, true, true] rfl rfl (one_of HT_.out (by kernel_rfl)) (by decide) (fun K hK => ?_)
       have hs24 := zc0 BK121
       have hfs24 := blk_frozen BK121.out 0
       have hns24_0 := NB120_121.out
       have hms24_0 := NB121_120.out
       have hs25 := zc1 BK121
       have hfs25 := blk_frozen BK121.out 1
       have hns25_0 := NB120_121.out
       have hms25_0 := NB121_120.out
       refine skip_ (w1 := ?_) (by rfl) rfl ?_ ?_
       rotate_left
       ·go_simp
        rfl
       refine hK.out _ _ ⟨(zff NB120_121 (zff NB120_121 hHeld.1)), (zff NB120_121 (zff NB120_121 hHeld.2))⟩ (fun hHeld => ?_)
       clear hK K
       refine done_ (done_of HT_.out (by kernel_rfl)) ?_
       try go_wp2
       refine bodyPost_ret (results_cell_row rfl _ _ gb121 109 #[.int .u64 (Go.bits .or .u64 (ji17) (ji20)), .int .u64 ji22] (0, 0) _ rfl (blk_put (cs := #[.int .u64 (Go.bits .or .u64 (ji17) (ji20)), .int .u64 x122001_1]) (blk_put (zkq BK121) 0 _ rfl) 1 _ rfl) Try.underlying109 rfl (by kernel_rfl)) rfl ?_
       exact ⟨by first | rfl | (simp [errW_none, errW_some] <;> rfl) | (simp only [← hji17, ← hji18, ← hji20, ← hji22]; first | rfl | (simp [errW_none, errW_some] <;> rfl)) | (simp [*, errW_none, errW_some] <;> rfl), zaB⟩
      ·rw [if_neg c19] at H
       exact absurd H (by simp)
     ·rw [if_neg c16] at H
      exact absurd H (by simp)
end Go.Proofs.Ytmadjhmecfbcmaa.F
end
section
namespace Go.Proofs.Ytmadjhmecfbcmaa.F
open Go.RowKit Go.Proofs.YtmadjhmecfbcmaaW.PrintWords Go.Proofs.YtmadjhmecfbcmaaW.PrintLast Go.Proofs.YtmadjhmecfbcmaaW.PrintMore
attribute [local go_sem] max2_int min2_int max_two min_two max_three min_three max_four min_four
set_option linter.unusedVariables false
set_option linter.unusedSimpArgs false
attribute [local go_sem high] eqA109
def wide_U128_Shr.T10 : Bool × List (List Nat × List Nat) := (true, [([], []), ([0], [0]), ([], []), ([1, 2], [1, 2]), ([], []), ([4], [4]), ([], []), ([5, 6], [5, 6]), ([], []), ([8], [8]), ([], []), ([10], [10]), ([9, 11], [9, 11]), ([7, 12], [7, 12]), ([3, 13], [3, 13]), ([], []), ([15], [15]), ([16], [16]), ([17, 16], [16, 17]), ([16], [16]), ([19, 16], [16, 19]), ([18, 20, 16], [16, 18, 20]), ([21, 16], [16, 21]), ([16, 22], [16, 22]), ([14, 16, 0, 1, 2, 3, 4, 5, 6, 7, 8, 9, 10, 11, 12, 13, 14], [14]), ([23, 24, 0, 1, 2, 3, 4, 5, 6, 7, 8, 9, 10, 11, 12, 13, 14, 15, 16, 17, 18, 19, 20, 21, 22, 23, 24], [23])])
def wide_U128_Shr.B10 : List Nat := [0, 1, 0, 7, 0, 16, 0, 112, 0, 256, 0, 1024, 3840, 8176, 16383, 0, 32768, 98304, 229376, 98304, 622592, 2064384, 4161536, 8355840, 131071, 33554431]
theorem wide_U128_Shr.tab10 : rtab .any (opsOf Try.f151 10) = wide_U128_Shr.T10 := by kernel_rfl
theorem wide_U128_Shr.bits10 : waitsOk wide_U128_Shr.T10.2 wide_U128_Shr.B10 = true := by kernel_rfl
set_option maxHeartbeats 8000000 in
set_option maxRecDepth 100000 in
theorem wide_U128_Shr.calls (k : Nat) (a0_0 : Int) (a0_1 : Int) (a1 : Int) (r1 : Int) (r2 : Int) (r3 : Bool) (w : World) (h : wide_U128_Shr.f k a0_0 a0_1 a1 = some (r1, r2, r3)) :
  Calls Try.prog 151 #[.agg #[.int .u64 a0_0, .int .u64 a0_1], .int .i64 a1] w fun e w' => e = .returned (.tuple #[.agg #[.int .u64 r1, .int .u64 r2], .bool r3]) ∧ Below w.heap.size w w' := by
 have hu109 := Try.underlying109
 have HB := Aside0.mk (Below.refl w.heap.size w)
 have H : (wide_U128_Shr.l0 k a1 false a0_0 a0_1) = some (r1, r2, r3) := h
 clear h
 have H' := Aside0.mk H
 clear H
 go_enter Try.func151, Try.ntmps151
 go_wp2_with (first | ((with_reducible refine gate_dst (N := 2) rfl ?_); refine zbx 2 #[.int .u64 a0_0, .int .u64 a0_1] 109 (h := ?_); intro gb122 hg w3 hbox hb; have GW122 := zkZ hg (zaB (p := Below w.heap.size w _)); have GE122 := GW122; replace HB := Aside0.mk (below_step zaB hb); have BK122 := Aside0.mk (hbox); clear hb hbox hg) | ((with_reducible refine gate_dst (N := 4) rfl ?_); refine zbx 4 #[.int .u64 0, .int .u64 0] 109 (h := ?_); intro gb123 hg w4 hbox hb; have GW123 := zkz HB hg; have GE123 := GW123; have NB122_123 := zkl BK122 hg; have NB123_122 := zkr BK122 hg; replace BK122 := zkb BK122 hb; replace HB := zkB HB hb; have BK123 := Aside0.mk (hbox); clear hb hbox hg))
 (try simp only [Act.put, List.setIfInBounds_toArray, List.set_cons_zero, List.set_cons_succ])
 go_loopg [1, 6] k (fun kq v1 v6 w' => ∃ (x1_1 : Int) (x6_1 : Bool) (x123000_1 : Int) (x123001_1 : Int) (x124000_1 : Int) (x124001_1 : Int), v1 = .int .i64 x1_1 ∧ v6 = .bool x6_1 ∧ Aside0 (wide_U128_Shr.l0 kq x1_1 x6_1 x123000_1 x123001_1 = some (r1, r2, r3)) ∧ Aside0 (kq ≤ k) ∧ Aside0 (w'.heap[gb122]? = some (.cells #[.int .u64 x123000_1, .int .u64 x123001_1] 109 (0, 0))) ∧ Aside0 (w'.heap[gb123]? = some (.cells #[.int .u64 x124000_1, .int .u64 x124001_1] 109 (0, 0))) ∧ Aside0 (Below w.heap.size w w'))
 case atStart => exact ⟨(a1), (false), (a0_0), (a0_1), (0), (0), (by first | rfl | (simp; done) | (simp [*]; done)), (by first | rfl | (simp; done) | (simp [*]; done)), H', ⟨Nat.le_refl _⟩, ⟨(zkq BK122)⟩, ⟨(zkq BK123)⟩, ⟨zaB⟩⟩
 case round =>
  clear H'
  try clear c1
  try clear p2
  obtain ⟨x1_1, x6_1, x123000_1, x123001_1, x124000_1, x124001_1, rfl, rfl, HA, HK1, BK122, BK123, HB⟩ := hrel
  cases gk with
  | zero => exact absurd HA.out (by simp [wide_U128_Shr.l0])
  | succ k1 =>
   have H := HA.out
   clear HA
   simp only [wide_U128_Shr.l0] at H
   by_cases c5 : x1_1 ≥ 64
   ·rw [if_pos c5] at H
    have c5b0 : decide (64 ≤ x1_1) = true := decide_eq_true c5
    clear c5
    by_cases c6 : x6_1 = true
    ·subst c6
     have H1 : (if (x123000_1 == 0) = true then (some (0, x123000_1, true)) else (wide_U128_Shr.l0 k1 (wrap64 (x1_1 - 64)) true 0 x123000_1)) = some (r1, r2, r3) := by rw [if_pos rfl] at H; exact H
     clear H
     have H := H1
     clear H1
     by_cases c7 : (x123000_1 == 0) = true
     ·rw [if_pos c7] at H
      have c7b0 : (x123000_1 == 0) = true := c7
      (try (have c7b1 : decide (x123000_1 = 0) = true := by simpa using c7))
      (try (have c7b2 : (x123000_1 == 0) = true := by simpa using c7))
      clear c7
      simp only [Option.some.injEq, Prod.mk.injEq] at H
      obtain ⟨rfl, rfl, rfl⟩ := H
      have hnb8 := NB122_123.out
      have hnc8 := NB123_122.out
      have hcz9_0 := zc0 BK122
      have hcz9_1 := zc1 BK122
      have hfz9_0 := blk_frozen BK122.out 0
      have hfz9_1 := blk_frozen BK122.out 1
      have hcz10_0 := zc0 BK123
      have hcz10_1 := zc1 BK123
      have hfz10_0 := blk_frozen BK123.out 0
      have hfz10_1 := blk_frozen BK123.out 1
      go_wp2
      refine bodyPost_ret (results_ct rfl _ _ gb123 109 #[.int .u64 0, .int .u64 x123000_1] (0, 0) _ rfl (blk_put (cs := #[.int .u64 0, .int .u64 x124001_1]) (blk_put (zkf (zkf (zkq BK123) NB123_122.out _) NB123_122.out _) 0 _ rfl) 1 _ rfl) Try.underlying109 rfl (by kernel_rfl)) rfl ?_
      exact ⟨zaE, zaB⟩
     ·rw [if_neg c7] at H
      have c7b0 : (x123000_1 == 0) = false := by simpa using c7
      (try (have c7b1 : decide (x123000_1 = 0) = false := by simpa using c7))
      (try (have c7b2 : (x123000_1 == 0) = false := by simpa using c7))
      (try (have c7b3 : ¬ (x123000_1 = 0) := by simpa using c7))
      clear c7
      have H' := Aside0.mk H
      clear H
      have hnb11 := NB122_123.out
      have hnc11 := NB123_122.out
      have hcz12_0 := zc0 BK122
      have hcz12_1 := zc1 BK122
      have hfz12_0 := blk_frozen BK122.out 0
      have hfz12_1 := blk_frozen BK122.out 1
      go_wp2
      go_roundg k1
      case measure => have := HK1.out; omega
      case rel => exact ⟨(wrap64 (x1_1 - 64)), (true), (0), (x123000_1), (x124000_1), (x124001_1), (by first | rfl | (simp; done) | (simp [*]; done)), (by first | rfl | (simp; done) | (simp [*]; done)), H', ⟨by have := HK1.out; omega⟩, ⟨(blk_put (cs := #[.int .u64 0, .int .u64 x123001_1]) (blk_put (zkq BK122) 0 _ rfl) 1 _ rfl)⟩, ⟨(zkf (zkf (zkq BK123) NB123_122.out _) NB123_122.out _)⟩, ⟨zaB⟩⟩
    ·replace c6 := Bool.eq_false_iff.mpr c6
     subst c6
     have H1 : (if (x123000_1 == 0) = true then (some (0, x123000_1, (x123001_1 != 0))) else (wide_U128_Shr.l0 k1 (wrap64 (x1_1 - 64)) (x123001_1 != 0) 0 x123000_1)) = some (r1, r2, r3) := by rw [if_neg (show ¬ (false = true) by decide)] at H; exact H
     clear H
     have H := H1
     clear H1
     by_cases c13 : (x123000_1 == 0) = true
     ·rw [if_pos c13] at H
      have c13b0 : (x123000_1 == 0) = true := c13
      (try (have c13b1 : decide (x123000_1 = 0) = true := by simpa using c13))
      (try (have c13b2 : (x123000_1 == 0) = true := by simpa using c13))
      clear c13
      simp only [Option.some.injEq, Prod.mk.injEq] at H
      obtain ⟨rfl, rfl, rfl⟩ := H
      have hnb14 := NB122_123.out
      have hnc14 := NB123_122.out
      have hcz15_0 := zc0 BK122
      have hcz15_1 := zc1 BK122
      have hfz15_0 := blk_frozen BK122.out 0
      have hfz15_1 := blk_frozen BK122.out 1
      have hcz16_0 := zc0 BK123
      have hcz16_1 := zc1 BK123
      have hfz16_0 := blk_frozen BK123.out 0
      have hfz16_1 := blk_frozen BK123.out 1
      go_wp2
      refine bodyPost_ret (results_ct rfl _ _ gb123 109 #[.int .u64 0, .int .u64 x123000_1] (0, 0) _ rfl (blk_put (cs := #[.int .u64 0, .int .u64 x124001_1]) (blk_put (zkf (zkf (zkq BK123) NB123_122.out _) NB123_122.out _) 0 _ rfl) 1 _ rfl) Try.underlying109 rfl (by kernel_rfl)) rfl ?_
      exact ⟨zaE, zaB⟩
     ·rw [if_neg c13] at H
      have c13b0 : (x123000_1 == 0) = false := by simpa using c13
      (try (have c13b1 : decide (x123000_1 = 0) = false := by simpa using c13))
      (try (have c13b2 : (x123000_1 == 0) = false := by simpa using c13))
      (try (have c13b3 : ¬ (x123000_1 = 0) := by simpa using c13))
      clear c13
      have H' := Aside0.mk H
      clear H
      have hnb17 := NB122_123.out
      have hnc17 := NB123_122.out
      have hcz18_0 := zc0 BK122
      have hcz18_1 := zc1 BK122
      have hfz18_0 := blk_frozen BK122.out 0
      have hfz18_1 := blk_frozen BK122.out 1
      go_wp2
      go_roundg k1
      case measure => have := HK1.out; omega
      case rel => exact ⟨(wrap64 (x1_1 - 64)), ((x123001_1 != 0)), (0), (x123000_1), (x124000_1), (x124001_1), (by first | rfl | (simp; done) | (simp [*]; done)), (by first | rfl | (simp; done) | (simp [*]; done)), H', ⟨by have := HK1.out; omega⟩, ⟨(blk_put (cs := #[.int .u64 0, .int .u64 x123001_1]) (blk_put (zkq BK122) 0 _ rfl) 1 _ rfl)⟩, ⟨(zkf (zkf (zkq BK123) NB123_122.out _) NB123_122.out _)⟩, ⟨zaB⟩⟩
   ·rw [if_neg c5] at H
    have c5b0 : decide (64 ≤ x1_1) = false := decide_eq_false c5
    clear c5
    by_cases c19 : x1_1 ≤ 0
    ·rw [if_pos c19] at H
     have c19b0 : decide (x1_1 ≤ 0) = true := decide_eq_true c19
     clear c19
     simp only [Option.some.injEq, Prod.mk.injEq] at H
     obtain ⟨rfl, rfl, rfl⟩ := H
     have hnb20 := NB122_123.out
     have hnc20 := NB123_122.out
     have hcz21_0 := zc0 BK122
     have hcz21_1 := zc1 BK122
     have hfz21_0 := blk_frozen BK122.out 0
     have hfz21_1 := blk_frozen BK122.out 1
     have hcz22_0 := zc0 BK123
     have hcz22_1 := zc1 BK123
     have hfz22_0 := blk_frozen BK123.out 0
     have hfz22_1 := blk_frozen BK123.out 1
     go_wp2
     refine bodyPost_ret (results_ct rfl _ _ gb123 109 #[.int .u64 x123000_1, .int .u64 x123001_1] (0, 0) _ rfl (blk_put (cs := #[.int .u64 x123000_1, .int .u64 x124001_1]) (blk_put (zkq BK123) 0 _ rfl) 1 _ rfl) Try.underlying109 rfl (by kernel_rfl)) rfl ?_
     exact ⟨zaE, zaB⟩
    ·rw [if_neg c19] at H
     have c19b0 : decide (x1_1 ≤ 0) = false := decide_eq_false c19
     clear c19
     by_cases c23 : 0 ≤ x1_1
     ·rw [if_pos c23] at H
      have c23b0 := eq_true c23
      have c23b1 : decide (0 ≤ x1_1) = true := decide_eq_true c23
      clear c23
      obtain ⟨ji24, hji24⟩ : ∃ j_ : Int, (shr .u64 x123000_1 x1_1) = j_ := ⟨_, rfl⟩
      replace H : (if 0 ≤ (wrap64 (64 - x1_1)) then (if x6_1 = true then (some (ji24, Go.bits .or .u64 (shr .u64 x123001_1 x1_1) (shl .u64 x123000_1 (wrap64 (64 - x1_1))), true)) else (some (ji24, Go.bits .or .u64 (shr .u64 x123001_1 x1_1) (shl .u64 x123000_1 (wrap64 (64 - x1_1))), ((shl .u64 x123001_1 (wrap64 (64 - x1_1))) != 0)))) else (none)) = some (r1, r2, r3) := by first | (rw [hji24] at H; exact H) | (simp only [hji24] at H ⊢; exact H)
      have hji24_ : (x123000_1 / 2 ^ min x1_1.toNat 64) = ji24 := hji24
      have hji24z : x1_1 ≤ 64 → (x123000_1 / 2 ^ x1_1.toNat) = ji24 := shr_small hji24
      have c25b0 := eq_true (of_decide_eq_true (by first | (with_reducible assumption) | assumption) : 0 ≤ x1_1)
      obtain ⟨ji26, hji26⟩ : ∃ j_ : Int, (shr .u64 x123001_1 x1_1) = j_ := ⟨_, rfl⟩
      replace H : (if 0 ≤ (wrap64 (64 - x1_1)) then (if x6_1 = true then (some (ji24, Go.bits .or .u64 (ji26) (shl .u64 x123000_1 (wrap64 (64 - x1_1))), true)) else (some (ji24, Go.bits .or .u64 (ji26) (shl .u64 x123000_1 (wrap64 (64 - x1_1))), ((shl .u64 x123001_1 (wrap64 (64 - x1_1))) != 0)))) else (none)) = some (r1, r2, r3) := by first | (rw [hji26] at H; exact H) | (simp only [hji26] at H ⊢; exact H)
      have hji26_ : (x123001_1 / 2 ^ min x1_1.toNat 64) = ji26 := hji26
      have hji26z : x1_1 ≤ 64 → (x123001_1 / 2 ^ x1_1.toNat) = ji26 := shr_small hji26
      obtain ⟨ji27, hji27⟩ : ∃ j_ : Int, (wrap64 (64 - x1_1)) = j_ := ⟨_, rfl⟩
      replace H : (if 0 ≤ (ji27) then (if x6_1 = true then (some (ji24, Go.bits .or .u64 (ji26) (shl .u64 x123000_1 (ji27)), true)) else (some (ji24, Go.bits .or .u64 (ji26) (shl .u64 x123000_1 (ji27)), ((shl .u64 x123001_1 (ji27)) != 0)))) else (none)) = some (r1, r2, r3) := by first | (rw [hji27] at H; exact H) | (simp only [hji27] at H ⊢; exact H)
      have hji27w : (IntKind.i64.wrap (64 - x1_1)) = ji27 := (i64_w _).trans hji27
      by_cases c28 : 0 ≤ (ji27)
      ·rw [if_pos c28] at H
       have c28b0 := eq_true c28
       have c28b1 : decide (0 ≤ (ji27)) = true := decide_eq_true c28
       clear c28
       obtain ⟨ji29, hji29⟩ : ∃ j_ : Int, (shl .u64 x123000_1 (ji27)) = j_ := ⟨_, rfl⟩
       replace H : (if x6_1 = true then (some (ji24, Go.bits .or .u64 (ji26) (ji29), true)) else (some (ji24, Go.bits .or .u64 (ji26) (ji29), ((shl .u64 x123001_1 (ji27)) != 0)))) = some (r1, r2, r3) := by first | (rw [hji29] at H; exact H) | (simp only [hji29] at H ⊢; exact H)
       have hji29_ : (IntKind.u64.wrap (x123000_1 * 2 ^ min (ji27).toNat 64)) = ji29 := hji29
       have hji29z : (ji27) ≤ 64 → (IntKind.u64.wrap (x123000_1 * 2 ^ (ji27).toNat)) = ji29 := shl_small hji29
       by_cases c30 : x6_1 = true
       ·subst c30
        have H1 : (some (ji24, Go.bits .or .u64 (ji26) (ji29), true)) = some (r1, r2, r3) := by rw [if_pos rfl] at H; exact H
        clear H
        have H := H1
        clear H1
        simp only [Option.some.injEq, Prod.mk.injEq] at H
        obtain ⟨rfl, rfl, rfl⟩ := H
        try go_wp2
        replace BK122 := Aside0.mk (blk_drew BK122.out)
        replace BK123 := Aside0.mk (blk_drew BK123.out)
        replace HB := Aside0.mk (below_drew1 HB.out)
        refine start_ (n := 26) (S := fun w' => w'.cell? ⟨gb122, 0, none⟩ = some (.int .u64 x123000_1) ∧ w'.cell? ⟨gb122, 1, none⟩ = some (.int .u64 x123001_1)) (ds := []) #[false, false, false, false, false, false, false, false, false, false, false, false, false, false, false, false, false, false, false, false, false, false, false, false, false, false] (by kernel_rfl) rfl rfl (ze2 BK122) (fun hHeld => ?_); refine with_tabW wide_U128_Shr.tab10 wide_U128_Shr.bits10 (fun HT_ HW_ => ?_)
        generalize wr.drew = w31 at BK122 BK123 HB hHeld ⊢
        refine zpA 0 29 (h := ?_)
        refine zpA 2 31 (h := ?_)
        refine zpA 4 33 (h := ?_)
        refine zpA 6 35 (h := ?_)
        refine zpA 8 37 (h := ?_)
        refine zpA 10 39 (h := ?_)
        refine zpA 11 40 (h := ?_)
        refine zpA 15 44 (h := ?_)
        refine zpA 16 45 (h := ?_)
        refine zpU 17 46 (h := ?_)
        refine zpU 18 47 (h := ?_)
        refine zpU 19 48 (h := ?_)
        refine zpU 20 49 (h := ?_)
        refine zpU 21 50 (h := ?_)
        refine zpU 22 51 (h := ?_)
        refine zpA 23 52 (h := ?_)
        refine ztA 1 30 (h := ?_)
        refine zpA 3 32 (h := ?_)
        refine ztA 5 34 (h := ?_)
        refine zpA 7 36 (h := ?_)
        refine ztA 9 38 (h := ?_)
        refine zpA 12 41 (h := ?_)
        refine zpA 13 42 (h := ?_)
        refine zpA 14 43 (h := ?_)
        refine one_ (i := 24) (N := none) #[true, true, true, true, true, true, true, true, true, true, true, true, true, true, true, true, true, true, true, true, true, true, true, true, true, false] rfl rfl (one_of HT_.out (by kernel_rfl)) (by decide) (fun K hK => ?_)
        have hs32 := zc0 BK123
        have hfs32 := blk_frozen BK123.out 0
        have hns32_0 := NB122_123.out
        have hms32_0 := NB123_122.out
        have hs33 := zc1 BK123
        have hfs33 := blk_frozen BK123.out 1
        have hns33_0 := NB122_123.out
        have hms33_0 := NB123_122.out
        refine skip_ (w1 := ?_) (by rfl) rfl ?_ ?_
        rotate_left
        ·go_simp
         rfl
        refine hK.out _ _ ⟨(zff NB122_123 (zff NB122_123 hHeld.1)), (zff NB122_123 (zff NB122_123 hHeld.2))⟩ (fun hHeld => ?_)
        clear hK K
        refine zpA 25 5 (h := ?_)
        refine done_ (done_of HT_.out (by kernel_rfl)) ?_
        try go_wp2
        refine bodyPost_ret (results_ct rfl _ _ gb123 109 #[.int .u64 ji24, .int .u64 (Go.bits .or .u64 (ji26) (ji29))] (0, 0) _ rfl (blk_put (cs := #[.int .u64 ji24, .int .u64 x124001_1]) (blk_put (zkq BK123) 0 _ rfl) 1 _ rfl) Try.underlying109 rfl (by kernel_rfl)) rfl ?_
        exact ⟨by first | rfl | (simp [errW_none, errW_some] <;> rfl) | (simp only [← hji24, ← hji26, ← hji27, ← hji29]; first | rfl | (simp [errW_none, errW_some] <;> rfl)) | (simp [*, errW_none, errW_some] <;> rfl), zaB⟩
       ·replace c30 := Bool.eq_false_iff.mpr c30
        subst c30
        have H1 : (some (ji24, Go.bits .or .u64 (ji26) (ji29), ((shl .u64 x123001_1 (ji27)) != 0))) = some (r1, r2, r3) := by rw [if_neg (show ¬ (false = true) by decide)] at H; exact H
        clear H
        have H := H1
        clear H1
        have c34b0 := eq_true (of_decide_eq_true (by first | (with_reducible assumption) | assumption) : 0 ≤ (ji27))
        obtain ⟨ji35, hji35⟩ : ∃ j_ : Int, (shl .u64 x123001_1 (ji27)) = j_ := ⟨_, rfl⟩
        replace H : (some (ji24, Go.bits .or .u64 (ji26) (ji29), ((ji35) != 0))) = some (r1, r2, r3) := by first | (rw [hji35] at H; exact H) | (simp only [hji35] at H ⊢; exact H)
        have hji35_ : (IntKind.u64.wrap (x123001_1 * 2 ^ min (ji27).toNat 64)) = ji35 := hji35
        have hji35z : (ji27) ≤ 64 → (IntKind.u64.wrap (x123001_1 * 2 ^ (ji27).toNat)) = ji35 := shl_small hji35
        simp only [Option.some.injEq, Prod.mk.injEq] at H
        obtain ⟨rfl, rfl, rfl⟩ := H
        try go_wp2
        replace BK122 := Aside0.mk (blk_drew BK122.out)
        replace BK123 := Aside0.mk (blk_drew BK123.out)
        replace HB := Aside0.mk (below_drew1 HB.out)
        refine start_ (n := 26) (S := fun w' => w'.cell? ⟨gb122, 0, none⟩ = some (.int .u64 x123000_1) ∧ w'.cell? ⟨gb122, 1, none⟩ = some (.int .u64 x123001_1)) (ds := []) #[false, false, false, false, false, false, false, false, false, false, false, false, false, false, false, false, false, false, false, false, false, false, false, false, false, false] (by kernel_rfl) rfl rfl (ze2 BK122) (fun hHeld => ?_); refine with_tabW wide_U128_Shr.tab10 wide_U128_Shr.bits10 (fun HT_ HW_ => ?_)
        generalize wr.drew = w36 at BK122 BK123 HB hHeld ⊢
        refine zpA 0 29 (h := ?_)
        refine zpA 2 31 (h := ?_)
        refine zpA 4 33 (h := ?_)
        refine zpA 6 35 (h := ?_)
        refine zpA 8 37 (h := ?_)
        refine zpA 10 39 (h := ?_)
        refine zpA 11 40 (h := ?_)
        refine zpA 15 44 (h := ?_)
        refine zpA 16 45 (h := ?_)
        refine zpA 17 46 (h := ?_)
        refine zpA 19 48 (h := ?_)
        refine zpA 20 49 (h := ?_)
        refine ztA 1 30 (h := ?_)
        refine zpA 3 32 (h := ?_)
        refine ztA 5 34 (h := ?_)
        refine zpA 7 36 (h := ?_)
        refine ztA 9 38 (h := ?_)
        refine zpA 12 41 (h := ?_)
        refine zpA 13 42 (h := ?_)
        refine zpA 14 43 (h := ?_)
        refine ztA 18 47 (h := ?_)
        refine zpA 21 50 (h := ?_)
        refine zpA 22 51 (h := ?_)
        refine zpA 23 52 (h := ?_)
        refine one_ (i := 24) (N := none) #[true, true, true, true, true, true, true, true, true, true, true, true, true, true, true, true, true, true, true, true, true, true, true, true, true, false] rfl rfl (one_of HT_.out (by kernel_rfl)) (by decide) (fun K hK => ?_)
        have hs37 := zc0 BK123
        have hfs37 := blk_frozen BK123.out 0
        have hns37_0 := NB122_123.out
        have hms37_0 := NB123_122.out
        have hs38 := zc1 BK123
        have hfs38 := blk_frozen BK123.out 1
        have hns38_0 := NB122_123.out
        have hms38_0 := NB123_122.out
        refine skip_ (w1 := ?_) (by rfl) rfl ?_ ?_
        rotate_left
        ·go_simp
         rfl
        refine hK.out _ _ ⟨(zff NB122_123 (zff NB122_123 hHeld.1)), (zff NB122_123 (zff NB122_123 hHeld.2))⟩ (fun hHeld => ?_)
        clear hK K
        refine zpA 25 5 (h := ?_)
        refine done_ (done_of HT_.out (by kernel_rfl)) ?_
        try go_wp2
        refine bodyPost_ret (results_ct rfl _ _ gb123 109 #[.int .u64 ji24, .int .u64 (Go.bits .or .u64 (ji26) (ji29))] (0, 0) _ rfl (blk_put (cs := #[.int .u64 ji24, .int .u64 x124001_1]) (blk_put (zkq BK123) 0 _ rfl) 1 _ rfl) Try.underlying109 rfl (by kernel_rfl)) rfl ?_
        exact ⟨by first | rfl | (simp [errW_none, errW_some] <;> rfl) | (simp only [← hji24, ← hji26, ← hji27, ← hji29, ← hji35]; first | rfl | (simp [errW_none, errW_some] <;> rfl)) | (simp [*, errW_none, errW_some] <;> rfl), zaB⟩
      ·rw [if_neg c28] at H
       exact absurd H (by simp)
     ·rw [if_neg c23] at H
      exact absurd H (by simp)
end Go.Proofs.Ytmadjhmecfbcmaa.F
end
section
namespace Go.Proofs.Ytmadjhmecfbcmaa.F
open Go.RowKit Go.Proofs.YtmadjhmecfbcmaaW.PrintWords Go.Proofs.YtmadjhmecfbcmaaW.PrintLast Go.Proofs.YtmadjhmecfbcmaaW.PrintMore
attribute [local go_sem] max2_int min2_int max_two min_two max_three min_three max_four min_four
set_option linter.unusedVariables false
set_option linter.unusedSimpArgs false
theorem bits_Len64.calls (a0 : Int) (r : Int) (w : World) (h : bits_Len64.f a0 = some r) :
  Calls Try.prog 161 #[.int .u64 a0] w fun e w' => e = .returned (.int .i64 r) ∧ Drawn0 w w' := by
 unfold bits_Len64.f at h
 split at h
 ·rename_i g
  obtain rfl := Option.some.inj h
  exact (Try.bits_Len64 a0 w g.1 g.2).mono fun e w' ⟨h1, h2⟩ => ⟨h1, h2 ▸ Drawn0.refl _⟩
 ·cases h
end Go.Proofs.Ytmadjhmecfbcmaa.F
end
section
namespace Go.Proofs.Ytmadjhmecfbcmaa.F
open Go.RowKit Go.Proofs.YtmadjhmecfbcmaaW.PrintWords Go.Proofs.YtmadjhmecfbcmaaW.PrintLast Go.Proofs.YtmadjhmecfbcmaaW.PrintMore
attribute [local go_sem] max2_int min2_int max_two min_two max_three min_three max_four min_four
set_option linter.unusedVariables false
set_option linter.unusedSimpArgs false
set_option maxHeartbeats 8000000 in
set_option maxRecDepth 100000 in
theorem wide_U128_Len.calls (a0_0 : Int) (a0_1 : Int) (r : Int) (w : World) (h : wide_U128_Len.f a0_0 a0_1 = some r) :
  Calls Try.prog 103 #[.agg #[.int .u64 a0_0, .int .u64 a0_1]] w fun e w' => e = .returned (.int .i64 r) ∧ Below w.heap.size w w' := by
 have hu109 := Try.underlying109
 have HB := Aside0.mk (Below.refl w.heap.size w)
 have H : (if a0_0 > 0 then ((bits_Len64.f a0_0).bind fun t118 => (some (wrap64 (64 + t118)))) else ((bits_Len64.f a0_1).bind fun t119 => (some t119))) = some r := h
 clear h
 by_cases c2 : a0_0 > 0
 ·rw [if_pos c2] at H
  have c2b0 : decide (0 < a0_0) = true := decide_eq_true c2
  clear c2
  obtain ⟨t118, A3, H⟩ := zbs H
  try dsimp only at H
  obtain rfl := Option.some.inj H
  go_enter Try.func103, Try.ntmps103
  go_wp2_with (first | ((with_reducible refine gate_dst (N := 1) rfl ?_); refine zbx 1 #[.int .u64 a0_0, .int .u64 a0_1] 109 (h := ?_); intro gb117 hg w4 hbox hb; have GW117 := zkZ hg (zaB (p := Below w.heap.size w _)); have GE117 := GW117; replace HB := Aside0.mk (below_step zaB hb); have BK117 := Aside0.mk (hbox); clear hb hbox hg; have hcz5_0 := zc0 BK117; have hcz5_1 := zc1 BK117; have hfz5_0 := blk_frozen BK117.out 0; have hfz5_1 := blk_frozen BK117.out 1) | ((with_reducible refine gate_callee (f := 161) rfl ?_); refine zgL 8 Try.func161 (bits_Len64.calls a0_0 t118 _ A3.out) (h := ?_); rintro w' ⟨nd, rfl⟩))
  go_ret
  exact ⟨zaE, zaB⟩
 ·rw [if_neg c2] at H
  have c2b0 : decide (0 < a0_0) = false := decide_eq_false c2
  clear c2
  obtain ⟨t119, A6, H⟩ := zbs H
  try dsimp only at H
  obtain rfl := Option.some.inj H
  go_enter Try.func103, Try.ntmps103
  go_wp2_with (first | ((with_reducible refine gate_dst (N := 1) rfl ?_); refine zbx 1 #[.int .u64 a0_0, .int .u64 a0_1] 109 (h := ?_); intro gb117 hg w7 hbox hb; have GW117 := zkZ hg (zaB (p := Below w.heap.size w _)); have GE117 := GW117; replace HB := Aside0.mk (below_step zaB hb); have BK117 := Aside0.mk (hbox); clear hb hbox hg; have hcz8_0 := zc0 BK117; have hcz8_1 := zc1 BK117; have hfz8_0 := blk_frozen BK117.out 0; have hfz8_1 := blk_frozen BK117.out 1) | ((with_reducible refine gate_callee (f := 161) rfl ?_); refine zgL 12 Try.func161 (bits_Len64.calls a0_1 t119 _ A6.out) (h := ?_); rintro w' ⟨nd, rfl⟩))
  go_ret
  exact ⟨zaE, zaB⟩
end Go.Proofs.Ytmadjhmecfbcmaa.F
end
section
namespace Go.Proofs.Ytmadjhmecfbcmaa.F
open Go.RowKit Go.Proofs.YtmadjhmecfbcmaaW.PrintWords Go.Proofs.YtmadjhmecfbcmaaW.PrintLast Go.Proofs.YtmadjhmecfbcmaaW.PrintMore
attribute [local go_sem] max2_int min2_int max_two min_two max_three min_three max_four min_four
set_option linter.unusedVariables false
set_option linter.unusedSimpArgs false
set_option maxHeartbeats 8000000 in
set_option maxRecDepth 100000 in
theorem round_number_away.calls (a0_0 : Bool) (a0_1 : Int) (a0_2 : Int) (a0_3 : Int) (a0_4 : Bool) (a1 : Int) (r : Bool) (w : World) (h : round_number_away.f a0_0 a0_1 a0_2 a0_3 a0_4 a1 = some r) :
  Calls Try.prog 200 #[.agg #[.bool a0_0, .int .u64 a0_1, .int .u64 a0_2, .int .i64 a0_3, .bool a0_4], .int .u8 a1] w fun e w' => e = .returned (.bool r) ∧ Below w.heap.size w w' := by
 have hu151 := Try.underlying151
 have HB := Aside0.mk (Below.refl w.heap.size w)
 have H : (if a1 = 1 then (if a0_0 = true then (if a1 = 2 then (some a0_0) else (some false)) else (some true)) else (if a1 = 2 then (some a0_0) else (some false))) = some r := h
 clear h
 by_cases c3 : a1 = 1
 ·rw [if_pos c3] at H
  have c3b0 : (a1 == 1) = true := beq_iff_eq.mpr c3
  have c3b1 : (a1 != 1) = false := bne_eq_false_iff_eq.mpr c3
  clear c3
  by_cases c4 : a0_0 = true
  ·subst c4
   have H1 : (if a1 = 2 then (some true) else (some false)) = some r := by rw [if_pos rfl] at H; exact H
   clear H
   have H := H1
   clear H1
   by_cases c5 : a1 = 2
   ·rw [if_pos c5] at H
    have c5b0 : (a1 == 2) = true := beq_iff_eq.mpr c5
    have c5b1 : (a1 != 2) = false := bne_eq_false_iff_eq.mpr c5
    clear c5
    obtain rfl := Option.some.inj H
    go_enter Try.func200, Try.ntmps200
    go_wp2_with (first | ((with_reducible refine gate_dst (N := 2) rfl ?_); refine zbx 2 #[.bool true, .int .u64 a0_1, .int .u64 a0_2, .int .i64 a0_3, .bool a0_4] 151 (h := ?_); intro gb124 hg w6 hbox hb; have GW124 := zkZ hg (zaB (p := Below w.heap.size w _)); have GE124 := GW124; replace HB := Aside0.mk (below_step zaB hb); have BK124 := Aside0.mk (hbox); clear hb hbox hg; have hcz7_0 := zc0 BK124; have hcz7_1 := zc1 BK124; have hcz7_2 := zc2 BK124; have hcz7_3 := zc3 BK124; have hcz7_4 := zc4 BK124; have hfz7_0 := blk_frozen BK124.out 0; have hfz7_1 := blk_frozen BK124.out 1; have hfz7_2 := blk_frozen BK124.out 2; have hfz7_3 := blk_frozen BK124.out 3; have hfz7_4 := blk_frozen BK124.out 4))
    go_ret
    exact ⟨zaE, zaB⟩
   ·rw [if_neg c5] at H
    have c5b0 : (a1 == 2) = false := beq_eq_false_iff_ne.mpr c5
    have c5b1 : (a1 != 2) = true := bne_iff_ne.mpr c5
    obtain rfl := Option.some.inj H
    go_enter Try.func200, Try.ntmps200
    go_wp2_with (first | ((with_reducible refine gate_dst (N := 2) rfl ?_); refine zbx 2 #[.bool true, .int .u64 a0_1, .int .u64 a0_2, .int .i64 a0_3, .bool a0_4] 151 (h := ?_); intro gb124 hg w8 hbox hb; have GW124 := zkZ hg (zaB (p := Below w.heap.size w _)); have GE124 := GW124; replace HB := Aside0.mk (below_step zaB hb); have BK124 := Aside0.mk (hbox); clear hb hbox hg; have hcz9_0 := zc0 BK124; have hcz9_1 := zc1 BK124; have hcz9_2 := zc2 BK124; have hcz9_3 := zc3 BK124; have hcz9_4 := zc4 BK124; have hfz9_0 := blk_frozen BK124.out 0; have hfz9_1 := blk_frozen BK124.out 1; have hfz9_2 := blk_frozen BK124.out 2; have hfz9_3 := blk_frozen BK124.out 3; have hfz9_4 := blk_frozen BK124.out 4))
    go_ret
    exact ⟨zaE, zaB⟩
  ·replace c4 := Bool.eq_false_iff.mpr c4
   subst c4
   have H1 : (some true) = some r := by rw [if_neg (show ¬ (false = true) by decide)] at H; exact H
   clear H
   have H := H1
   clear H1
   obtain rfl := Option.some.inj H
   go_enter Try.func200, Try.ntmps200
   go_wp2_with (first | ((with_reducible refine gate_dst (N := 2) rfl ?_); refine zbx 2 #[.bool false, .int .u64 a0_1, .int .u64 a0_2, .int .i64 a0_3, .bool a0_4] 151 (h := ?_); intro gb124 hg w10 hbox hb; have GW124 := zkZ hg (zaB (p := Below w.heap.size w _)); have GE124 := GW124; replace HB := Aside0.mk (below_step zaB hb); have BK124 := Aside0.mk (hbox); clear hb hbox hg; have hcz11_0 := zc0 BK124; have hcz11_1 := zc1 BK124; have hcz11_2 := zc2 BK124; have hcz11_3 := zc3 BK124; have hcz11_4 := zc4 BK124; have hfz11_0 := blk_frozen BK124.out 0; have hfz11_1 := blk_frozen BK124.out 1; have hfz11_2 := blk_frozen BK124.out 2; have hfz11_3 := blk_frozen BK124.out 3; have hfz11_4 := blk_frozen BK124.out 4))
   go_ret
   exact ⟨zaE, zaB⟩
 ·rw [if_neg c3] at H
  have c3b0 : (a1 == 1) = false := beq_eq_false_iff_ne.mpr c3
  have c3b1 : (a1 != 1) = true := bne_iff_ne.mpr c3
  by_cases c12 : a1 = 2
  ·rw [if_pos c12] at H
   have c12b0 : (a1 == 2) = true := beq_iff_eq.mpr c12
   have c12b1 : (a1 != 2) = false := bne_eq_false_iff_eq.mpr c12
   clear c12
   obtain rfl := Option.some.inj H
   go_enter Try.func200, Try.ntmps200
   go_wp2_with (first | ((with_reducible refine gate_dst (N := 2) rfl ?_); refine zbx 2 #[.bool a0_0, .int .u64 a0_1, .int .u64 a0_2, .int .i64 a0_3, .bool a0_4] 151 (h := ?_); intro gb124 hg w13 hbox hb; have GW124 := zkZ hg (zaB (p := Below w.heap.size w _)); have GE124 := GW124; replace HB := Aside0.mk (below_step zaB hb); have BK124 := Aside0.mk (hbox); clear hb hbox hg; have hcz14_0 := zc0 BK124; have hcz14_1 := zc1 BK124; have hcz14_2 := zc2 BK124; have hcz14_3 := zc3 BK124; have hcz14_4 := zc4 BK124; have hfz14_0 := blk_frozen BK124.out 0; have hfz14_1 := blk_frozen BK124.out 1; have hfz14_2 := blk_frozen BK124.out 2; have hfz14_3 := blk_frozen BK124.out 3; have hfz14_4 := blk_frozen BK124.out 4))
   go_ret
   exact ⟨zaE, zaB⟩
  ·rw [if_neg c12] at H
   have c12b0 : (a1 == 2) = false := beq_eq_false_iff_ne.mpr c12
   have c12b1 : (a1 != 2) = true := bne_iff_ne.mpr c12
   obtain rfl := Option.some.inj H
   go_enter Try.func200, Try.ntmps200
   go_wp2_with (first | ((with_reducible refine gate_dst (N := 2) rfl ?_); refine zbx 2 #[.bool a0_0, .int .u64 a0_1, .int .u64 a0_2, .int .i64 a0_3, .bool a0_4] 151 (h := ?_); intro gb124 hg w15 hbox hb; have GW124 := zkZ hg (zaB (p := Below w.heap.size w _)); have GE124 := GW124; replace HB := Aside0.mk (below_step zaB hb); have BK124 := Aside0.mk (hbox); clear hb hbox hg))
   go_ret
   exact ⟨zaE, zaB⟩
end Go.Proofs.Ytmadjhmecfbcmaa.F
end
section
namespace Go.Proofs.Ytmadjhmecfbcmaa.F
open Go.RowKit Go.Proofs.YtmadjhmecfbcmaaW.PrintWords Go.Proofs.YtmadjhmecfbcmaaW.PrintLast Go.Proofs.YtmadjhmecfbcmaaW.PrintMore
attribute [local go_sem] max2_int min2_int max_two min_two max_three min_three max_four min_four
set_option linter.unusedVariables false
set_option linter.unusedSimpArgs false
set_option maxHeartbeats 8000000 in
set_option maxRecDepth 100000 in
theorem round_number_towards.calls (a0_0 : Bool) (a0_1 : Int) (a0_2 : Int) (a0_3 : Int) (a0_4 : Bool) (a1 : Int) (r : Bool) (w : World) (h : round_number_towards.f a0_0 a0_1 a0_2 a0_3 a0_4 a1 = some r) :
  Calls Try.prog 201 #[.agg #[.bool a0_0, .int .u64 a0_1, .int .u64 a0_2, .int .i64 a0_3, .bool a0_4], .int .u8 a1] w fun e w' => e = .returned (.bool r) ∧ Below w.heap.size w w' := by
 have hu151 := Try.underlying151
 have HB := Aside0.mk (Below.refl w.heap.size w)
 have H : (if a1 = 1 then (if a0_0 = true then (some true) else (if a1 = 2 then (some (!a0_0)) else (some false))) else (if a1 = 2 then (some (!a0_0)) else (some false))) = some r := h
 clear h
 by_cases c3 : a1 = 1
 ·rw [if_pos c3] at H
  have c3b0 : (a1 == 1) = true := beq_iff_eq.mpr c3
  have c3b1 : (a1 != 1) = false := bne_eq_false_iff_eq.mpr c3
  clear c3
  by_cases c4 : a0_0 = true
  ·subst c4
   have H1 : (some true) = some r := by rw [if_pos rfl] at H; exact H
   clear H
   have H := H1
   clear H1
   obtain rfl := Option.some.inj H
   go_enter Try.func201, Try.ntmps201
   go_wp2_with (first | ((with_reducible refine gate_dst (N := 2) rfl ?_); refine zbx 2 #[.bool true, .int .u64 a0_1, .int .u64 a0_2, .int .i64 a0_3, .bool a0_4] 151 (h := ?_); intro gb125 hg w5 hbox hb; have GW125 := zkZ hg (zaB (p := Below w.heap.size w _)); have GE125 := GW125; replace HB := Aside0.mk (below_step zaB hb); have BK125 := Aside0.mk (hbox); clear hb hbox hg; have hcz6_0 := zc0 BK125; have hcz6_1 := zc1 BK125; have hcz6_2 := zc2 BK125; have hcz6_3 := zc3 BK125; have hcz6_4 := zc4 BK125; have hfz6_0 := blk_frozen BK125.out 0; have hfz6_1 := blk_frozen BK125.out 1; have hfz6_2 := blk_frozen BK125.out 2; have hfz6_3 := blk_frozen BK125.out 3; have hfz6_4 := blk_frozen BK125.out 4))
   go_ret
   exact ⟨zaE, zaB⟩
  ·replace c4 := Bool.eq_false_iff.mpr c4
   subst c4
   have H1 : (if a1 = 2 then (some (!false)) else (some false)) = some r := by rw [if_neg (show ¬ (false = true) by decide)] at H; exact H
   clear H
   have H := H1
   clear H1
   by_cases c7 : a1 = 2
   ·rw [if_pos c7] at H
    have c7b0 : (a1 == 2) = true := beq_iff_eq.mpr c7
    have c7b1 : (a1 != 2) = false := bne_eq_false_iff_eq.mpr c7
    clear c7
    obtain rfl := Option.some.inj H
    go_enter Try.func201, Try.ntmps201
    go_wp2_with (first | ((with_reducible refine gate_dst (N := 2) rfl ?_); refine zbx 2 #[.bool false, .int .u64 a0_1, .int .u64 a0_2, .int .i64 a0_3, .bool a0_4] 151 (h := ?_); intro gb125 hg w8 hbox hb; have GW125 := zkZ hg (zaB (p := Below w.heap.size w _)); have GE125 := GW125; replace HB := Aside0.mk (below_step zaB hb); have BK125 := Aside0.mk (hbox); clear hb hbox hg; have hcz9_0 := zc0 BK125; have hcz9_1 := zc1 BK125; have hcz9_2 := zc2 BK125; have hcz9_3 := zc3 BK125; have hcz9_4 := zc4 BK125; have hfz9_0 := blk_frozen BK125.out 0; have hfz9_1 := blk_frozen BK125.out 1; have hfz9_2 := blk_frozen BK125.out 2; have hfz9_3 := blk_frozen BK125.out 3; have hfz9_4 := blk_frozen BK125.out 4))
    go_ret
    exact ⟨zaE, zaB⟩
   ·rw [if_neg c7] at H
    have c7b0 : (a1 == 2) = false := beq_eq_false_iff_ne.mpr c7
    have c7b1 : (a1 != 2) = true := bne_iff_ne.mpr c7
    obtain rfl := Option.some.inj H
    go_enter Try.func201, Try.ntmps201
    go_wp2_with (first | ((with_reducible refine gate_dst (N := 2) rfl ?_); refine zbx 2 #[.bool false, .int .u64 a0_1, .int .u64 a0_2, .int .i64 a0_3, .bool a0_4] 151 (h := ?_); intro gb125 hg w10 hbox hb; have GW125 := zkZ hg (zaB (p := Below w.heap.size w _)); have GE125 := GW125; replace HB := Aside0.mk (below_step zaB hb); have BK125 := Aside0.mk (hbox); clear hb hbox hg; have hcz11_0 := zc0 BK125; have hcz11_1 := zc1 BK125; have hcz11_2 := zc2 BK125; have hcz11_3 := zc3 BK125; have hcz11_4 := zc4 BK125; have hfz11_0 := blk_frozen BK125.out 0; have hfz11_1 := blk_frozen BK125.out 1; have hfz11_2 := blk_frozen BK125.out 2; have hfz11_3 := blk_frozen BK125.out 3; have hfz11_4 := blk_frozen BK125.out 4))
    go_ret
    exact ⟨zaE, zaB⟩
 ·rw [if_neg c3] at H
  have c3b0 : (a1 == 1) = false := beq_eq_false_iff_ne.mpr c3
  have c3b1 : (a1 != 1) = true := bne_iff_ne.mpr c3
  by_cases c12 : a1 = 2
  ·rw [if_pos c12] at H
   have c12b0 : (a1 == 2) = true := beq_iff_eq.mpr c12
   have c12b1 : (a1 != 2) = false := bne_eq_false_iff_eq.mpr c12
   clear c12
   obtain rfl := Option.some.inj H
   go_enter Try.func201, Try.ntmps201
   go_wp2_with (first | ((with_reducible refine gate_dst (N := 2) rfl ?_); refine zbx 2 #[.bool a0_0, .int .u64 a0_1, .int .u64 a0_2, .int .i64 a0_3, .bool a0_4] 151 (h := ?_); intro gb125 hg w13 hbox hb; have GW125 := zkZ hg (zaB (p := Below w.heap.size w _)); have GE125 := GW125; replace HB := Aside0.mk (below_step zaB hb); have BK125 := Aside0.mk (hbox); clear hb hbox hg; have hcz14_0 := zc0 BK125; have hcz14_1 := zc1 BK125; have hcz14_2 := zc2 BK125; have hcz14_3 := zc3 BK125; have hcz14_4 := zc4 BK125; have hfz14_0 := blk_frozen BK125.out 0; have hfz14_1 := blk_frozen BK125.out 1; have hfz14_2 := blk_frozen BK125.out 2; have hfz14_3 := blk_frozen BK125.out 3; have hfz14_4 := blk_frozen BK125.out 4))
   go_ret
   exact ⟨zaE, zaB⟩
  ·rw [if_neg c12] at H
   have c12b0 : (a1 == 2) = false := beq_eq_false_iff_ne.mpr c12
   have c12b1 : (a1 != 2) = true := bne_iff_ne.mpr c12
   obtain rfl := Option.some.inj H
   go_enter Try.func201, Try.ntmps201
   go_wp2_with (first | ((with_reducible refine gate_dst (N := 2) rfl ?_); refine zbx 2 #[.bool a0_0, .int .u64 a0_1, .int .u64 a0_2, .int .i64 a0_3, .bool a0_4] 151 (h := ?_); intro gb125 hg w15 hbox hb; have GW125 := zkZ hg (zaB (p := Below w.heap.size w _)); have GE125 := GW125; replace HB := Aside0.mk (below_step zaB hb); have BK125 := Aside0.mk (hbox); clear hb hbox hg))
   go_ret
   exact ⟨zaE, zaB⟩
end Go.Proofs.Ytmadjhmecfbcmaa.F
end
section
namespace Go.Proofs.Ytmadjhmecfbcmaa.F
open Go.RowKit Go.Proofs.YtmadjhmecfbcmaaW.PrintWords Go.Proofs.YtmadjhmecfbcmaaW.PrintLast Go.Proofs.YtmadjhmecfbcmaaW.PrintMore
attribute [local go_sem] max2_int min2_int max_two min_two max_three min_three max_four min_four
set_option linter.unusedVariables false
set_option linter.unusedSimpArgs false
set_option maxHeartbeats 8000000 in
set_option maxRecDepth 100000 in
theorem round_number_up.calls (a0_0 : Bool) (a0_1 : Int) (a0_2 : Int) (a0_3 : Int) (a0_4 : Bool) (a1 : Int) (a2 : Bool) (a3 : Bool) (a4 : Bool) (r : Bool) (w : World) (h : round_number_up.f a0_0 a0_1 a0_2 a0_3 a0_4 a1 a2 a3 a4 = some r) :
  Calls Try.prog 184 #[.agg #[.bool a0_0, .int .u64 a0_1, .int .u64 a0_2, .int .i64 a0_3, .bool a0_4], .int .u8 a1, .bool a2, .bool a3, .bool a4] w fun e w' => e = .returned (.bool r) ∧ Below w.heap.size w w' := by
 have hu151 := Try.underlying151
 have HB := Aside0.mk (Below.refl w.heap.size w)
 have H : ((round_number_away.f a0_0 a0_1 a0_2 a0_3 a0_4 a1).bind fun t127 => (if t127 = true then (if a3 = true then (some true) else (some a4)) else ((round_number_towards.f a0_0 a0_1 a0_2 a0_3 a0_4 a1).bind fun t128 => (if t128 = true then (some false) else (if a3 = true then (if a4 = true then (some true) else (some a2)) else (some false)))))) = some r := h
 clear h
 obtain ⟨t127, A6, H⟩ := zbs H
 try dsimp only at H
 by_cases c7 : t127 = true
 ·subst c7
  have H1 : (if a3 = true then (some true) else (some a4)) = some r := by rw [if_pos rfl] at H; exact H
  clear H
  have H := H1
  clear H1
  by_cases c8 : a3 = true
  ·subst c8
   have H1 : (some true) = some r := by rw [if_pos rfl] at H; exact H
   clear H
   have H := H1
   clear H1
   obtain rfl := Option.some.inj H
   go_enter Try.func184, Try.ntmps184
   go_wp2_with (first | ((with_reducible refine gate_dst (N := 5) rfl ?_); refine zbx 5 #[.bool a0_0, .int .u64 a0_1, .int .u64 a0_2, .int .i64 a0_3, .bool a0_4] 151 (h := ?_); intro gb126 hg w9 hbox hb; have GW126 := zkZ hg (zaB (p := Below w.heap.size w _)); have GE126 := GW126; replace HB := Aside0.mk (below_step zaB hb); have BK126 := Aside0.mk (hbox); clear hb hbox hg; have hcz10_0 := zc0 BK126; have hcz10_1 := zc1 BK126; have hcz10_2 := zc2 BK126; have hcz10_3 := zc3 BK126; have hcz10_4 := zc4 BK126; have hfz10_0 := blk_frozen BK126.out 0; have hfz10_1 := blk_frozen BK126.out 1; have hfz10_2 := blk_frozen BK126.out 2; have hfz10_3 := blk_frozen BK126.out 3; have hfz10_4 := blk_frozen BK126.out 4) | ((with_reducible refine gate_callee (f := 200) rfl ?_); refine zgL 14 Try.func200 (round_number_away.calls a0_0 a0_1 a0_2 a0_3 a0_4 a1 true _ A6.out) (h := ?_); rintro w11 hb; replace BK126 := zkb BK126 hb; replace HB := zkB HB hb; (try clear hb)))
   go_ret
   exact ⟨zaE, zaB⟩
  ·replace c8 := Bool.eq_false_iff.mpr c8
   subst c8
   have H1 : (some a4) = some r := by rw [if_neg (show ¬ (false = true) by decide)] at H; exact H
   clear H
   have H := H1
   clear H1
   obtain rfl := Option.some.inj H
   go_enter Try.func184, Try.ntmps184
   go_wp2_with (first | ((with_reducible refine gate_dst (N := 5) rfl ?_); refine zbx 5 #[.bool a0_0, .int .u64 a0_1, .int .u64 a0_2, .int .i64 a0_3, .bool a0_4] 151 (h := ?_); intro gb126 hg w12 hbox hb; have GW126 := zkZ hg (zaB (p := Below w.heap.size w _)); have GE126 := GW126; replace HB := Aside0.mk (below_step zaB hb); have BK126 := Aside0.mk (hbox); clear hb hbox hg; have hcz13_0 := zc0 BK126; have hcz13_1 := zc1 BK126; have hcz13_2 := zc2 BK126; have hcz13_3 := zc3 BK126; have hcz13_4 := zc4 BK126; have hfz13_0 := blk_frozen BK126.out 0; have hfz13_1 := blk_frozen BK126.out 1; have hfz13_2 := blk_frozen BK126.out 2; have hfz13_3 := blk_frozen BK126.out 3; have hfz13_4 := blk_frozen BK126.out 4) | ((with_reducible refine gate_callee (f := 200) rfl ?_); refine zgL 14 Try.func200 (round_number_away.calls a0_0 a0_1 a0_2 a0_3 a0_4 a1 true _ A6.out) (h := ?_); rintro w14 hb; replace BK126 := zkb BK126 hb; replace HB := zkB HB hb; (try clear hb)))
   go_ret
   exact ⟨zaE, zaB⟩
 ·replace c7 := Bool.eq_false_iff.mpr c7
  subst c7
  have H1 : ((round_number_towards.f a0_0 a0_1 a0_2 a0_3 a0_4 a1).bind fun t128 => (if t128 = true then (some false) else (if a3 = true then (if a4 = true then (some true) else (some a2)) else (some false)))) = some r := by rw [if_neg (show ¬ (false = true) by decide)] at H; exact H
  clear H
  have H := H1
  clear H1
  obtain ⟨t128, A15, H⟩ := zbs H
  try dsimp only at H
  by_cases c16 : t128 = true
  ·subst c16
   have H1 : (some false) = some r := by rw [if_pos rfl] at H; exact H
   clear H
   have H := H1
   clear H1
   obtain rfl := Option.some.inj H
   go_enter Try.func184, Try.ntmps184
   go_wp2_with (first | ((with_reducible refine gate_dst (N := 5) rfl ?_); refine zbx 5 #[.bool a0_0, .int .u64 a0_1, .int .u64 a0_2, .int .i64 a0_3, .bool a0_4] 151 (h := ?_); intro gb126 hg w17 hbox hb; have GW126 := zkZ hg (zaB (p := Below w.heap.size w _)); have GE126 := GW126; replace HB := Aside0.mk (below_step zaB hb); have BK126 := Aside0.mk (hbox); clear hb hbox hg; have hcz18_0 := zc0 BK126; have hcz18_1 := zc1 BK126; have hcz18_2 := zc2 BK126; have hcz18_3 := zc3 BK126; have hcz18_4 := zc4 BK126; have hfz18_0 := blk_frozen BK126.out 0; have hfz18_1 := blk_frozen BK126.out 1; have hfz18_2 := blk_frozen BK126.out 2; have hfz18_3 := blk_frozen BK126.out 3; have hfz18_4 := blk_frozen BK126.out 4) | ((with_reducible refine gate_callee (f := 200) rfl ?_); refine zgL 14 Try.func200 (round_number_away.calls a0_0 a0_1 a0_2 a0_3 a0_4 a1 false _ A6.out) (h := ?_); rintro w19 hb; replace BK126 := zkb BK126 hb; replace HB := zkB HB hb; (try clear hb); have hcz20_0 := zc0 BK126; have hcz20_1 := zc1 BK126; have hcz20_2 := zc2 BK126; have hcz20_3 := zc3 BK126; have hcz20_4 := zc4 BK126; have hfz20_0 := blk_frozen BK126.out 0; have hfz20_1 := blk_frozen BK126.out 1; have hfz20_2 := blk_frozen BK126.out 2; have hfz20_3 := blk_frozen BK126.out 3; have hfz20_4 := blk_frozen BK126.out 4) | ((with_reducible refine gate_callee (f := 201) rfl ?_); refine zgL 22 Try.func201 (round_number_towards.calls a0_0 a0_1 a0_2 a0_3 a0_4 a1 true _ A15.out) (h := ?_); rintro w21 hb; replace BK126 := zkb BK126 hb; replace HB := zkB HB hb; (try clear hb)))
   go_ret
   exact ⟨zaE, zaB⟩
  ·replace c16 := Bool.eq_false_iff.mpr c16
   subst c16
   have H1 : (if a3 = true then (if a4 = true then (some true) else (some a2)) else (some false)) = some r := by rw [if_neg (show ¬ (false = true) by decide)] at H; exact H
   clear H
   have H := H1
   clear H1
   by_cases c22 : a3 = true
   ·subst c22
    have H1 : (if a4 = true then (some true) else (some a2)) = some r := by rw [if_pos rfl] at H; exact H
    clear H
    have H := H1
    clear H1
    by_cases c23 : a4 = true
    ·subst c23
     have H1 : (some true) = some r := by rw [if_pos rfl] at H; exact H
     clear H
     have H := H1
     clear H1
     obtain rfl := Option.some.inj H
     go_enter Try.func184, Try.ntmps184
     go_wp2_with (first | ((with_reducible refine gate_dst (N := 5) rfl ?_); refine zbx 5 #[.bool a0_0, .int .u64 a0_1, .int .u64 a0_2, .int .i64 a0_3, .bool a0_4] 151 (h := ?_); intro gb126 hg w24 hbox hb; have GW126 := zkZ hg (zaB (p := Below w.heap.size w _)); have GE126 := GW126; replace HB := Aside0.mk (below_step zaB hb); have BK126 := Aside0.mk (hbox); clear hb hbox hg; have hcz25_0 := zc0 BK126; have hcz25_1 := zc1 BK126; have hcz25_2 := zc2 BK126; have hcz25_3 := zc3 BK126; have hcz25_4 := zc4 BK126; have hfz25_0 := blk_frozen BK126.out 0; have hfz25_1 := blk_frozen BK126.out 1; have hfz25_2 := blk_frozen BK126.out 2; have hfz25_3 := blk_frozen BK126.out 3; have hfz25_4 := blk_frozen BK126.out 4) | ((with_reducible refine gate_callee (f := 200) rfl ?_); refine zgL 14 Try.func200 (round_number_away.calls a0_0 a0_1 a0_2 a0_3 a0_4 a1 false _ A6.out) (h := ?_); rintro w26 hb; replace BK126 := zkb BK126 hb; replace HB := zkB HB hb; (try clear hb); have hcz27_0 := zc0 BK126; have hcz27_1 := zc1 BK126; have hcz27_2 := zc2 BK126; have hcz27_3 := zc3 BK126; have hcz27_4 := zc4 BK126; have hfz27_0 := blk_frozen BK126.out 0; have hfz27_1 := blk_frozen BK126.out 1; have hfz27_2 := blk_frozen BK126.out 2; have hfz27_3 := blk_frozen BK126.out 3; have hfz27_4 := blk_frozen BK126.out 4) | ((with_reducible refine gate_callee (f := 201) rfl ?_); refine zgL 22 Try.func201 (round_number_towards.calls a0_0 a0_1 a0_2 a0_3 a0_4 a1 false _ A15.out) (h := ?_); rintro w28 hb; replace BK126 := zkb BK126 hb; replace HB := zkB HB hb; (try clear hb)))
     go_ret
     exact ⟨zaE, zaB⟩
    ·replace c23 := Bool.eq_false_iff.mpr c23
     subst c23
     have H1 : (some a2) = some r := by rw [if_neg (show ¬ (false = true) by decide)] at H; exact H
     clear H
     have H := H1
     clear H1
     obtain rfl := Option.some.inj H
     go_enter Try.func184, Try.ntmps184
     go_wp2_with (first | ((with_reducible refine gate_dst (N := 5) rfl ?_); refine zbx 5 #[.bool a0_0, .int .u64 a0_1, .int .u64 a0_2, .int .i64 a0_3, .bool a0_4] 151 (h := ?_); intro gb126 hg w29 hbox hb; have GW126 := zkZ hg (zaB (p := Below w.heap.size w _)); have GE126 := GW126; replace HB := Aside0.mk (below_step zaB hb); have BK126 := Aside0.mk (hbox); clear hb hbox hg; have hcz30_0 := zc0 BK126; have hcz30_1 := zc1 BK126; have hcz30_2 := zc2 BK126; have hcz30_3 := zc3 BK126; have hcz30_4 := zc4 BK126; have hfz30_0 := blk_frozen BK126.out 0; have hfz30_1 := blk_frozen BK126.out 1; have hfz30_2 := blk_frozen BK126.out 2; have hfz30_3 := blk_frozen BK126.out 3; have hfz30_4 := blk_frozen BK126.out 4) | ((with_reducible refine gate_callee (f := 200) rfl ?_); refine zgL 14 Try.func200 (round_number_away.calls a0_0 a0_1 a0_2 a0_3 a0_4 a1 false _ A6.out) (h := ?_); rintro w31 hb; replace BK126 := zkb BK126 hb; replace HB := zkB HB hb; (try clear hb); have hcz32_0 := zc0 BK126; have hcz32_1 := zc1 BK126; have hcz32_2 := zc2 BK126; have hcz32_3 := zc3 BK126; have hcz32_4 := zc4 BK126; have hfz32_0 := blk_frozen BK126.out 0; have hfz32_1 := blk_frozen BK126.out 1; have hfz32_2 := blk_frozen BK126.out 2; have hfz32_3 := blk_frozen BK126.out 3; have hfz32_4 := blk_frozen BK126.out 4) | ((with_reducible refine gate_callee (f := 201) rfl ?_); refine zgL 22 Try.func201 (round_number_towards.calls a0_0 a0_1 a0_2 a0_3 a0_4 a1 false _ A15.out) (h := ?_); rintro w33 hb; replace BK126 := zkb BK126 hb; replace HB := zkB HB hb; (try clear hb)))
     go_ret
     exact ⟨zaE, zaB⟩
   ·replace c22 := Bool.eq_false_iff.mpr c22
    subst c22
    have H1 : (some false) = some r := by rw [if_neg (show ¬ (false = true) by decide)] at H; exact H
    clear H
    have H := H1
    clear H1
    obtain rfl := Option.some.inj H
    go_enter Try.func184, Try.ntmps184
    go_wp2_with (first | ((with_reducible refine gate_dst (N := 5) rfl ?_); refine zbx 5 #[.bool a0_0, .int .u64 a0_1, .int .u64 a0_2, .int .i64 a0_3, .bool a0_4] 151 (h := ?_); intro gb126 hg w34 hbox hb; have GW126 := zkZ hg (zaB (p := Below w.heap.size w _)); have GE126 := GW126; replace HB := Aside0.mk (below_step zaB hb); have BK126 := Aside0.mk (hbox); clear hb hbox hg; have hcz35_0 := zc0 BK126; have hcz35_1 := zc1 BK126; have hcz35_2 := zc2 BK126; have hcz35_3 := zc3 BK126; have hcz35_4 := zc4 BK126; have hfz35_0 := blk_frozen BK126.out 0; have hfz35_1 := blk_frozen BK126.out 1; have hfz35_2 := blk_frozen BK126.out 2; have hfz35_3 := blk_frozen BK126.out 3; have hfz35_4 := blk_frozen BK126.out 4) | ((with_reducible refine gate_callee (f := 200) rfl ?_); refine zgL 14 Try.func200 (round_number_away.calls a0_0 a0_1 a0_2 a0_3 a0_4 a1 false _ A6.out) (h := ?_); rintro w36 hb; replace BK126 := zkb BK126 hb; replace HB := zkB HB hb; (try clear hb); have hcz37_0 := zc0 BK126; have hcz37_1 := zc1 BK126; have hcz37_2 := zc2 BK126; have hcz37_3 := zc3 BK126; have hcz37_4 := zc4 BK126; have hfz37_0 := blk_frozen BK126.out 0; have hfz37_1 := blk_frozen BK126.out 1; have hfz37_2 := blk_frozen BK126.out 2; have hfz37_3 := blk_frozen BK126.out 3; have hfz37_4 := blk_frozen BK126.out 4) | ((with_reducible refine gate_callee (f := 201) rfl ?_); refine zgL 22 Try.func201 (round_number_towards.calls a0_0 a0_1 a0_2 a0_3 a0_4 a1 false _ A15.out) (h := ?_); rintro w38 hb; replace BK126 := zkb BK126 hb; replace HB := zkB HB hb; (try clear hb)))
    go_ret
    exact ⟨zaE, zaB⟩
end Go.Proofs.Ytmadjhmecfbcmaa.F
end
section
namespace Go.Proofs.Ytmadjhmecfbcmaa.F
open Go.RowKit Go.Proofs.YtmadjhmecfbcmaaW.PrintWords Go.Proofs.YtmadjhmecfbcmaaW.PrintLast Go.Proofs.YtmadjhmecfbcmaaW.PrintMore
attribute [local go_sem] max2_int min2_int max_two min_two max_three min_three max_four min_four
set_option linter.unusedVariables false
set_option linter.unusedSimpArgs false
set_option maxHeartbeats 8000000 in
set_option maxRecDepth 100000 in
theorem pattern_Inf.calls (k : Nat) (a0 : Bool) (r : Int) (w : World) (h : pattern_Inf.f k a0 = some r) :
  Calls Try.prog 79 #[.bool a0] w fun e w' => e = .returned (.int .u64 r) ∧ Drawn0 w w' := by
 have H : ((pattern_Make.f k a0 2047 0).bind fun bt129 => (some bt129.1)) = some r := h
 clear h
 obtain ⟨⟨t129, t130⟩, A2, H⟩ := zbs H
 try dsimp only at H
 obtain rfl := Option.some.inj H
 go_enter Try.func79, Try.ntmps79
 go_wp2_with (first | ((with_reducible refine gate_callee (f := 150) rfl ?_); refine zgL 7 Try.func150 (pattern_Make.calls k a0 2047 0 t129 t130 _ A2.out) (h := ?_); rintro w' ⟨nd, rfl⟩))
 go_ret
 exact ⟨by first | rfl | (simp; done) | (simp [*]; done), by repeat (first | exact Drawn0.refl _ | apply Drawn0.step)⟩
end Go.Proofs.Ytmadjhmecfbcmaa.F
end
section
namespace Go.Proofs.Ytmadjhmecfbcmaa.F
open Go.RowKit Go.Proofs.YtmadjhmecfbcmaaW.PrintWords Go.Proofs.YtmadjhmecfbcmaaW.PrintLast Go.Proofs.YtmadjhmecfbcmaaW.PrintMore
attribute [local go_sem] max2_int min2_int max_two min_two max_three min_three max_four min_four
set_option linter.unusedVariables false
set_option linter.unusedSimpArgs false
set_option maxHeartbeats 8000000 in
set_option maxRecDepth 100000 in
theorem round_number_over.calls (k : Nat) (a0_0 : Bool) (a0_1 : Int) (a0_2 : Int) (a0_3 : Int) (a0_4 : Bool) (a1 : Int) (r1 : Int) (r2 : Int) (w : World) (h : round_number_over.f k a0_0 a0_1 a0_2 a0_3 a0_4 a1 = some (r1, r2)) :
  Calls Try.prog 185 #[.agg #[.bool a0_0, .int .u64 a0_1, .int .u64 a0_2, .int .i64 a0_3, .bool a0_4], .int .u8 a1] w fun e w' => e = .returned (.tuple #[.int .u64 r1, .int .u8 r2]) ∧ Below w.heap.size w w' := by
 have hu151 := Try.underlying151
 have HB := Aside0.mk (Below.refl w.heap.size w)
 have H : ((pattern_Inf.f k a0_0).bind fun t132 => ((round_number_towards.f a0_0 a0_1 a0_2 a0_3 a0_4 a1).bind fun t133 => (if t133 = true then (some (IntKind.u64.wrap (t132 - 1), 5)) else (some (t132, 5))))) = some (r1, r2) := h
 clear h
 obtain ⟨t132, A3, H⟩ := zbs H
 try dsimp only at H
 obtain ⟨t133, A4, H⟩ := zbs H
 try dsimp only at H
 by_cases c5 : t133 = true
 ·subst c5
  have H1 : (some (IntKind.u64.wrap (t132 - 1), 5)) = some (r1, r2) := by rw [if_pos rfl] at H; exact H
  clear H
  have H := H1
  clear H1
  simp only [Option.some.injEq, Prod.mk.injEq] at H
  obtain ⟨rfl, rfl⟩ := H
  go_enter Try.func185, Try.ntmps185
  go_wp2_with (first | ((with_reducible refine gate_dst (N := 2) rfl ?_); refine zbx 2 #[.bool a0_0, .int .u64 a0_1, .int .u64 a0_2, .int .i64 a0_3, .bool a0_4] 151 (h := ?_); intro gb131 hg w6 hbox hb; have GW131 := zkZ hg (zaB (p := Below w.heap.size w _)); have GE131 := GW131; replace HB := Aside0.mk (below_step zaB hb); have BK131 := Aside0.mk (hbox); clear hb hbox hg; have hcz7_0 := zc0 BK131; have hcz7_1 := zc1 BK131; have hcz7_2 := zc2 BK131; have hcz7_3 := zc3 BK131; have hcz7_4 := zc4 BK131; have hfz7_0 := blk_frozen BK131.out 0; have hfz7_1 := blk_frozen BK131.out 1; have hfz7_2 := blk_frozen BK131.out 2; have hfz7_3 := blk_frozen BK131.out 3; have hfz7_4 := blk_frozen BK131.out 4) | ((with_reducible refine gate_callee (f := 79) rfl ?_); refine zgL 9 Try.func79 (pattern_Inf.calls k a0_0 t132 _ A3.out) (h := ?_); rintro w' ⟨nd, rfl⟩) | ((with_reducible refine gate_callee (f := 201) rfl ?_); refine zgL 12 Try.func201 (round_number_towards.calls a0_0 a0_1 a0_2 a0_3 a0_4 a1 true _ A4.out) (h := ?_); rintro w8 hb; replace BK131 := zkb BK131 hb; replace HB := zkB HB hb; (try clear hb)))
  go_ret2
  exact ⟨zaE, zaB⟩
 ·replace c5 := Bool.eq_false_iff.mpr c5
  subst c5
  have H1 : (some (t132, 5)) = some (r1, r2) := by rw [if_neg (show ¬ (false = true) by decide)] at H; exact H
  clear H
  have H := H1
  clear H1
  simp only [Option.some.injEq, Prod.mk.injEq] at H
  obtain ⟨rfl, rfl⟩ := H
  go_enter Try.func185, Try.ntmps185
  go_wp2_with (first | ((with_reducible refine gate_dst (N := 2) rfl ?_); refine zbx 2 #[.bool a0_0, .int .u64 a0_1, .int .u64 a0_2, .int .i64 a0_3, .bool a0_4] 151 (h := ?_); intro gb131 hg w9 hbox hb; have GW131 := zkZ hg (zaB (p := Below w.heap.size w _)); have GE131 := GW131; replace HB := Aside0.mk (below_step zaB hb); have BK131 := Aside0.mk (hbox); clear hb hbox hg; have hcz10_0 := zc0 BK131; have hcz10_1 := zc1 BK131; have hcz10_2 := zc2 BK131; have hcz10_3 := zc3 BK131; have hcz10_4 := zc4 BK131; have hfz10_0 := blk_frozen BK131.out 0; have hfz10_1 := blk_frozen BK131.out 1; have hfz10_2 := blk_frozen BK131.out 2; have hfz10_3 := blk_frozen BK131.out 3; have hfz10_4 := blk_frozen BK131.out 4) | ((with_reducible refine gate_callee (f := 79) rfl ?_); refine zgL 9 Try.func79 (pattern_Inf.calls k a0_0 t132 _ A3.out) (h := ?_); rintro w' ⟨nd, rfl⟩) | ((with_reducible refine gate_callee (f := 201) rfl ?_); refine zgL 12 Try.func201 (round_number_towards.calls a0_0 a0_1 a0_2 a0_3 a0_4 a1 false _ A4.out) (h := ?_); rintro w11 hb; replace BK131 := zkb BK131 hb; replace HB := zkB HB hb; (try clear hb)))
  go_ret2
  exact ⟨zaE, zaB⟩
end Go.Proofs.Ytmadjhmecfbcmaa.F
end
section
namespace Go.Proofs.Ytmadjhmecfbcmaa.F
open Go.RowKit Go.Proofs.YtmadjhmecfbcmaaW.PrintWords Go.Proofs.YtmadjhmecfbcmaaW.PrintLast Go.Proofs.YtmadjhmecfbcmaaW.PrintMore
attribute [local go_sem] max2_int min2_int max_two min_two max_three min_three max_four min_four
set_option linter.unusedVariables false
set_option linter.unusedSimpArgs false
def round_number_float.T3 : Bool × List (List Nat × List Nat) := (true, [([], []), ([0], [0]), ([], []), ([2], [2]), ([], []), ([4, 1, 0, 1, 4], [1, 4]), ([5, 0, 1, 4, 5], []), ([3, 6, 0, 1, 2, 3, 4, 5, 6], [3])])
def round_number_float.B3 : List Nat := [0, 1, 0, 4, 0, 19, 51, 127]
theorem round_number_float.tab3 : rtab .any (opsOf Try.f159 3) = round_number_float.T3 := by kernel_rfl
theorem round_number_float.bits3 : waitsOk round_number_float.T3.2 round_number_float.B3 = true := by kernel_rfl
set_option maxHeartbeats 8000000 in
set_option maxRecDepth 100000 in
theorem round_number_float.calls (k : Nat) (a0_0 : Bool) (a0_1 : Int) (a0_2 : Int) (a0_3 : Int) (a0_4 : Bool) (a1 : Int) (r1 : Int) (r2 : Int) (w : World) (h : round_number_float.f k a0_0 a0_1 a0_2 a0_3 a0_4 a1 = some (r1, r2)) :
  Calls Try.prog 159 #[.agg #[.bool a0_0, .int .u64 a0_1, .int .u64 a0_2, .int .i64 a0_3, .bool a0_4], .int .u8 a1] w fun e w' => e = .returned (.tuple #[.int .u64 r1, .int .u8 r2]) ∧ Below w.heap.size w w' := by
 have hu151 := Try.underlying151
 have hu109 := Try.underlying109
 have HB := Aside0.mk (Below.refl w.heap.size w)
 have H : ((wide_U128_Len.f a0_1 a0_2).bind fun t135 => (if (wrap64 ((mx (wrap64 ((wrap64 (t135 - 53)) + a0_3)) (-1074)) - a0_3)) > 0 then ((wide_U128_Shr.f k a0_1 a0_2 (wrap64 ((wrap64 ((mx (wrap64 ((wrap64 (t135 - 53)) + a0_3)) (-1074)) - a0_3)) - 1))).bind fun bt137 => (if a0_4 = true then ((wide_U128_Shr.f k bt137.1 bt137.2.1 1).bind fun bt140 => (round_number_float.j0 k a1 t135 (mx (wrap64 ((wrap64 (t135 - 53)) + a0_3)) (-1074)) ((Go.bits .and .u64 bt137.2.1 1) == 1) true a0_0 a0_1 a0_2 a0_3 a0_4 bt140.1 bt140.2.1)) else ((wide_U128_Shr.f k bt137.1 bt137.2.1 1).bind fun bt143 => (round_number_float.j0 k a1 t135 (mx (wrap64 ((wrap64 (t135 - 53)) + a0_3)) (-1074)) ((Go.bits .and .u64 bt137.2.1 1) == 1) bt137.2.2 a0_0 a0_1 a0_2 a0_3 a0_4 bt143.1 bt143.2.1)))) else ((wide_U128_Shl.f k a0_1 a0_2 (wrap64 (-(wrap64 ((mx (wrap64 ((wrap64 (t135 - 53)) + a0_3)) (-1074)) - a0_3))))).bind fun bt146 => (round_number_float.j0 k a1 t135 (mx (wrap64 ((wrap64 (t135 - 53)) + a0_3)) (-1074)) false a0_4 a0_0 a0_1 a0_2 a0_3 a0_4 bt146.1 bt146.2)))) = some (r1, r2) := h
 clear h
 obtain ⟨t135, A3, H⟩ := zbs H
 try dsimp only at H
 obtain ⟨ji4, hji4⟩ : ∃ j_ : Int, (mx (wrap64 ((wrap64 (t135 - 53)) + a0_3)) (-1074)) = j_ := ⟨_, rfl⟩
 replace H : (if (wrap64 ((ji4) - a0_3)) > 0 then ((wide_U128_Shr.f k a0_1 a0_2 (wrap64 ((wrap64 ((ji4) - a0_3)) - 1))).bind fun bt137 => (if a0_4 = true then ((wide_U128_Shr.f k bt137.1 bt137.2.1 1).bind fun bt140 => (round_number_float.j0 k a1 t135 ji4 ((Go.bits .and .u64 bt137.2.1 1) == 1) true a0_0 a0_1 a0_2 a0_3 a0_4 bt140.1 bt140.2.1)) else ((wide_U128_Shr.f k bt137.1 bt137.2.1 1).bind fun bt143 => (round_number_float.j0 k a1 t135 ji4 ((Go.bits .and .u64 bt137.2.1 1) == 1) bt137.2.2 a0_0 a0_1 a0_2 a0_3 a0_4 bt143.1 bt143.2.1)))) else ((wide_U128_Shl.f k a0_1 a0_2 (wrap64 (-(wrap64 ((ji4) - a0_3))))).bind fun bt146 => (round_number_float.j0 k a1 t135 ji4 false a0_4 a0_0 a0_1 a0_2 a0_3 a0_4 bt146.1 bt146.2))) = some (r1, r2) := by first | (rw [hji4] at H; exact H) | (simp only [hji4] at H ⊢; exact H)
 (try rw [hji4] at A3)
 have hji4_ : (if (wrap64 ((wrap64 (t135 - 53)) + a0_3)) < (-1074) then (-1074) else (wrap64 ((wrap64 (t135 - 53)) + a0_3))) = ji4 := hji4
 (try (have hji4n := hji4_; simp only [Int.ofNat_lt] at hji4n))
 have HC5 := Aside0.mk H
 clear H
 go_enter Try.func159, Try.ntmps159
 try go_wp2_with (first | ((with_reducible refine gate_dst (N := 2) rfl ?_); refine zbx 2 #[.bool a0_0, .int .u64 a0_1, .int .u64 a0_2, .int .i64 a0_3, .bool a0_4] 151 (h := ?_); intro gb134 hg w6 hbox hb; have GW134 := zkZ hg (zaB (p := Below w.heap.size w _)); have GE134 := GW134; replace HB := Aside0.mk (below_step zaB hb); have BK134 := Aside0.mk (hbox); clear hb hbox hg; have hcz7_0 := zc0 BK134; have hcz7_1 := zc1 BK134; have hcz7_2 := zc2 BK134; have hcz7_3 := zc3 BK134; have hcz7_4 := zc4 BK134; have hfz7_0 := blk_frozen BK134.out 0; have hfz7_1 := blk_frozen BK134.out 1; have hfz7_2 := blk_frozen BK134.out 2; have hfz7_3 := blk_frozen BK134.out 3; have hfz7_4 := blk_frozen BK134.out 4) | ((with_reducible refine gate_callee (f := 103) rfl ?_); refine zgL 20 Try.func103 (wide_U128_Len.calls a0_1 a0_2 t135 _ A3.out) (h := ?_); rintro w8 hb; replace BK134 := zkb BK134 hb; replace HB := zkB HB hb; (try clear hb); have hcz9_0 := zc0 BK134; have hcz9_1 := zc1 BK134; have hcz9_2 := zc2 BK134; have hcz9_3 := zc3 BK134; have hcz9_4 := zc4 BK134; have hfz9_0 := blk_frozen BK134.out 0; have hfz9_1 := blk_frozen BK134.out 1; have hfz9_2 := blk_frozen BK134.out 2; have hfz9_3 := blk_frozen BK134.out 3; have hfz9_4 := blk_frozen BK134.out 4))
 replace BK134 := Aside0.mk (blk_drew BK134.out)
 replace HB := Aside0.mk (below_drew1 HB.out)
 refine start_ (n := 8) (S := fun w' => w'.cell? ⟨gb134, 0, none⟩ = some (.bool a0_0) ∧ w'.cell? ⟨gb134, 1, none⟩ = some (.int .u64 a0_1) ∧ w'.cell? ⟨gb134, 2, none⟩ = some (.int .u64 a0_2) ∧ w'.cell? ⟨gb134, 3, none⟩ = some (.int .i64 a0_3) ∧ w'.cell? ⟨gb134, 4, none⟩ = some (.bool a0_4)) (ds := []) #[false, false, false, false, false, false, false, false] (by kernel_rfl) rfl rfl (ze5 BK134) (fun hHeld => ?_); refine with_tabW round_number_float.tab3 round_number_float.bits3 (fun HT_ HW_ => ?_)
 generalize w8.drew = w10 at BK134 HB hHeld ⊢
 refine zpA 0 27 (h := ?_)
 refine zpA 2 29 (h := ?_)
 refine ztA 1 28 (h := ?_)
 refine ztA 3 30 (h := ?_)
 refine zoA 4 8 (h := fun K hK => ?_)
 refine box_step ?hg (N := 8) ?hd (cs := #[.int .u64 0, .int .u64 0]) (t := 109) ?hr ?_; (case hd => rfl); (case hg => rfl); (case hr => first | (go_simp; done) | (go_simp; rfl))
 intro gb136 hg w11 hbox hb
 have GW136 := zkz HB hg
 have GE136 := GW136
 have NB134_136 := zkl BK134 hg
 have NB136_134 := zkr BK134 hg
 replace BK134 := zkb BK134 hb
 replace HB := zkB HB hb
 have BK136 := Aside0.mk (hbox)
 clear hb hbox hg
 refine hK.out _ _ (ze5 BK134) (fun hHeld => ?_)
 clear hK K
 refine znA 8 (h := ?_)
 refine one_ (i := 5) (N := none) #[true, true, true, true, true, true, false, false] rfl rfl (one_of HT_.out (by kernel_rfl)) (by decide) (fun K hK => ?_)
 have hs12 := zc0 BK136
 have hfs12 := blk_frozen BK136.out 0
 have hns12_0 := NB134_136.out
 have hms12_0 := NB136_134.out
 have hs13 := zc1 BK136
 have hfs13 := blk_frozen BK136.out 1
 have hns13_0 := NB134_136.out
 have hms13_0 := NB136_134.out
 refine skip_ (w1 := ?_) (by rfl) rfl ?_ ?_
 rotate_left
 ·go_simp
  rfl
 refine hK.out _ _ ⟨(zff NB134_136 (zff NB134_136 hHeld.1)), (zff NB134_136 (zff NB134_136 hHeld.2.1)), (zff NB134_136 (zff NB134_136 hHeld.2.2.1)), (zff NB134_136 (zff NB134_136 hHeld.2.2.2.1)), (zff NB134_136 (zff NB134_136 hHeld.2.2.2.2))⟩ (fun hHeld => ?_)
 clear hK K
 refine zpA 6 9 (h := ?_)
 refine zpA 7 10 (h := ?_)
 refine done_ (done_of HT_.out (by kernel_rfl)) ?_
 have hnb14 := NB134_136.out
 have hnc14 := NB136_134.out
 have hcz15_0 := zc0 BK134
 have hcz15_1 := zc1 BK134
 have hcz15_2 := zc2 BK134
 have hcz15_3 := zc3 BK134
 have hcz15_4 := zc4 BK134
 have hfz15_0 := blk_frozen BK134.out 0
 have hfz15_1 := blk_frozen BK134.out 1
 have hfz15_2 := blk_frozen BK134.out 2
 have hfz15_3 := blk_frozen BK134.out 3
 have hfz15_4 := blk_frozen BK134.out 4
 go_upto_if 36 with (fail)
 go_cut [9, 10] (fun v9 v10 wc => ∃ (kq : Nat) (x9_4 : Bool) (x10_4 : Bool) (x137000_4 : Int) (x137001_4 : Int), v9 = .bool x9_4 ∧ v10 = .bool x10_4 ∧ Aside0 (round_number_float.j0 kq a1 t135 ji4 x9_4 x10_4 a0_0 a0_1 a0_2 a0_3 a0_4 x137000_4 x137001_4 = some (r1, r2)) ∧ Aside0 (kq ≤ k) ∧ Aside0 (wc.heap[gb134]? = some (.cells #[.bool a0_0, .int .u64 a0_1, .int .u64 a0_2, .int .i64 a0_3, .bool a0_4] 151 (0, 0))) ∧ Aside0 (wc.heap[gb136]? = some (.cells #[.int .u64 x137000_4, .int .u64 x137001_4] 109 (0, 0))) ∧ Aside0 (Below w.heap.size w wc))
 case first =>
  have H := HC5.out
  clear HC5
  by_cases c16 : (wrap64 ((ji4) - a0_3)) > 0
  ·rw [if_pos c16] at H
   have c16b0 : decide (0 < (wrap64 ((ji4) - a0_3))) = true := decide_eq_true c16
   clear c16
   (first | rw [c16b0] | (simp only [i64_w, i32_w]; rw [c16b0]) | skip)
   obtain ⟨⟨t137, t138, t139⟩, A17, H⟩ := zbs H
   try dsimp only at H
   by_cases c18 : a0_4 = true
   ·subst c18
    have H1 : ((wide_U128_Shr.f k t137 t138 1).bind fun bt140 => (round_number_float.j0 k a1 t135 ji4 ((Go.bits .and .u64 t138 1) == 1) true a0_0 a0_1 a0_2 a0_3 true bt140.1 bt140.2.1)) = some (r1, r2) := by rw [if_pos rfl] at H; exact H
    clear H
    have H := H1
    clear H1
    obtain ⟨⟨t140, t141, t142⟩, A19, H⟩ := zbs H
    try dsimp only at H
    have H' := Aside0.mk H
    clear H
    have hnb20 := NB134_136.out
    have hnc20 := NB136_134.out
    have hcz21_0 := zc0 BK134
    have hcz21_1 := zc1 BK134
    have hcz21_2 := zc2 BK134
    have hcz21_3 := zc3 BK134
    have hcz21_4 := zc4 BK134
    have hfz21_0 := blk_frozen BK134.out 0
    have hfz21_1 := blk_frozen BK134.out 1
    have hfz21_2 := blk_frozen BK134.out 2
    have hfz21_3 := blk_frozen BK134.out 3
    have hfz21_4 := blk_frozen BK134.out 4
    go_wp2_with (first | ((with_reducible refine gate_callee (f := 151) rfl ?_); refine goesL_ (some 42) rfl rfl Try.func151 (by kernel_rfl) rfl #[.agg #[.int .u64 a0_1, .int .u64 a0_2], .int .i64 (wrap64 ((wrap64 ((ji4) - a0_3)) - 1))] rfl (by (try simp only [List.map_toArray, List.map_cons, List.map_nil]); first | done | (simp only [hji4]; rfl) | rfl | (simp only [List.length_drop, List.length_take]; rfl)) ?_; (with_reducible refine (wide_U128_Shr.calls k a0_1 a0_2 (wrap64 ((wrap64 ((ji4) - a0_3)) - 1)) t137 t138 t139 _ A17.out).mono ?_); rintro e w22 ⟨rfl, hb⟩; refine ⟨_, rfl, ?_⟩; replace BK134 := Aside0.mk (blk_below (zkf (zkf BK134.out NB134_136.out _) NB134_136.out _) hb); replace BK136 := Aside0.mk (blk_below (o := .cells #[.int .u64 a0_1, .int .u64 a0_2] 109 (0, 0)) (blk_put (cs := #[.int .u64 a0_1, .int .u64 0]) (blk_put BK136.out 0 _ rfl) 1 _ rfl) hb); replace HB := Aside0.mk (below_step (below_set (below_set HB.out GE136.out) GE136.out) hb); (try clear hb); have hcz23_0 := zc0 BK136; have hcz23_1 := zc1 BK136; have hfz23_0 := blk_frozen BK136.out 0; have hfz23_1 := blk_frozen BK136.out 1) | ((with_reducible refine gate_callee (f := 151) rfl ?_); refine zgL 55 Try.func151 (wide_U128_Shr.calls k t137 t138 1 t140 t141 t142 _ A19.out) (h := ?_); rintro w24 hb; replace BK134 := Aside0.mk (blk_below (zkf (zkf BK134.out NB134_136.out _) NB134_136.out _) hb); replace BK136 := Aside0.mk (blk_below (o := .cells #[.int .u64 t137, .int .u64 t138] 109 (0, 0)) (blk_put (cs := #[.int .u64 t137, .int .u64 a0_2]) (blk_put BK136.out 0 _ rfl) 1 _ rfl) hb); replace HB := Aside0.mk (below_step (below_set (below_set HB.out GE136.out) GE136.out) hb); (try clear hb); have hcz25_0 := zc0 BK136; have hcz25_1 := zc1 BK136; have hfz25_0 := blk_frozen BK136.out 0; have hfz25_1 := blk_frozen BK136.out 1))
    go_meet
    case rel => exact ⟨_, (((Go.bits .and .u64 t138 1) == 1)), (true), (t140), (t141), (by first | rfl | (simp; done) | (simp [*]; done)), (by first | rfl | (simp; done) | (simp [*]; done)), H', ⟨by first | omega | exact Nat.le_refl _⟩, ⟨(zkf (zkf (zkq BK134) NB134_136.out _) NB134_136.out _)⟩, ⟨(blk_put (cs := #[.int .u64 t140, .int .u64 t138]) (blk_put (zkq BK136) 0 _ rfl) 1 _ rfl)⟩, ⟨zaB⟩⟩
   ·replace c18 := Bool.eq_false_iff.mpr c18
    subst c18
    have H1 : ((wide_U128_Shr.f k t137 t138 1).bind fun bt143 => (round_number_float.j0 k a1 t135 ji4 ((Go.bits .and .u64 t138 1) == 1) t139 a0_0 a0_1 a0_2 a0_3 false bt143.1 bt143.2.1)) = some (r1, r2) := by rw [if_neg (show ¬ (false = true) by decide)] at H; exact H
    clear H
    have H := H1
    clear H1
    obtain ⟨⟨t143, t144, t145⟩, A26, H⟩ := zbs H
    try dsimp only at H
    have H' := Aside0.mk H
    clear H
    have hnb27 := NB134_136.out
    have hnc27 := NB136_134.out
    have hcz28_0 := zc0 BK134
    have hcz28_1 := zc1 BK134
    have hcz28_2 := zc2 BK134
    have hcz28_3 := zc3 BK134
    have hcz28_4 := zc4 BK134
    have hfz28_0 := blk_frozen BK134.out 0
    have hfz28_1 := blk_frozen BK134.out 1
    have hfz28_2 := blk_frozen BK134.out 2
    have hfz28_3 := blk_frozen BK134.out 3
    have hfz28_4 := blk_frozen BK134.out 4
    go_wp2_with (first | ((with_reducible refine gate_callee (f := 151) rfl ?_); refine goesL_ (some 42) rfl rfl Try.func151 (by kernel_rfl) rfl #[.agg #[.int .u64 a0_1, .int .u64 a0_2], .int .i64 (wrap64 ((wrap64 ((ji4) - a0_3)) - 1))] rfl (by (try simp only [List.map_toArray, List.map_cons, List.map_nil]); first | done | (simp only [hji4]; rfl) | rfl | (simp only [List.length_drop, List.length_take]; rfl)) ?_; (with_reducible refine (wide_U128_Shr.calls k a0_1 a0_2 (wrap64 ((wrap64 ((ji4) - a0_3)) - 1)) t137 t138 t139 _ A17.out).mono ?_); rintro e w29 ⟨rfl, hb⟩; refine ⟨_, rfl, ?_⟩; replace BK134 := Aside0.mk (blk_below (zkf (zkf BK134.out NB134_136.out _) NB134_136.out _) hb); replace BK136 := Aside0.mk (blk_below (o := .cells #[.int .u64 a0_1, .int .u64 a0_2] 109 (0, 0)) (blk_put (cs := #[.int .u64 a0_1, .int .u64 0]) (blk_put BK136.out 0 _ rfl) 1 _ rfl) hb); replace HB := Aside0.mk (below_step (below_set (below_set HB.out GE136.out) GE136.out) hb); (try clear hb); have hcz30_0 := zc0 BK136; have hcz30_1 := zc1 BK136; have hfz30_0 := blk_frozen BK136.out 0; have hfz30_1 := blk_frozen BK136.out 1) | ((with_reducible refine gate_callee (f := 151) rfl ?_); refine zgL 55 Try.func151 (wide_U128_Shr.calls k t137 t138 1 t143 t144 t145 _ A26.out) (h := ?_); rintro w31 hb; replace BK134 := Aside0.mk (blk_below (zkf (zkf BK134.out NB134_136.out _) NB134_136.out _) hb); replace BK136 := Aside0.mk (blk_below (o := .cells #[.int .u64 t137, .int .u64 t138] 109 (0, 0)) (blk_put (cs := #[.int .u64 t137, .int .u64 a0_2]) (blk_put BK136.out 0 _ rfl) 1 _ rfl) hb); replace HB := Aside0.mk (below_step (below_set (below_set HB.out GE136.out) GE136.out) hb); (try clear hb); have hcz32_0 := zc0 BK136; have hcz32_1 := zc1 BK136; have hfz32_0 := blk_frozen BK136.out 0; have hfz32_1 := blk_frozen BK136.out 1))
    go_meet
    case rel => exact ⟨_, (((Go.bits .and .u64 t138 1) == 1)), (t139), (t143), (t144), (by first | rfl | (simp; done) | (simp [*]; done)), (by first | rfl | (simp; done) | (simp [*]; done)), H', ⟨by first | omega | exact Nat.le_refl _⟩, ⟨(zkf (zkf (zkq BK134) NB134_136.out _) NB134_136.out _)⟩, ⟨(blk_put (cs := #[.int .u64 t143, .int .u64 t138]) (blk_put (zkq BK136) 0 _ rfl) 1 _ rfl)⟩, ⟨zaB⟩⟩
  ·rw [if_neg c16] at H
   have c16b0 : decide (0 < (wrap64 ((ji4) - a0_3))) = false := decide_eq_false c16
   clear c16
   (first | rw [c16b0] | (simp only [i64_w, i32_w]; rw [c16b0]) | skip)
   obtain ⟨⟨t146, t147⟩, A33, H⟩ := zbs H
   try dsimp only at H
   have H' := Aside0.mk H
   clear H
   have hnb34 := NB136_134.out
   have hnc34 := NB134_136.out
   have hcz35_0 := zc0 BK136
   have hcz35_1 := zc1 BK136
   have hfz35_0 := blk_frozen BK136.out 0
   have hfz35_1 := blk_frozen BK136.out 1
   go_wp2_with (first | ((with_reducible refine gate_callee (f := 106) rfl ?_); refine goesL_ (some 61) rfl rfl Try.func106 (by kernel_rfl) rfl #[.agg #[.int .u64 a0_1, .int .u64 a0_2], .int .i64 (wrap64 (-(wrap64 ((ji4) - a0_3))))] rfl (by (try simp only [List.map_toArray, List.map_cons, List.map_nil]); first | done | (simp only [hji4]; rfl) | rfl | (simp only [List.length_drop, List.length_take]; rfl)) ?_; (with_reducible refine (wide_U128_Shl.calls k a0_1 a0_2 (wrap64 (-(wrap64 ((ji4) - a0_3)))) t146 t147 _ A33.out).mono ?_); rintro e w36 ⟨rfl, hb⟩; refine ⟨_, rfl, ?_⟩; replace BK134 := Aside0.mk (blk_below (zkf (zkf BK134.out NB134_136.out _) NB134_136.out _) hb); replace BK136 := Aside0.mk (blk_below (o := .cells #[.int .u64 a0_1, .int .u64 a0_2] 109 (0, 0)) (blk_put (cs := #[.int .u64 a0_1, .int .u64 0]) (blk_put BK136.out 0 _ rfl) 1 _ rfl) hb); replace HB := Aside0.mk (below_step (below_set (below_set HB.out GE136.out) GE136.out) hb); (try clear hb); have hcz37_0 := zc0 BK136; have hcz37_1 := zc1 BK136; have hfz37_0 := blk_frozen BK136.out 0; have hfz37_1 := blk_frozen BK136.out 1))
   go_meet
   case rel => exact ⟨_, (false), (a0_4), (t146), (t147), (by first | rfl | (simp; done) | (simp [*]; done)), (by first | rfl | (simp; done) | (simp [*]; done)), H', ⟨by first | omega | exact Nat.le_refl _⟩, ⟨(zkf (zkf (zkq BK134) NB134_136.out _) NB134_136.out _)⟩, ⟨(blk_put (cs := #[.int .u64 t146, .int .u64 a0_2]) (blk_put (zkq BK136) 0 _ rfl) 1 _ rfl)⟩, ⟨zaB⟩⟩
 case rest =>
  clear HC5
  try clear c1
  try clear c2
  try clear p2
  try clear c3
  try clear p6
  try clear c10
  try clear c14
  try clear c15
  try clear c16
  try clear c16b0
  try clear c18
  try clear c20
  try clear c27
  try clear c34
  try clear hcz15_0
  try clear hcz15_1
  try clear hcz15_2
  try clear hcz15_3
  try clear hcz15_4
  try clear hcz21_0
  try clear hcz21_1
  try clear hcz21_2
  try clear hcz21_3
  try clear hcz21_4
  try clear hcz23_0
  try clear hcz23_1
  try clear hcz25_0
  try clear hcz25_1
  try clear hcz28_0
  try clear hcz28_1
  try clear hcz28_2
  try clear hcz28_3
  try clear hcz28_4
  try clear hcz30_0
  try clear hcz30_1
  try clear hcz32_0
  try clear hcz32_1
  try clear hcz35_0
  try clear hcz35_1
  try clear hcz37_0
  try clear hcz37_1
  try clear hcz7_0
  try clear hcz7_1
  try clear hcz7_2
  try clear hcz7_3
  try clear hcz7_4
  try clear hcz9_0
  try clear hcz9_1
  try clear hcz9_2
  try clear hcz9_3
  try clear hcz9_4
  try clear hfz15_0
  try clear hfz15_1
  try clear hfz15_2
  try clear hfz15_3
  try clear hfz15_4
  try clear hfz21_0
  try clear hfz21_1
  try clear hfz21_2
  try clear hfz21_3
  try clear hfz21_4
  try clear hfz23_0
  try clear hfz23_1
  try clear hfz25_0
  try clear hfz25_1
  try clear hfz28_0
  try clear hfz28_1
  try clear hfz28_2
  try clear hfz28_3
  try clear hfz28_4
  try clear hfz30_0
  try clear hfz30_1
  try clear hfz32_0
  try clear hfz32_1
  try clear hfz35_0
  try clear hfz35_1
  try clear hfz37_0
  try clear hfz37_1
  try clear hfz7_0
  try clear hfz7_1
  try clear hfz7_2
  try clear hfz7_3
  try clear hfz7_4
  try clear hfz9_0
  try clear hfz9_1
  try clear hfz9_2
  try clear hfz9_3
  try clear hfz9_4
  obtain ⟨kq, x9_4, x10_4, x137000_4, x137001_4, rfl, rfl, HA, HJ4, BK134, BK136, HB⟩ := hcut
  cases kq with
  | zero => exact absurd HA.out (by simp [round_number_float.j0])
  | succ kj4 =>
   have H := HA.out
   clear HA
   simp only [round_number_float.j0] at H
   obtain ⟨t148, A38, H⟩ := zbs H
   try dsimp only at H
   have HC39 := Aside0.mk H
   clear H
   have hnb40 := NB136_134.out
   have hnc40 := NB134_136.out
   have hcz41_0 := zc0 BK136
   have hcz41_1 := zc1 BK136
   have hfz41_0 := blk_frozen BK136.out 0
   have hfz41_1 := blk_frozen BK136.out 1
   have hcz42_0 := zc0 BK134
   have hcz42_1 := zc1 BK134
   have hcz42_2 := zc2 BK134
   have hcz42_3 := zc3 BK134
   have hcz42_4 := zc4 BK134
   have hfz42_0 := blk_frozen BK134.out 0
   have hfz42_1 := blk_frozen BK134.out 1
   have hfz42_2 := blk_frozen BK134.out 2
   have hfz42_3 := blk_frozen BK134.out 3
   have hfz42_4 := blk_frozen BK134.out 4
   go_upto_if 71 with (first | ((with_reducible refine gate_callee (f := 184) rfl ?_); refine zgL 71 Try.func184 (round_number_up.calls a0_0 a0_1 a0_2 a0_3 a0_4 a1 ((Go.bits .and .u64 x137001_4 1) == 1) x9_4 x10_4 t148 _ A38.out) (h := ?_); rintro w43 hb; replace BK134 := zkb BK134 hb; replace BK136 := zkb BK136 hb; replace HB := zkB HB hb; (try clear hb)))
   (try simp only [Act.put, List.setIfInBounds_toArray, List.set_cons_zero, List.set_cons_succ])
   go_cut [13] (fun v13 wc => ∃ (kq : Nat) (x13_38 : Int), v13 = .int .u64 x13_38 ∧ Aside0 (round_number_float.j1 kq a1 t135 ji4 x9_4 x10_4 x13_38 a0_0 a0_1 a0_2 a0_3 a0_4 = some (r1, r2)) ∧ Aside0 (kq ≤ kj4) ∧ Aside0 (wc.heap[gb134]? = some (.cells #[.bool a0_0, .int .u64 a0_1, .int .u64 a0_2, .int .i64 a0_3, .bool a0_4] 151 (0, 0))) ∧ Aside0 (wc.heap[gb136]? = some (.cells #[.int .u64 x137000_4, .int .u64 x137001_4] 109 (0, 0))) ∧ Aside0 (Below w.heap.size w wc))
   case first =>
    have H := HC39.out
    clear HC39
    by_cases c44 : t148 = true
    ·subst c44
     have H1 : (round_number_float.j1 kj4 a1 t135 ji4 x9_4 x10_4 (IntKind.u64.wrap (x137001_4 + 1)) a0_0 a0_1 a0_2 a0_3 a0_4) = some (r1, r2) := by rw [if_pos rfl] at H; exact H
     clear H
     have H := H1
     clear H1
     have H' := Aside0.mk H
     clear H
     go_wp2
     go_meet
     case rel => exact ⟨_, (IntKind.u64.wrap (x137001_4 + 1)), (by first | rfl | (simp; done) | (simp [*]; done)), H', ⟨by have := HJ4.out; first | omega | exact Nat.le_refl _⟩, ⟨(zkq BK134)⟩, ⟨(zkq BK136)⟩, ⟨zaB⟩⟩
    ·replace c44 := Bool.eq_false_iff.mpr c44
     subst c44
     have H1 : (round_number_float.j1 kj4 a1 t135 ji4 x9_4 x10_4 x137001_4 a0_0 a0_1 a0_2 a0_3 a0_4) = some (r1, r2) := by rw [if_neg (show ¬ (false = true) by decide)] at H; exact H
     clear H
     have H := H1
     clear H1
     have H' := Aside0.mk H
     clear H
     go_wp2
     go_meet
     case rel => exact ⟨_, (x137001_4), (by first | rfl | (simp; done) | (simp [*]; done)), H', ⟨by have := HJ4.out; first | omega | exact Nat.le_refl _⟩, ⟨(zkq BK134)⟩, ⟨(zkq BK136)⟩, ⟨zaB⟩⟩
   case rest =>
    clear HC39
    try clear c1
    try clear c2
    try clear p2
    try clear c3
    try clear c4
    try clear p6
    try clear c10
    try clear c14
    try clear c15
    try clear c16
    try clear c16b0
    try clear c18
    try clear c20
    try clear c27
    try clear c34
    try clear c40
    try clear c44
    try clear hcz15_0
    try clear hcz15_1
    try clear hcz15_2
    try clear hcz15_3
    try clear hcz15_4
    try clear hcz21_0
    try clear hcz21_1
    try clear hcz21_2
    try clear hcz21_3
    try clear hcz21_4
    try clear hcz23_0
    try clear hcz23_1
    try clear hcz25_0
    try clear hcz25_1
    try clear hcz28_0
    try clear hcz28_1
    try clear hcz28_2
    try clear hcz28_3
    try clear hcz28_4
    try clear hcz30_0
    try clear hcz30_1
    try clear hcz32_0
    try clear hcz32_1
    try clear hcz35_0
    try clear hcz35_1
    try clear hcz37_0
    try clear hcz37_1
    try clear hcz41_0
    try clear hcz41_1
    try clear hcz42_0
    try clear hcz42_1
    try clear hcz42_2
    try clear hcz42_3
    try clear hcz42_4
    try clear hcz7_0
    try clear hcz7_1
    try clear hcz7_2
    try clear hcz7_3
    try clear hcz7_4
    try clear hcz9_0
    try clear hcz9_1
    try clear hcz9_2
    try clear hcz9_3
    try clear hcz9_4
    try clear hfz15_0
    try clear hfz15_1
    try clear hfz15_2
    try clear hfz15_3
    try clear hfz15_4
    try clear hfz21_0
    try clear hfz21_1
    try clear hfz21_2
    try clear hfz21_3
    try clear hfz21_4
    try clear hfz23_0
    try clear hfz23_1
    try clear hfz25_0
    try clear hfz25_1
    try clear hfz28_0
    try clear hfz28_1
    try clear hfz28_2
    try clear hfz28_3
    try clear hfz28_4
    try clear hfz30_0
    try clear hfz30_1
    try clear hfz32_0
    try clear hfz32_1
    try clear hfz35_0
    try clear hfz35_1
    try clear hfz37_0
    try clear hfz37_1
    try clear hfz41_0
    try clear hfz41_1
    try clear hfz42_0
    try clear hfz42_1
    try clear hfz42_2
    try clear hfz42_3
    try clear hfz42_4
    try clear hfz7_0
    try clear hfz7_1
    try clear hfz7_2
    try clear hfz7_3
    try clear hfz7_4
    try clear hfz9_0
    try clear hfz9_1
    try clear hfz9_2
    try clear hfz9_3
    try clear hfz9_4
    try clear p2
    try clear p6
    obtain ⟨kq, x13_38, rfl, HA, HJ38, BK134, BK136, HB⟩ := hcut
    cases kq with
    | zero => exact absurd HA.out (by simp [round_number_float.j1])
    | succ kj38 =>
     have H := HA.out
     clear HA
     simp only [round_number_float.j1] at H
     have HC45 := Aside0.mk H
     clear H
     go_upto_if 75 with (fail)
     go_cut [7, 13] (fun v7 v13 wc => ∃ (kq : Nat) (x7_44 : Int) (x13_44 : Int), v7 = .int .i64 x7_44 ∧ v13 = .int .u64 x13_44 ∧ Aside0 (round_number_float.j2 kq a1 t135 x7_44 x9_4 x10_4 x13_44 a0_0 a0_1 a0_2 a0_3 a0_4 = some (r1, r2)) ∧ Aside0 (kq ≤ kj38) ∧ Aside0 (wc.heap[gb134]? = some (.cells #[.bool a0_0, .int .u64 a0_1, .int .u64 a0_2, .int .i64 a0_3, .bool a0_4] 151 (0, 0))) ∧ Aside0 (wc.heap[gb136]? = some (.cells #[.int .u64 x137000_4, .int .u64 x137001_4] 109 (0, 0))) ∧ Aside0 (Below w.heap.size w wc))
     case first =>
      have H := HC45.out
      clear HC45
      by_cases c46 : x13_38 = 9007199254740992
      ·rw [if_pos c46] at H
       have c46b0 : (x13_38 == 9007199254740992) = true := beq_iff_eq.mpr c46
       have c46b1 : (x13_38 != 9007199254740992) = false := bne_eq_false_iff_eq.mpr c46
       clear c46
       (first | rw [c46b0] | (simp only [i64_w, i32_w]; rw [c46b0]) | skip)
       have H' := Aside0.mk H
       clear H
       go_wp2
       go_meet
       case rel => exact ⟨_, (wrap64 (ji4 + 1)), (x13_38 / 2), (by first | rfl | (simp; done) | (simp only [← hji4] <;> (first | rfl | simp)) | (simp [*]; done)), (by first | rfl | (simp; done) | (simp [*]; done)), H', ⟨by have := HJ4.out; have := HJ38.out; first | omega | exact Nat.le_refl _⟩, ⟨(zkq BK134)⟩, ⟨(zkq BK136)⟩, ⟨zaB⟩⟩
      ·rw [if_neg c46] at H
       have c46b0 : (x13_38 == 9007199254740992) = false := beq_eq_false_iff_ne.mpr c46
       have c46b1 : (x13_38 != 9007199254740992) = true := bne_iff_ne.mpr c46
       (first | rw [c46b0] | (simp only [i64_w, i32_w]; rw [c46b0]) | skip)
       have H' := Aside0.mk H
       clear H
       go_wp2
       go_meet
       case rel => exact ⟨_, (ji4), (x13_38), (by first | rfl | (simp; done) | (simp only [← hji4] <;> (first | rfl | simp)) | (simp [*]; done)), (by first | rfl | (simp; done) | (simp [*]; done)), H', ⟨by have := HJ4.out; have := HJ38.out; first | omega | exact Nat.le_refl _⟩, ⟨(zkq BK134)⟩, ⟨(zkq BK136)⟩, ⟨zaB⟩⟩
     case rest =>
      clear HC45
      try clear c1
      try clear c2
      try clear p2
      try clear c3
      try clear c4
      try clear p6
      try clear c10
      try clear c14
      try clear c15
      try clear c16
      try clear c16b0
      try clear c18
      try clear c20
      try clear c27
      try clear c34
      try clear c40
      try clear c44
      try clear c46
      try clear c46b0
      try clear c46b1
      try clear hcz15_0
      try clear hcz15_1
      try clear hcz15_2
      try clear hcz15_3
      try clear hcz15_4
      try clear hcz21_0
      try clear hcz21_1
      try clear hcz21_2
      try clear hcz21_3
      try clear hcz21_4
      try clear hcz23_0
      try clear hcz23_1
      try clear hcz25_0
      try clear hcz25_1
      try clear hcz28_0
      try clear hcz28_1
      try clear hcz28_2
      try clear hcz28_3
      try clear hcz28_4
      try clear hcz30_0
      try clear hcz30_1
      try clear hcz32_0
      try clear hcz32_1
      try clear hcz35_0
      try clear hcz35_1
      try clear hcz37_0
      try clear hcz37_1
      try clear hcz41_0
      try clear hcz41_1
      try clear hcz42_0
      try clear hcz42_1
      try clear hcz42_2
      try clear hcz42_3
      try clear hcz42_4
      try clear hcz7_0
      try clear hcz7_1
      try clear hcz7_2
      try clear hcz7_3
      try clear hcz7_4
      try clear hcz9_0
      try clear hcz9_1
      try clear hcz9_2
      try clear hcz9_3
      try clear hcz9_4
      try clear hfz15_0
      try clear hfz15_1
      try clear hfz15_2
      try clear hfz15_3
      try clear hfz15_4
      try clear hfz21_0
      try clear hfz21_1
      try clear hfz21_2
      try clear hfz21_3
      try clear hfz21_4
      try clear hfz23_0
      try clear hfz23_1
      try clear hfz25_0
      try clear hfz25_1
      try clear hfz28_0
      try clear hfz28_1
      try clear hfz28_2
      try clear hfz28_3
      try clear hfz28_4
      try clear hfz30_0
      try clear hfz30_1
      try clear hfz32_0
      try clear hfz32_1
      try clear hfz35_0
      try clear hfz35_1
      try clear hfz37_0
      try clear hfz37_1
      try clear hfz41_0
      try clear hfz41_1
      try clear hfz42_0
      try clear hfz42_1
      try clear hfz42_2
      try clear hfz42_3
      try clear hfz42_4
      try clear hfz7_0
      try clear hfz7_1
      try clear hfz7_2
      try clear hfz7_3
      try clear hfz7_4
      try clear hfz9_0
      try clear hfz9_1
      try clear hfz9_2
      try clear hfz9_3
      try clear hfz9_4
      try clear p2
      try clear p6
      obtain ⟨kq, x7_44, x13_44, rfl, rfl, HA, HJ44, BK134, BK136, HB⟩ := hcut
      cases kq with
      | zero => exact absurd HA.out (by simp [round_number_float.j2])
      | succ kj44 =>
       have H := HA.out
       clear HA
       simp only [round_number_float.j2] at H
       by_cases c47 : x7_44 > 971
       ·rw [if_pos c47] at H
        have c47b0 : decide (971 < x7_44) = true := decide_eq_true c47
        clear c47
        obtain ⟨⟨t149, t150⟩, A48, H⟩ := zbs H
        try dsimp only at H
        simp only [Option.some.injEq, Prod.mk.injEq] at H
        obtain ⟨rfl, rfl⟩ := H
        have hnb49 := NB134_136.out
        have hnc49 := NB136_134.out
        have hcz50_0 := zc0 BK134
        have hcz50_1 := zc1 BK134
        have hcz50_2 := zc2 BK134
        have hcz50_3 := zc3 BK134
        have hcz50_4 := zc4 BK134
        have hfz50_0 := blk_frozen BK134.out 0
        have hfz50_1 := blk_frozen BK134.out 1
        have hfz50_2 := blk_frozen BK134.out 2
        have hfz50_3 := blk_frozen BK134.out 3
        have hfz50_4 := blk_frozen BK134.out 4
        go_wp2_with (first | ((with_reducible refine gate_callee (f := 185) rfl ?_); refine zgL 84 Try.func185 (round_number_over.calls kj44 a0_0 a0_1 a0_2 a0_3 a0_4 a1 t149 t150 _ A48.out) (h := ?_); rintro w51 hb; replace BK134 := zkb BK134 hb; replace BK136 := zkb BK136 hb; replace HB := zkB HB hb; (try clear hb)))
        go_ret2
        exact ⟨by first | rfl | (simp [errW_none, errW_some] <;> rfl) | (simp only [← hji4]; first | rfl | (simp [errW_none, errW_some] <;> rfl)) | (simp [*, errW_none, errW_some] <;> rfl), zaB⟩
       ·rw [if_neg c47] at H
        have c47b0 : decide (971 < x7_44) = false := decide_eq_false c47
        clear c47
        have HC52 := Aside0.mk H
        clear H
        go_upto_region 19 with (fail)
        go_cut [90] (fun v90 wc => ∃ (kq : Nat) (x90_51 : Bool), v90 = .bool x90_51 ∧ Aside0 (round_number_float.j3 kq t135 x7_44 x13_44 0 x90_51 a0_0 a0_1 a0_2 a0_3 a0_4 = some (r1, r2)) ∧ Aside0 (kq ≤ kj44) ∧ Aside0 (wc.heap[gb134]? = some (.cells #[.bool a0_0, .int .u64 a0_1, .int .u64 a0_2, .int .i64 a0_3, .bool a0_4] 151 (0, 0))) ∧ Aside0 (wc.heap[gb136]? = some (.cells #[.int .u64 x137000_4, .int .u64 x137001_4] 109 (0, 0))) ∧ Aside0 (Below w.heap.size w wc))
        case first =>
         have H := HC52.out
         clear HC52
         by_cases c53 : x9_4 = true
         ·subst c53
          have H1 : (round_number_float.j3 kj44 t135 x7_44 x13_44 0 true a0_0 a0_1 a0_2 a0_3 a0_4) = some (r1, r2) := by rw [if_pos rfl] at H; exact H
          clear H
          have H := H1
          clear H1
          have H' := Aside0.mk H
          clear H
          go_wp2
          go_meet
          case rel => exact ⟨_, (true), (by first | rfl | (simp; done) | (simp [*]; done)), H', ⟨by have := HJ4.out; have := HJ38.out; have := HJ44.out; first | omega | exact Nat.le_refl _⟩, ⟨(zkq BK134)⟩, ⟨(zkq BK136)⟩, ⟨zaB⟩⟩
         ·replace c53 := Bool.eq_false_iff.mpr c53
          subst c53
          have H1 : (round_number_float.j3 kj44 t135 x7_44 x13_44 0 x10_4 a0_0 a0_1 a0_2 a0_3 a0_4) = some (r1, r2) := by rw [if_neg (show ¬ (false = true) by decide)] at H; exact H
          clear H
          have H := H1
          clear H1
          have H' := Aside0.mk H
          clear H
          go_wp2
          go_meet
          case rel => exact ⟨_, (x10_4), (by first | rfl | (simp; done) | (simp [*]; done)), H', ⟨by have := HJ4.out; have := HJ38.out; have := HJ44.out; first | omega | exact Nat.le_refl _⟩, ⟨(zkq BK134)⟩, ⟨(zkq BK136)⟩, ⟨zaB⟩⟩
        case rest =>
         clear HC52
         try clear c1
         try clear c2
         try clear p2
         try clear c3
         try clear c4
         try clear c5
         try clear p6
         try clear c10
         try clear c14
         try clear c15
         try clear c16
         try clear c16b0
         try clear c18
         try clear c20
         try clear c27
         try clear c34
         try clear c40
         try clear c44
         try clear c46
         try clear c46b0
         try clear c46b1
         try clear c47
         try clear c47b0
         try clear c49
         try clear c53
         try clear hcz15_0
         try clear hcz15_1
         try clear hcz15_2
         try clear hcz15_3
         try clear hcz15_4
         try clear hcz21_0
         try clear hcz21_1
         try clear hcz21_2
         try clear hcz21_3
         try clear hcz21_4
         try clear hcz23_0
         try clear hcz23_1
         try clear hcz25_0
         try clear hcz25_1
         try clear hcz28_0
         try clear hcz28_1
         try clear hcz28_2
         try clear hcz28_3
         try clear hcz28_4
         try clear hcz30_0
         try clear hcz30_1
         try clear hcz32_0
         try clear hcz32_1
         try clear hcz35_0
         try clear hcz35_1
         try clear hcz37_0
         try clear hcz37_1
         try clear hcz41_0
         try clear hcz41_1
         try clear hcz42_0
         try clear hcz42_1
         try clear hcz42_2
         try clear hcz42_3
         try clear hcz42_4
         try clear hcz50_0
         try clear hcz50_1
         try clear hcz50_2
         try clear hcz50_3
         try clear hcz50_4
         try clear hcz7_0
         try clear hcz7_1
         try clear hcz7_2
         try clear hcz7_3
         try clear hcz7_4
         try clear hcz9_0
         try clear hcz9_1
         try clear hcz9_2
         try clear hcz9_3
         try clear hcz9_4
         try clear hfz15_0
         try clear hfz15_1
         try clear hfz15_2
         try clear hfz15_3
         try clear hfz15_4
         try clear hfz21_0
         try clear hfz21_1
         try clear hfz21_2
         try clear hfz21_3
         try clear hfz21_4
         try clear hfz23_0
         try clear hfz23_1
         try clear hfz25_0
         try clear hfz25_1
         try clear hfz28_0
         try clear hfz28_1
         try clear hfz28_2
         try clear hfz28_3
         try clear hfz28_4
         try clear hfz30_0
         try clear hfz30_1
         try clear hfz32_0
         try clear hfz32_1
         try clear hfz35_0
         try clear hfz35_1
         try clear hfz37_0
         try clear hfz37_1
         try clear hfz41_0
         try clear hfz41_1
         try clear hfz42_0
         try clear hfz42_1
         try clear hfz42_2
         try clear hfz42_3
         try clear hfz42_4
         try clear hfz50_0
         try clear hfz50_1
         try clear hfz50_2
         try clear hfz50_3
         try clear hfz50_4
         try clear hfz7_0
         try clear hfz7_1
         try clear hfz7_2
         try clear hfz7_3
         try clear hfz7_4
         try clear hfz9_0
         try clear hfz9_1
         try clear hfz9_2
         try clear hfz9_3
         try clear hfz9_4
         try clear p2
         try clear p6
         obtain ⟨kq, x90_51, rfl, HA, HJ51, BK134, BK136, HB⟩ := hcut
         cases kq with
         | zero => exact absurd HA.out (by simp [round_number_float.j3])
         | succ kj51 =>
          have H := HA.out
          clear HA
          simp only [round_number_float.j3] at H
          by_cases c54 : x90_51 = true
          ·subst c54
           have H1 : (if (wrap64 (t135 + a0_3)) ≤ (-1022) then (if (x13_44 / 4503599627370496) = 1 then ((pattern_Make.f kj51 a0_0 (wrap64 ((wrap64 (x7_44 - (-1074))) + 1)) (Go.bits .and .u64 x13_44 4503599627370495)).bind fun bt151 => (some (bt151.1, Go.bits .or .u8 1 2))) else ((pattern_Make.f kj51 a0_0 0 (Go.bits .and .u64 x13_44 4503599627370495)).bind fun bt153 => (some (bt153.1, Go.bits .or .u8 1 2)))) else (if (x13_44 / 4503599627370496) = 1 then ((pattern_Make.f kj51 a0_0 (wrap64 ((wrap64 (x7_44 - (-1074))) + 1)) (Go.bits .and .u64 x13_44 4503599627370495)).bind fun bt155 => (some (bt155.1, 1))) else ((pattern_Make.f kj51 a0_0 0 (Go.bits .and .u64 x13_44 4503599627370495)).bind fun bt157 => (some (bt157.1, 1))))) = some (r1, r2) := by rw [if_pos rfl] at H; exact H
           clear H
           have H := H1
           clear H1
           by_cases c55 : (wrap64 (t135 + a0_3)) ≤ (-1022)
           ·rw [if_pos c55] at H
            have c55b0 : decide ((wrap64 (t135 + a0_3)) ≤ (-1022)) = true := decide_eq_true c55
            clear c55
            by_cases c56 : (x13_44 / 4503599627370496) = 1
            ·rw [if_pos c56] at H
             have c56b0 : ((x13_44 / 4503599627370496) == 1) = true := beq_iff_eq.mpr c56
             have c56b1 : ((x13_44 / 4503599627370496) != 1) = false := bne_eq_false_iff_eq.mpr c56
             clear c56
             obtain ⟨⟨t151, t152⟩, A57, H⟩ := zbs H
             try dsimp only at H
             simp only [Option.some.injEq, Prod.mk.injEq] at H
             obtain ⟨rfl, rfl⟩ := H
             have hnb58 := NB134_136.out
             have hnc58 := NB136_134.out
             have hcz59_0 := zc0 BK134
             have hcz59_1 := zc1 BK134
             have hcz59_2 := zc2 BK134
             have hcz59_3 := zc3 BK134
             have hcz59_4 := zc4 BK134
             have hfz59_0 := blk_frozen BK134.out 0
             have hfz59_1 := blk_frozen BK134.out 1
             have hfz59_2 := blk_frozen BK134.out 2
             have hfz59_3 := blk_frozen BK134.out 3
             have hfz59_4 := blk_frozen BK134.out 4
             go_wp2_with (first | ((with_reducible refine gate_callee (f := 150) rfl ?_); refine zgL 110 Try.func150 (pattern_Make.calls kj51 a0_0 (wrap64 ((wrap64 (x7_44 - (-1074))) + 1)) (Go.bits .and .u64 x13_44 4503599627370495) t151 t152 _ A57.out) (h := ?_); rintro w' ⟨nd, rfl⟩))
             go_ret2
             exact ⟨by first | rfl | (simp [errW_none, errW_some] <;> rfl) | (simp only [← hji4]; first | rfl | (simp [errW_none, errW_some] <;> rfl)) | (simp [*, errW_none, errW_some] <;> rfl), zaB⟩
            ·rw [if_neg c56] at H
             have c56b0 : ((x13_44 / 4503599627370496) == 1) = false := beq_eq_false_iff_ne.mpr c56
             have c56b1 : ((x13_44 / 4503599627370496) != 1) = true := bne_iff_ne.mpr c56
             obtain ⟨⟨t153, t154⟩, A60, H⟩ := zbs H
             try dsimp only at H
             simp only [Option.some.injEq, Prod.mk.injEq] at H
             obtain ⟨rfl, rfl⟩ := H
             have hnb61 := NB134_136.out
             have hnc61 := NB136_134.out
             have hcz62_0 := zc0 BK134
             have hcz62_1 := zc1 BK134
             have hcz62_2 := zc2 BK134
             have hcz62_3 := zc3 BK134
             have hcz62_4 := zc4 BK134
             have hfz62_0 := blk_frozen BK134.out 0
             have hfz62_1 := blk_frozen BK134.out 1
             have hfz62_2 := blk_frozen BK134.out 2
             have hfz62_3 := blk_frozen BK134.out 3
             have hfz62_4 := blk_frozen BK134.out 4
             go_wp2_with (first | ((with_reducible refine gate_callee (f := 150) rfl ?_); refine zgL 110 Try.func150 (pattern_Make.calls kj51 a0_0 0 (Go.bits .and .u64 x13_44 4503599627370495) t153 t154 _ A60.out) (h := ?_); rintro w' ⟨nd, rfl⟩))
             go_ret2
             exact ⟨by first | rfl | (simp [errW_none, errW_some] <;> rfl) | (simp only [← hji4]; first | rfl | (simp [errW_none, errW_some] <;> rfl)) | (simp [*, errW_none, errW_some] <;> rfl), zaB⟩
           ·rw [if_neg c55] at H
            have c55b0 : decide ((wrap64 (t135 + a0_3)) ≤ (-1022)) = false := decide_eq_false c55
            clear c55
            by_cases c63 : (x13_44 / 4503599627370496) = 1
            ·rw [if_pos c63] at H
             have c63b0 : ((x13_44 / 4503599627370496) == 1) = true := beq_iff_eq.mpr c63
             have c63b1 : ((x13_44 / 4503599627370496) != 1) = false := bne_eq_false_iff_eq.mpr c63
             clear c63
             obtain ⟨⟨t155, t156⟩, A64, H⟩ := zbs H
             try dsimp only at H
             simp only [Option.some.injEq, Prod.mk.injEq] at H
             obtain ⟨rfl, rfl⟩ := H
             have hnb65 := NB134_136.out
             have hnc65 := NB136_134.out
             have hcz66_0 := zc0 BK134
             have hcz66_1 := zc1 BK134
             have hcz66_2 := zc2 BK134
             have hcz66_3 := zc3 BK134
             have hcz66_4 := zc4 BK134
             have hfz66_0 := blk_frozen BK134.out 0
             have hfz66_1 := blk_frozen BK134.out 1
             have hfz66_2 := blk_frozen BK134.out 2
             have hfz66_3 := blk_frozen BK134.out 3
             have hfz66_4 := blk_frozen BK134.out 4
             go_wp2_with (first | ((with_reducible refine gate_callee (f := 150) rfl ?_); refine zgL 110 Try.func150 (pattern_Make.calls kj51 a0_0 (wrap64 ((wrap64 (x7_44 - (-1074))) + 1)) (Go.bits .and .u64 x13_44 4503599627370495) t155 t156 _ A64.out) (h := ?_); rintro w' ⟨nd, rfl⟩))
             go_ret2
             exact ⟨by first | rfl | (simp [errW_none, errW_some] <;> rfl) | (simp only [← hji4]; first | rfl | (simp [errW_none, errW_some] <;> rfl)) | (simp [*, errW_none, errW_some] <;> rfl), zaB⟩
            ·rw [if_neg c63] at H
             have c63b0 : ((x13_44 / 4503599627370496) == 1) = false := beq_eq_false_iff_ne.mpr c63
             have c63b1 : ((x13_44 / 4503599627370496) != 1) = true := bne_iff_ne.mpr c63
             obtain ⟨⟨t157, t158⟩, A67, H⟩ := zbs H
             try dsimp only at H
             simp only [Option.some.injEq, Prod.mk.injEq] at H
             obtain ⟨rfl, rfl⟩ := H
             have hnb68 := NB134_136.out
             have hnc68 := NB136_134.out
             have hcz69_0 := zc0 BK134
             have hcz69_1 := zc1 BK134
             have hcz69_2 := zc2 BK134
             have hcz69_3 := zc3 BK134
             have hcz69_4 := zc4 BK134
             have hfz69_0 := blk_frozen BK134.out 0
             have hfz69_1 := blk_frozen BK134.out 1
             have hfz69_2 := blk_frozen BK134.out 2
             have hfz69_3 := blk_frozen BK134.out 3
             have hfz69_4 := blk_frozen BK134.out 4
             go_wp2_with (first | ((with_reducible refine gate_callee (f := 150) rfl ?_); refine zgL 110 Try.func150 (pattern_Make.calls kj51 a0_0 0 (Go.bits .and .u64 x13_44 4503599627370495) t157 t158 _ A67.out) (h := ?_); rintro w' ⟨nd, rfl⟩))
             go_ret2
             exact ⟨by first | rfl | (simp [errW_none, errW_some] <;> rfl) | (simp only [← hji4]; first | rfl | (simp [errW_none, errW_some] <;> rfl)) | (simp [*, errW_none, errW_some] <;> rfl), zaB⟩
          ·replace c54 := Bool.eq_false_iff.mpr c54
           subst c54
           have H1 : (if (x13_44 / 4503599627370496) = 1 then ((pattern_Make.f kj51 a0_0 (wrap64 ((wrap64 (x7_44 - (-1074))) + 1)) (Go.bits .and .u64 x13_44 4503599627370495)).bind fun bt159 => (some (bt159.1, 0))) else ((pattern_Make.f kj51 a0_0 0 (Go.bits .and .u64 x13_44 4503599627370495)).bind fun bt161 => (some (bt161.1, 0)))) = some (r1, r2) := by rw [if_neg (show ¬ (false = true) by decide)] at H; exact H
           clear H
           have H := H1
           clear H1
           by_cases c70 : (x13_44 / 4503599627370496) = 1
           ·rw [if_pos c70] at H
            have c70b0 : ((x13_44 / 4503599627370496) == 1) = true := beq_iff_eq.mpr c70
            have c70b1 : ((x13_44 / 4503599627370496) != 1) = false := bne_eq_false_iff_eq.mpr c70
            clear c70
            obtain ⟨⟨t159, t160⟩, A71, H⟩ := zbs H
            try dsimp only at H
            simp only [Option.some.injEq, Prod.mk.injEq] at H
            obtain ⟨rfl, rfl⟩ := H
            have hnb72 := NB134_136.out
            have hnc72 := NB136_134.out
            have hcz73_0 := zc0 BK134
            have hcz73_1 := zc1 BK134
            have hcz73_2 := zc2 BK134
            have hcz73_3 := zc3 BK134
            have hcz73_4 := zc4 BK134
            have hfz73_0 := blk_frozen BK134.out 0
            have hfz73_1 := blk_frozen BK134.out 1
            have hfz73_2 := blk_frozen BK134.out 2
            have hfz73_3 := blk_frozen BK134.out 3
            have hfz73_4 := blk_frozen BK134.out 4
            go_wp2_with (first | ((with_reducible refine gate_callee (f := 150) rfl ?_); refine zgL 110 Try.func150 (pattern_Make.calls kj51 a0_0 (wrap64 ((wrap64 (x7_44 - (-1074))) + 1)) (Go.bits .and .u64 x13_44 4503599627370495) t159 t160 _ A71.out) (h := ?_); rintro w' ⟨nd, rfl⟩))
            go_ret2
            exact ⟨by first | rfl | (simp [errW_none, errW_some] <;> rfl) | (simp only [← hji4]; first | rfl | (simp [errW_none, errW_some] <;> rfl)) | (simp [*, errW_none, errW_some] <;> rfl), zaB⟩
           ·rw [if_neg c70] at H
            have c70b0 : ((x13_44 / 4503599627370496) == 1) = false := beq_eq_false_iff_ne.mpr c70
            have c70b1 : ((x13_44 / 4503599627370496) != 1) = true := bne_iff_ne.mpr c70
            obtain ⟨⟨t161, t162⟩, A74, H⟩ := zbs H
            try dsimp only at H
            simp only [Option.some.injEq, Prod.mk.injEq] at H
            obtain ⟨rfl, rfl⟩ := H
            have hnb75 := NB134_136.out
            have hnc75 := NB136_134.out
            have hcz76_0 := zc0 BK134
            have hcz76_1 := zc1 BK134
            have hcz76_2 := zc2 BK134
            have hcz76_3 := zc3 BK134
            have hcz76_4 := zc4 BK134
            have hfz76_0 := blk_frozen BK134.out 0
            have hfz76_1 := blk_frozen BK134.out 1
            have hfz76_2 := blk_frozen BK134.out 2
            have hfz76_3 := blk_frozen BK134.out 3
            have hfz76_4 := blk_frozen BK134.out 4
            go_wp2_with (first | ((with_reducible refine gate_callee (f := 150) rfl ?_); refine zgL 110 Try.func150 (pattern_Make.calls kj51 a0_0 0 (Go.bits .and .u64 x13_44 4503599627370495) t161 t162 _ A74.out) (h := ?_); rintro w' ⟨nd, rfl⟩))
            go_ret2
            exact ⟨by first | rfl | (simp [errW_none, errW_some] <;> rfl) | (simp only [← hji4]; first | rfl | (simp [errW_none, errW_some] <;> rfl)) | (simp [*, errW_none, errW_some] <;> rfl), zaB⟩
end Go.Proofs.Ytmadjhmecfbcmaa.F
end
section
namespace Go.Proofs.Ytmadjhmecfbcmaa.F
open Go.RowKit Go.Proofs.YtmadjhmecfbcmaaW.PrintWords Go.Proofs.YtmadjhmecfbcmaaW.PrintLast Go.Proofs.YtmadjhmecfbcmaaW.PrintMore
attribute [local go_sem] max2_int min2_int max_two min_two max_three min_three max_four min_four
set_option linter.unusedVariables false
set_option linter.unusedSimpArgs false
set_option maxHeartbeats 8000000 in
set_option maxRecDepth 100000 in
theorem round_Round.calls (k : Nat) (a0 : Bool) (a1_0 : Int) (a1_1 : Int) (a2 : Int) (a3 : Bool) (a4 : Int) (r1 : Int) (r2 : Int) (w : World) (h : round_Round.f k a0 a1_0 a1_1 a2 a3 a4 = some (r1, r2)) :
  Calls Try.prog 99 #[.bool a0, .agg #[.int .u64 a1_0, .int .u64 a1_1], .int .i64 a2, .bool a3, .int .u8 a4] w fun e w' => e = .returned (.tuple #[.int .u64 r1, .int .u8 r2]) ∧ Below w.heap.size w w' := by
 have hu109 := Try.underlying109
 have hu151 := Try.underlying151
 have HB := Aside0.mk (Below.refl w.heap.size w)
 have H : ((wide_U128_Len.f a1_0 a1_1).bind fun t164 => (if t164 = 0 then ((pattern_Make.f k a0 0 0).bind fun bt165 => (some (bt165.1, 0))) else (if a3 = true then ((round_number_float.f k a0 a1_0 a1_1 (mn (mx a2 (-5000)) 5000) (decide (t164 > 53)) a4).bind fun bt167 => (some (bt167.1, bt167.2))) else ((round_number_float.f k a0 a1_0 a1_1 (mn (mx a2 (-5000)) 5000) false a4).bind fun bt169 => (some (bt169.1, bt169.2)))))) = some (r1, r2) := h
 clear h
 obtain ⟨t164, A6, H⟩ := zbs H
 try dsimp only at H
 by_cases c7 : t164 = 0
 ·rw [if_pos c7] at H
  have c7b0 : (t164 == 0) = true := beq_iff_eq.mpr c7
  have c7b1 : (t164 != 0) = false := bne_eq_false_iff_eq.mpr c7
  clear c7
  obtain ⟨⟨t165, t166⟩, A8, H⟩ := zbs H
  try dsimp only at H
  simp only [Option.some.injEq, Prod.mk.injEq] at H
  obtain ⟨rfl, rfl⟩ := H
  go_enter Try.func99, Try.ntmps99
  go_wp2_with (first | ((with_reducible refine gate_dst (N := 6) rfl ?_); refine zbx 6 #[.int .u64 a1_0, .int .u64 a1_1] 109 (h := ?_); intro gb163 hg w9 hbox hb; have GW163 := zkZ hg (zaB (p := Below w.heap.size w _)); have GE163 := GW163; replace HB := Aside0.mk (below_step zaB hb); have BK163 := Aside0.mk (hbox); clear hb hbox hg; have hcz10_0 := zc0 BK163; have hcz10_1 := zc1 BK163; have hfz10_0 := blk_frozen BK163.out 0; have hfz10_1 := blk_frozen BK163.out 1) | ((with_reducible refine gate_callee (f := 103) rfl ?_); refine zgL 16 Try.func103 (wide_U128_Len.calls a1_0 a1_1 t164 _ A6.out) (h := ?_); rintro w11 hb; replace BK163 := zkb BK163 hb; replace HB := zkB HB hb; (try clear hb)) | ((with_reducible refine gate_callee (f := 150) rfl ?_); refine zgL 21 Try.func150 (pattern_Make.calls k a0 0 0 t165 t166 _ A8.out) (h := ?_); rintro w' ⟨nd, rfl⟩))
  go_ret2
  exact ⟨zaE, zaB⟩
 ·rw [if_neg c7] at H
  have c7b0 : (t164 == 0) = false := beq_eq_false_iff_ne.mpr c7
  have c7b1 : (t164 != 0) = true := bne_iff_ne.mpr c7
  obtain ⟨ji12, hji12⟩ : ∃ j_ : Int, (mx a2 (-5000)) = j_ := ⟨_, rfl⟩
  replace H : (if a3 = true then ((round_number_float.f k a0 a1_0 a1_1 (mn (ji12) 5000) (decide (t164 > 53)) a4).bind fun bt167 => (some (bt167.1, bt167.2))) else ((round_number_float.f k a0 a1_0 a1_1 (mn (ji12) 5000) false a4).bind fun bt169 => (some (bt169.1, bt169.2)))) = some (r1, r2) := by first | (rw [hji12] at H; exact H) | (simp only [hji12] at H ⊢; exact H)
  (try rw [hji12] at A6)
  have hji12_ : (if a2 < (-5000) then (-5000) else a2) = ji12 := hji12
  (try (have hji12n := hji12_; simp only [Int.ofNat_lt] at hji12n))
  obtain ⟨ji13, hji13⟩ : ∃ j_ : Int, (mn (ji12) 5000) = j_ := ⟨_, rfl⟩
  replace H : (if a3 = true then ((round_number_float.f k a0 a1_0 a1_1 (ji13) (decide (t164 > 53)) a4).bind fun bt167 => (some (bt167.1, bt167.2))) else ((round_number_float.f k a0 a1_0 a1_1 (ji13) false a4).bind fun bt169 => (some (bt169.1, bt169.2)))) = some (r1, r2) := by first | (rw [hji13] at H; exact H) | (simp only [hji13] at H ⊢; exact H)
  (try rw [hji13] at A6)
  have hji13_ : (if 5000 < (ji12) then 5000 else (ji12)) = ji13 := hji13
  (try (have hji13n := hji13_; simp only [Int.ofNat_lt] at hji13n))
  by_cases c14 : a3 = true
  ·subst c14
   have H1 : ((round_number_float.f k a0 a1_0 a1_1 (ji13) (decide (t164 > 53)) a4).bind fun bt167 => (some (bt167.1, bt167.2))) = some (r1, r2) := by rw [if_pos rfl] at H; exact H
   clear H
   have H := H1
   clear H1
   obtain ⟨⟨t167, t168⟩, A15, H⟩ := zbs H
   try dsimp only at H
   simp only [Option.some.injEq, Prod.mk.injEq] at H
   obtain ⟨rfl, rfl⟩ := H
   go_enter Try.func99, Try.ntmps99
   go_wp2_with (first | ((with_reducible refine gate_dst (N := 6) rfl ?_); refine zbx 6 #[.int .u64 a1_0, .int .u64 a1_1] 109 (h := ?_); intro gb163 hg w16 hbox hb; have GW163 := zkZ hg (zaB (p := Below w.heap.size w _)); have GE163 := GW163; replace HB := Aside0.mk (below_step zaB hb); have BK163 := Aside0.mk (hbox); clear hb hbox hg; have hcz17_0 := zc0 BK163; have hcz17_1 := zc1 BK163; have hfz17_0 := blk_frozen BK163.out 0; have hfz17_1 := blk_frozen BK163.out 1) | ((with_reducible refine gate_callee (f := 103) rfl ?_); refine zgL 16 Try.func103 (wide_U128_Len.calls a1_0 a1_1 t164 _ A6.out) (h := ?_); rintro w18 hb; replace BK163 := zkb BK163 hb; replace HB := zkB HB hb; (try clear hb); have hcz19_0 := zc0 BK163; have hcz19_1 := zc1 BK163; have hfz19_0 := blk_frozen BK163.out 0; have hfz19_1 := blk_frozen BK163.out 1) | ((with_reducible refine gate_callee (f := 159) rfl ?_); refine goesL_ (some 37) rfl rfl Try.func159 (by kernel_rfl) rfl #[.agg #[.bool a0, .int .u64 a1_0, .int .u64 a1_1, .int .i64 ji13, .bool (decide (t164 > 53))], .int .u8 a4] rfl (by (try simp only [List.map_toArray, List.map_cons, List.map_nil]); first | done | (simp only [hji13]; rfl) | rfl | (simp only [List.length_drop, List.length_take]; rfl)) ?_; (with_reducible refine (round_number_float.calls k a0 a1_0 a1_1 ji13 (decide (t164 > 53)) a4 t167 t168 _ A15.out).mono ?_); rintro e w20 ⟨rfl, hb⟩; refine ⟨_, rfl, ?_⟩; replace BK163 := zkb BK163 hb; replace HB := zkB HB hb; (try clear hb)))
   go_ret2
   exact ⟨by first | rfl | (simp [errW_none, errW_some] <;> rfl) | (simp only [← hji12, ← hji13]; first | rfl | (simp [errW_none, errW_some] <;> rfl)) | (simp [*, errW_none, errW_some] <;> rfl), zaB⟩
  ·replace c14 := Bool.eq_false_iff.mpr c14
   subst c14
   have H1 : ((round_number_float.f k a0 a1_0 a1_1 (ji13) false a4).bind fun bt169 => (some (bt169.1, bt169.2))) = some (r1, r2) := by rw [if_neg (show ¬ (false = true) by decide)] at H; exact H
   clear H
   have H := H1
   clear H1
   obtain ⟨⟨t169, t170⟩, A21, H⟩ := zbs H
   try dsimp only at H
   simp only [Option.some.injEq, Prod.mk.injEq] at H
   obtain ⟨rfl, rfl⟩ := H
   go_enter Try.func99, Try.ntmps99
   go_wp2_with (first | ((with_reducible refine gate_dst (N := 6) rfl ?_); refine zbx 6 #[.int .u64 a1_0, .int .u64 a1_1] 109 (h := ?_); intro gb163 hg w22 hbox hb; have GW163 := zkZ hg (zaB (p := Below w.heap.size w _)); have GE163 := GW163; replace HB := Aside0.mk (below_step zaB hb); have BK163 := Aside0.mk (hbox); clear hb hbox hg; have hcz23_0 := zc0 BK163; have hcz23_1 := zc1 BK163; have hfz23_0 := blk_frozen BK163.out 0; have hfz23_1 := blk_frozen BK163.out 1) | ((with_reducible refine gate_callee (f := 103) rfl ?_); refine zgL 16 Try.func103 (wide_U128_Len.calls a1_0 a1_1 t164 _ A6.out) (h := ?_); rintro w24 hb; replace BK163 := zkb BK163 hb; replace HB := zkB HB hb; (try clear hb); have hcz25_0 := zc0 BK163; have hcz25_1 := zc1 BK163; have hfz25_0 := blk_frozen BK163.out 0; have hfz25_1 := blk_frozen BK163.out 1) | ((with_reducible refine gate_callee (f := 159) rfl ?_); refine goesL_ (some 37) rfl rfl Try.func159 (by kernel_rfl) rfl #[.agg #[.bool a0, .int .u64 a1_0, .int .u64 a1_1, .int .i64 ji13, .bool false], .int .u8 a4] rfl (by (try simp only [List.map_toArray, List.map_cons, List.map_nil]); first | done | (simp only [hji13]; rfl) | rfl | (simp only [List.length_drop, List.length_take]; rfl)) ?_; (with_reducible refine (round_number_float.calls k a0 a1_0 a1_1 ji13 false a4 t169 t170 _ A21.out).mono ?_); rintro e w26 ⟨rfl, hb⟩; refine ⟨_, rfl, ?_⟩; replace BK163 := zkb BK163 hb; replace HB := zkB HB hb; (try clear hb)))
   go_ret2
   exact ⟨by first | rfl | (simp [errW_none, errW_some] <;> rfl) | (simp only [← hji12, ← hji13]; first | rfl | (simp [errW_none, errW_some] <;> rfl)) | (simp [*, errW_none, errW_some] <;> rfl), zaB⟩
end Go.Proofs.Ytmadjhmecfbcmaa.F
end
section
namespace Go.Proofs.Ytmadjhmecfbcmaa.F
open Go.RowKit Go.Proofs.YtmadjhmecfbcmaaW.PrintWords Go.Proofs.YtmadjhmecfbcmaaW.PrintLast Go.Proofs.YtmadjhmecfbcmaaW.PrintMore
attribute [local go_sem] max2_int min2_int max_two min_two max_three min_three max_four min_four
set_option linter.unusedVariables false
set_option linter.unusedSimpArgs false
theorem wide_U128_Add.law (x y c : Int) (hx : 0 ≤ x) (hy : 0 ≤ y) (hc0 : 0 ≤ c) (hc : c ≤ 1) (w : World) :
  (callFunc 182 #[.int .u64 x, .int .u64 y, .int .u64 c]).run Try.prog w = .ok (.value (.tuple #[.int .u64 ((x + y + c) % 18446744073709551616), .int .u64 ((x + y + c) / 18446744073709551616)])) w := by
 rw [run_callFunc_extern Try.func182 (by kernel_rfl) (by kernel_rfl) (by kernel_rfl) (e := add64Entry) (by kernel_rfl), run_add64 x y c hx hy hc0 hc]
 rfl
theorem wide_U128_Add.ext_ {P : Program} {ops : Array Oper} {Q : Exit → Act → World → Prop} {rest : List Oper} {oi : Oper} {a : Act} {w : World} (N : Option Tmp) (hd : oi.dst = N) (hg : oi.guard = none) {f : FuncId} {ars : Array Operand} {ts : Array TypeId} (args : Array Value)
  (hop : oi.op = .call { callee := .value (.func f), args := ars, argTypes := ts }) (hargs : ars.map a.eval = args) {v : Value} (hl : (callFunc f args).run P w = .ok (.value v) w)
  (h : wpList P ops Q rest (a.put N v) w) : wpList P ops Q (oi :: rest) a w := by
 refine wpList_plain hg fun K hK => ?_
 have hrun : (execOp a.eval oi).run P w = .ok (.value v) w := by
  unfold execOp
  simp [hop, resolve, Deferred.ofValue, invoke, Act.eval, hargs, hl]
 unfold Oper.wp
 rw [hrun]
 subst hd
 exact hK _ _ h
set_option maxHeartbeats 8000000 in
set_option maxRecDepth 100000 in
theorem wide_U128_Add.walk (a0_0 : Int) (a0_1 : Int) (a1_0 : Int) (a1_1 : Int) (t174 : Int) (t175 : Int) (t176 : Int) (t177 : Int) (L0 : ∀ w, (callFunc 182 #[.int .u64 a0_1, .int .u64 a1_1, .int .u64 0]).run Try.prog w = .ok (.value (.tuple #[.int .u64 t174, .int .u64 t175])) w) (L1 : ∀ w, (callFunc 182 #[.int .u64 a0_0, .int .u64 a1_0, .int .u64 t175]).run Try.prog w = .ok (.value (.tuple #[.int .u64 t176, .int .u64 t177])) w) (w : World) :
  Calls Try.prog 152 #[.agg #[.int .u64 a0_0, .int .u64 a0_1], .agg #[.int .u64 a1_0, .int .u64 a1_1]] w fun e w' => e = .returned (.tuple #[.agg #[.int .u64 t176, .int .u64 t174], .int .u64 t177]) ∧ Below w.heap.size w w' := by
 have hu := Try.underlying109
 have HB := Aside0.mk (Below.refl w.heap.size w)
 go_enter Try.func152, Try.ntmps152
 go_wp2_with (first | ((with_reducible refine gate_dst (N := 2) rfl ?_); refine zbx 2 #[.int .u64 a0_0, .int .u64 a0_1] 109 (h := ?_); intro gb171 hg w5 hbox hb; have GW171 := zkZ hg (zaB (p := Below w.heap.size w _)); have GE171 := GW171; replace HB := Aside0.mk (below_step zaB hb); have BK171 := Aside0.mk (hbox); clear hb hbox hg) | ((with_reducible refine gate_dst (N := 3) rfl ?_); refine zbx 3 #[.int .u64 a1_0, .int .u64 a1_1] 109 (h := ?_); intro gb172 hg w6 hbox hb; have GW172 := zkz HB hg; have GE172 := GW172; have NB171_172 := zkl BK171 hg; have NB172_171 := zkr BK171 hg; replace BK171 := zkb BK171 hb; replace HB := zkB HB hb; have BK172 := Aside0.mk (hbox); clear hb hbox hg) | ((with_reducible refine gate_dst (N := 4) rfl ?_); refine zbx 4 #[.int .u64 0, .int .u64 0] 109 (h := ?_); intro gb173 hg w7 hbox hb; have GW173 := zkz HB hg; have GE173 := GW173; have NB171_173 := zkl BK171 hg; have NB173_171 := zkr BK171 hg; have NB172_173 := zkl BK172 hg; have NB173_172 := zkr BK172 hg; replace BK171 := zkb BK171 hb; replace BK172 := zkb BK172 hb; replace HB := zkB HB hb; have BK173 := Aside0.mk (hbox); clear hb hbox hg; have hnb8 := NB171_172.out; have hnc8 := NB172_171.out; have hnb9 := NB171_173.out; have hnc9 := NB173_171.out; have hcz10_0 := zc0 BK171; have hcz10_1 := zc1 BK171; have hfz10_0 := blk_frozen BK171.out 0; have hfz10_1 := blk_frozen BK171.out 1; have hnb11 := NB172_173.out; have hnc11 := NB173_172.out; have hcz12_0 := zc0 BK172; have hcz12_1 := zc1 BK172; have hfz12_0 := blk_frozen BK172.out 0; have hfz12_1 := blk_frozen BK172.out 1) | ((with_reducible refine gate_callee (f := 182) rfl ?_); refine wide_U128_Add.ext_ (some 14) rfl rfl #[.int .u64 a0_1, .int .u64 a1_1, .int .u64 0] rfl (by (try simp only [List.map_toArray, List.map_cons, List.map_nil]); first | done | rfl | (simp only [List.length_drop, List.length_take]; rfl)) (L0 _) ?_) | ((with_reducible refine gate_callee (f := 182) rfl ?_); refine wide_U128_Add.ext_ (some 23) rfl rfl #[.int .u64 a0_0, .int .u64 a1_0, .int .u64 t175] rfl (by (try simp only [List.map_toArray, List.map_cons, List.map_nil]); first | done | rfl | (simp only [List.length_drop, List.length_take]; rfl)) (L1 _) ?_; have hcz13_0 := zc0 BK173; have hcz13_1 := zc1 BK173; have hfz13_0 := blk_frozen BK173.out 0; have hfz13_1 := blk_frozen BK173.out 1))
 refine bodyPost_ret (results_ct rfl _ _ gb173 109 #[.int .u64 t176, .int .u64 t174] (0, 0) _ rfl (blk_put (cs := #[.int .u64 t176, .int .u64 0]) (blk_put (zkq BK173) 0 _ rfl) 1 _ rfl) Try.underlying109 rfl (by kernel_rfl)) rfl ?_
 exact ⟨zaE, zaB⟩
theorem wide_U128_Add.calls (a0_0 : Int) (a0_1 : Int) (a1_0 : Int) (a1_1 : Int) (r1 : Int) (r2 : Int) (r3 : Int) (w : World) (h : wide_U128_Add.f a0_0 a0_1 a1_0 a1_1 = some (r1, r2, r3)) :
  Calls Try.prog 152 #[.agg #[.int .u64 a0_0, .int .u64 a0_1], .agg #[.int .u64 a1_0, .int .u64 a1_1]] w fun e w' => e = .returned (.tuple #[.agg #[.int .u64 r1, .int .u64 r2], .int .u64 r3]) ∧ Below w.heap.size w w' := by
 unfold wide_U128_Add.f at h
 split at h
 ·rename_i g
  obtain ⟨g1, g2, g3, g4, g5, g6⟩ := g
  simp only [Option.some.injEq, Prod.mk.injEq] at h
  obtain ⟨rfl, rfl, rfl⟩ := h
  have W := wide_U128_Add.walk a0_0 a0_1 a1_0 a1_1 _ _ _ _ (fun w => wide_U128_Add.law a0_1 a1_1 0 g2 g4 (by omega) (by omega) w) (fun w => wide_U128_Add.law a0_0 a1_0 _ g1 g3 (by omega) (by omega) w) w
  rw [Int.add_zero] at W
  exact W
 ·cases h
end Go.Proofs.Ytmadjhmecfbcmaa.F
end
section
namespace Go.Proofs.Ytmadjhmecfbcmaa.F
open Go.RowKit Go.Proofs.YtmadjhmecfbcmaaW.PrintWords Go.Proofs.YtmadjhmecfbcmaaW.PrintLast Go.Proofs.YtmadjhmecfbcmaaW.PrintMore
attribute [local go_sem] max2_int min2_int max_two min_two max_three min_three max_four min_four
set_option linter.unusedVariables false
set_option linter.unusedSimpArgs false
theorem wide_U128_Sub.law (x y b : Int) (hx : 0 ≤ x) (hy : 0 ≤ y) (hb0 : 0 ≤ b) (hb : b ≤ 1) (hx1 : x < 18446744073709551616) (hy1 : y < 18446744073709551616) (w : World) :
  (callFunc 183 #[.int .u64 x, .int .u64 y, .int .u64 b]).run Try.prog w = .ok (.value (.tuple #[.int .u64 ((x - y - b) % 18446744073709551616), .int .u64 (if x < y + b then 1 else 0)])) w := by
 obtain ⟨x, rfl⟩ := Int.eq_ofNat_of_zero_le hx
 obtain ⟨y, rfl⟩ := Int.eq_ofNat_of_zero_le hy
 obtain ⟨b, rfl⟩ := Int.eq_ofNat_of_zero_le hb0
 rw [run_callFunc_extern Try.func183 (by kernel_rfl) (by kernel_rfl) (by kernel_rfl) (e := sub64Entry) (by kernel_rfl), run_sub64 x y b (by omega)]
 have e1 : (((x + 18446744073709551616 - y - b) % 18446744073709551616 : Nat) : Int) = ((x : Int) - y - b) % 18446744073709551616 := by omega
 have e2 : ((if x < y + b then 1 else 0 : Nat) : Int) = (if (x : Int) < (y : Int) + (b : Int) then 1 else 0) := by split <;> split <;> omega
 rw [e1, e2]
 rfl
theorem wide_U128_Sub.ext_ {P : Program} {ops : Array Oper} {Q : Exit → Act → World → Prop} {rest : List Oper} {oi : Oper} {a : Act} {w : World} (N : Option Tmp) (hd : oi.dst = N) (hg : oi.guard = none) {f : FuncId} {ars : Array Operand} {ts : Array TypeId} (args : Array Value)
  (hop : oi.op = .call { callee := .value (.func f), args := ars, argTypes := ts }) (hargs : ars.map a.eval = args) {v : Value} (hl : (callFunc f args).run P w = .ok (.value v) w)
  (h : wpList P ops Q rest (a.put N v) w) : wpList P ops Q (oi :: rest) a w := by
 refine wpList_plain hg fun K hK => ?_
 have hrun : (execOp a.eval oi).run P w = .ok (.value v) w := by
  unfold execOp
  simp [hop, resolve, Deferred.ofValue, invoke, Act.eval, hargs, hl]
 unfold Oper.wp
 rw [hrun]
 subst hd
 exact hK _ _ h
set_option maxHeartbeats 8000000 in
set_option maxRecDepth 100000 in
theorem wide_U128_Sub.walk (a0_0 : Int) (a0_1 : Int) (a1_0 : Int) (a1_1 : Int) (t174 : Int) (t175 : Int) (t176 : Int) (t177 : Int) (L0 : ∀ w, (callFunc 183 #[.int .u64 a0_1, .int .u64 a1_1, .int .u64 0]).run Try.prog w = .ok (.value (.tuple #[.int .u64 t174, .int .u64 t175])) w) (L1 : ∀ w, (callFunc 183 #[.int .u64 a0_0, .int .u64 a1_0, .int .u64 t175]).run Try.prog w = .ok (.value (.tuple #[.int .u64 t176, .int .u64 t177])) w) (w : World) :
  Calls Try.prog 153 #[.agg #[.int .u64 a0_0, .int .u64 a0_1], .agg #[.int .u64 a1_0, .int .u64 a1_1]] w fun e w' => e = .returned (.tuple #[.agg #[.int .u64 t176, .int .u64 t174], .int .u64 t177]) ∧ Below w.heap.size w w' := by
 have hu := Try.underlying109
 have HB := Aside0.mk (Below.refl w.heap.size w)
 go_enter Try.func153, Try.ntmps153
 go_wp2_with (first | ((with_reducible refine gate_dst (N := 2) rfl ?_); refine zbx 2 #[.int .u64 a0_0, .int .u64 a0_1] 109 (h := ?_); intro gb171 hg w5 hbox hb; have GW171 := zkZ hg (zaB (p := Below w.heap.size w _)); have GE171 := GW171; replace HB := Aside0.mk (below_step zaB hb); have BK171 := Aside0.mk (hbox); clear hb hbox hg) | ((with_reducible refine gate_dst (N := 3) rfl ?_); refine zbx 3 #[.int .u64 a1_0, .int .u64 a1_1] 109 (h := ?_); intro gb172 hg w6 hbox hb; have GW172 := zkz HB hg; have GE172 := GW172; have NB171_172 := zkl BK171 hg; have NB172_171 := zkr BK171 hg; replace BK171 := zkb BK171 hb; replace HB := zkB HB hb; have BK172 := Aside0.mk (hbox); clear hb hbox hg) | ((with_reducible refine gate_dst (N := 4) rfl ?_); refine zbx 4 #[.int .u64 0, .int .u64 0] 109 (h := ?_); intro gb173 hg w7 hbox hb; have GW173 := zkz HB hg; have GE173 := GW173; have NB171_173 := zkl BK171 hg; have NB173_171 := zkr BK171 hg; have NB172_173 := zkl BK172 hg; have NB173_172 := zkr BK172 hg; replace BK171 := zkb BK171 hb; replace BK172 := zkb BK172 hb; replace HB := zkB HB hb; have BK173 := Aside0.mk (hbox); clear hb hbox hg; have hnb8 := NB171_172.out; have hnc8 := NB172_171.out; have hnb9 := NB171_173.out; have hnc9 := NB173_171.out; have hcz10_0 := zc0 BK171; have hcz10_1 := zc1 BK171; have hfz10_0 := blk_frozen BK171.out 0; have hfz10_1 := blk_frozen BK171.out 1; have hnb11 := NB172_173.out; have hnc11 := NB173_172.out; have hcz12_0 := zc0 BK172; have hcz12_1 := zc1 BK172; have hfz12_0 := blk_frozen BK172.out 0; have hfz12_1 := blk_frozen BK172.out 1) | ((with_reducible refine gate_callee (f := 183) rfl ?_); refine wide_U128_Sub.ext_ (some 14) rfl rfl #[.int .u64 a0_1, .int .u64 a1_1, .int .u64 0] rfl (by (try simp only [List.map_toArray, List.map_cons, List.map_nil]); first | done | rfl | (simp only [List.length_drop, List.length_take]; rfl)) (L0 _) ?_) | ((with_reducible refine gate_callee (f := 183) rfl ?_); refine wide_U128_Sub.ext_ (some 23) rfl rfl #[.int .u64 a0_0, .int .u64 a1_0, .int .u64 t175] rfl (by (try simp only [List.map_toArray, List.map_cons, List.map_nil]); first | done | rfl | (simp only [List.length_drop, List.length_take]; rfl)) (L1 _) ?_; have hcz13_0 := zc0 BK173; have hcz13_1 := zc1 BK173; have hfz13_0 := blk_frozen BK173.out 0; have hfz13_1 := blk_frozen BK173.out 1))
 refine bodyPost_ret (results_ct rfl _ _ gb173 109 #[.int .u64 t176, .int .u64 t174] (0, 0) _ rfl (blk_put (cs := #[.int .u64 t176, .int .u64 0]) (blk_put (zkq BK173) 0 _ rfl) 1 _ rfl) Try.underlying109 rfl (by kernel_rfl)) rfl ?_
 exact ⟨zaE, zaB⟩
theorem wide_U128_Sub.calls (a0_0 : Int) (a0_1 : Int) (a1_0 : Int) (a1_1 : Int) (r1 : Int) (r2 : Int) (r3 : Int) (w : World) (h : wide_U128_Sub.f a0_0 a0_1 a1_0 a1_1 = some (r1, r2, r3)) :
  Calls Try.prog 153 #[.agg #[.int .u64 a0_0, .int .u64 a0_1], .agg #[.int .u64 a1_0, .int .u64 a1_1]] w fun e w' => e = .returned (.tuple #[.agg #[.int .u64 r1, .int .u64 r2], .int .u64 r3]) ∧ Below w.heap.size w w' := by
 unfold wide_U128_Sub.f at h
 split at h
 ·rename_i g
  obtain ⟨g1, g2, g3, g4, g5, g6, g7, g8⟩ := g
  simp only [Option.some.injEq, Prod.mk.injEq] at h
  obtain ⟨rfl, rfl, rfl⟩ := h
  have b0 : (0 : Int) ≤ (if a0_1 < a1_1 + 0 then 1 else 0) := by split <;> omega
  have b1 : (if a0_1 < a1_1 + 0 then (1 : Int) else 0) ≤ 1 := by split <;> omega
  have W := wide_U128_Sub.walk a0_0 a0_1 a1_0 a1_1 _ _ _ _ (fun w => wide_U128_Sub.law a0_1 a1_1 0 g2 g4 (by omega) (by omega) g6 g8 w) (fun w => wide_U128_Sub.law a0_0 a1_0 _ g1 g3 b0 b1 g5 g7 w) w
  rw [Int.add_zero, Int.sub_zero] at W
  exact W
 ·cases h
end Go.Proofs.Ytmadjhmecfbcmaa.F
end
