/- The walk of the law SpanWidens and what it computes, part 2 of 6: no conditions. -/
import Derived.Test.YtmadjhmecfbcmaaASpanWidens1
import Derived.Shelf.Small.Bits
import Derived.Shelf.Strconv.Itoa0
import Derived.Shelf.Bits.Mul64
import Derived.Test.YtmadjhmecfbcmaaProg
import Derived.Lib.BitFns
set_option linter.unusedVariables false
set_option linter.unusedSimpArgs false
section
namespace Go.Proofs
open Go.Shelf
def Try.lays134_ren : Go.Shelf.Ren := ⟨fun | 134 => 186 | 129 => 161 | n => n, fun | 53 => 22 | 3 => 3 | 4 => 4 | 46 => 126 | 5 => 5 | 9 => 9 | n => n, fun | n => n⟩
theorem Try.lays134 : Go.Proofs.Lays.n134 Try.prog Try.lays134_ren := {
  mixed := by kernel_rfl
  f129 := Try.func161.trans (congrArg some (by kernel_rfl))
  f134 := Try.func186.trans (congrArg some (by kernel_rfl))
  t3 := Try.underlying3
  a3 := Try.isAgg3
  z3 := Try.sizeOf3
  v3 := Try.zeroValue3
  t4 := Try.underlying4
  a4 := Try.isAgg4
  z4 := Try.sizeOf4
  v4 := Try.zeroValue4
  t5 := Try.underlying5
  a5 := Try.isAgg5
  z5 := Try.sizeOf5
  v5 := Try.zeroValue5
  t9 := Try.underlying9
  a9 := Try.isAgg9
  z9 := Try.sizeOf9
  v9 := Try.zeroValue9
  t46 := Try.underlying126
  a46 := Try.isAgg126
  z46 := Try.sizeOf126
  v46 := Try.zeroValue126
  t53 := Try.underlying22
  a53 := Try.isAgg22
  z53 := Try.sizeOf22
  v53 := Try.zeroValue22 }
theorem Try.bits_LeadingZeros64 (x : Int) (w : World) (h0 : 0 ≤ x) (h1 : x ≤ 18446744073709551615) :
    Calls Try.prog 186 #[.int .u64 x] w fun e w' => e = .returned (.int .i64 (64 - (Lib.bitLen x.toNat : Int))) ∧ w' = w := Any.bits_LeadingZeros64 Try.lays134 x w h0 h1
def Try.lays129_ren : Go.Shelf.Ren := ⟨fun | 129 => 161 | n => n, fun | 53 => 22 | 3 => 3 | 4 => 4 | 46 => 126 | 5 => 5 | 9 => 9 | n => n, fun | n => n⟩
theorem Try.lays129 : Go.Proofs.Lays.n129 Try.prog Try.lays129_ren := {
  mixed := by kernel_rfl
  f129 := Try.func161.trans (congrArg some (by kernel_rfl))
  t3 := Try.underlying3
  a3 := Try.isAgg3
  z3 := Try.sizeOf3
  v3 := Try.zeroValue3
  t4 := Try.underlying4
  a4 := Try.isAgg4
  z4 := Try.sizeOf4
  v4 := Try.zeroValue4
  t5 := Try.underlying5
  a5 := Try.isAgg5
  z5 := Try.sizeOf5
  v5 := Try.zeroValue5
  t9 := Try.underlying9
  a9 := Try.isAgg9
  z9 := Try.sizeOf9
  v9 := Try.zeroValue9
  t46 := Try.underlying126
  a46 := Try.isAgg126
  z46 := Try.sizeOf126
  v46 := Try.zeroValue126
  t53 := Try.underlying22
  a53 := Try.isAgg22
  z53 := Try.sizeOf22
  v53 := Try.zeroValue22 }
theorem Try.bits_Len64 (x : Int) (w : World) (h0 : 0 ≤ x) (h1 : x ≤ 18446744073709551615) :
    Calls Try.prog 161 #[.int .u64 x] w fun e w' => e = .returned (.int .i64 (Lib.bitLen x.toNat)) ∧ w' = w := Any.bits_Len64 Try.lays129 x w h0 h1
def Try.lays264_ren : Go.Shelf.Ren := ⟨fun | 264 => 160 | n => n, fun | 53 => 22 | 46 => 126 | n => n, fun | n => n⟩
theorem Try.lays264 : Go.Proofs.Lays.n264 Try.prog Try.lays264_ren := {
  mixed := by kernel_rfl
  f264 := Try.func160.trans (congrArg some (by kernel_rfl))
  t46 := Try.underlying126
  a46 := Try.isAgg126
  z46 := Try.sizeOf126
  v46 := Try.zeroValue126
  t53 := Try.underlying22
  a53 := Try.isAgg22
  z53 := Try.sizeOf22
  v53 := Try.zeroValue22 }
open Go.RowKit Go.Lib in
theorem Try.bits_Mul64 (x y : Nat) (hx : x < 18446744073709551616) (hy : y < 18446744073709551616) (w : World) :
    Calls Try.prog 160 #[.int .u64 x, .int .u64 y] w fun e w' => e = .returned (.tuple #[.int .u64 ((x * y / 18446744073709551616 : Nat) : Int), .int .u64 ((x * y % 18446744073709551616 : Nat) : Int)]) ∧ w' = w := Any.bits_Mul64 Try.lays264 x y hx hy w
end Go.Proofs
end
section
namespace Go.Proofs.Ytmadjhmecfbcmaa.F
open Go.RowKit Go.Proofs.YtmadjhmecfbcmaaW.PrintWords Go.Proofs.YtmadjhmecfbcmaaW.PrintLast Go.Proofs.YtmadjhmecfbcmaaW.PrintMore
set_option linter.unusedVariables false
structure S43 where
  f0 : Bool
  f1 : Int
  f2 : Int
def z43 : S43 := ⟨false, (0 : Int), (0 : Int)⟩
def k43 : Kd S43 := Kd.iso (Kd.pair Kd.bool (Kd.pair (Kd.int .u64) (Kd.int .u64))) (fun x : S43 => (x.f0, x.f1, x.f2))
def rd_T43 (xs : List S43) (i : Int) : S43 := xs.getD i.toNat z43
def pattern_Quiet.f  : Option (Int) := some 9221120237041090560
def pattern_Parts.f (a0 : Int) : Option (Bool × Int × Int) := some (((a0 / 9223372036854775808) == 1), wrap64 (Go.bits .and .u64 (a0 / 4503599627370496) 2047), Go.bits .and .u64 a0 4503599627370495)
mutual
def pattern_Class.j0 : Nat → Int → Int → Bool → Option (Int)
  | 0, _, _, _ => none
  | k + 1, x4, x5, x12 => if x12 = true then (some 3) else (if x4 = 2047 then (some 4) else (if x4 = 0 then (pattern_Class.j1 k x4 (x5 == 0)) else (pattern_Class.j1 k x4 false)))
def pattern_Class.j1 : Nat → Int → Bool → Option (Int)
  | 0, _, _ => none
  | k + 1, x4, x22 => if x22 = true then (some 0) else (if x4 = 0 then (some 1) else (some 2))
end
def pattern_Class.f (k : Nat) (a0 : Int) : Option (Int) := (pattern_Parts.f a0).bind fun bt101 => (if bt101.2.1 = 2047 then (pattern_Class.j0 k bt101.2.1 bt101.2.2 (bt101.2.2 == 0)) else (pattern_Class.j0 k bt101.2.1 bt101.2.2 false))
def pattern_Split.f (k : Nat) (a0 : Int) : Option (Int × Int) := (pattern_Parts.f a0).bind fun bt104 => ((pattern_Class.f k a0).bind fun t107 => (if t107 = 2 then (some (Go.bits .or .u64 4503599627370496 bt104.2.2, wrap64 (bt104.2.1 - 1075))) else (if t107 = 1 then (some (bt104.2.2, (-1074))) else (some (0, 0)))))
def soft_of.f (k : Nat) (a0 : Int) : Option (Int × Int × Bool × Int × Int) := (pattern_Split.f k a0).bind fun bt109 => ((pattern_Class.f k a0).bind fun t111 => (some (a0, t111, ((a0 / 9223372036854775808) == 1), bt109.1, bt109.2)))
def soft_either.f (a0_0 : Int) (a0_1 : Int) (a0_2 : Bool) (a0_3 : Int) (a0_4 : Int) (a1_0 : Int) (a1_1 : Int) (a1_2 : Bool) (a1_3 : Int) (a1_4 : Int) (a2 : Int) : Option (Bool) := if a0_1 = a2 then (some true) else (some (a1_1 == a2))
def soft_invalid.f  : Option (Int × Int) := (pattern_Quiet.f).bind fun t114 => (some (t114, 16))
def pattern_Make.j0 : Nat → Bool → Int → Int → Bool → Option (Int × Int)
  | 0, _, _, _, _ => none
  | k + 1, x0, x1, x2, x18 => if x18 = true then (some (0, 1)) else (if x0 = true then (some (Go.bits .or .u64 (Go.bits .or .u64 (IntKind.u64.wrap ((IntKind.u64.wrap (x1)) * 4503599627370496)) x2) 9223372036854775808, 0)) else (some (Go.bits .or .u64 (IntKind.u64.wrap ((IntKind.u64.wrap (x1)) * 4503599627370496)) x2, 0)))
def pattern_Make.f (k : Nat) (a0 : Bool) (a1 : Int) (a2 : Int) : Option (Int × Int) := if a1 < 0 then (pattern_Make.j0 k a0 a1 a2 true) else (if a1 > 2047 then (pattern_Make.j0 k a0 a1 a2 true) else (pattern_Make.j0 k a0 a1 a2 (decide (a2 > 4503599627370495))))
def soft_zero.f (k : Nat) (a0 : Bool) : Option (Int) := (pattern_Make.f k a0 0 0).bind fun bt115 => (some bt115.1)
def bits_Len64.f (a0 : Int) : Option Int := if 0 ≤ a0 ∧ a0 ≤ 18446744073709551615 then some (Lib.bitLen a0.toNat : Int) else none
def wide_U128_Len.f (a0_0 : Int) (a0_1 : Int) : Option (Int) := if a0_0 > 0 then ((bits_Len64.f a0_0).bind fun t118 => (some (wrap64 (64 + t118)))) else ((bits_Len64.f a0_1).bind fun t119 => (some t119))
def wide_U128_Shl.l0 : Nat → Int → Int → Int → Option (Int × Int)
  | 0, _, _, _ => none
  | k + 1, x1, x121000, x121001 => if x1 ≥ 64 then (if (x121001 == 0) = true then (some (x121001, 0)) else (wide_U128_Shl.l0 k (wrap64 (x1 - 64)) x121001 0)) else (if x1 ≤ 0 then (some (x121000, x121001)) else (if 0 ≤ x1 then (if 0 ≤ (wrap64 (64 - x1)) then (some (Go.bits .or .u64 (shl .u64 x121000 x1) (shr .u64 x121001 (wrap64 (64 - x1))), shl .u64 x121001 x1)) else (none)) else (none)))
def wide_U128_Shl.f (k : Nat) (a0_0 : Int) (a0_1 : Int) (a1 : Int) : Option (Int × Int) := wide_U128_Shl.l0 k a1 a0_0 a0_1
def wide_U128_Shr.l0 : Nat → Int → Bool → Int → Int → Option (Int × Int × Bool)
  | 0, _, _, _, _ => none
  | k + 1, x1, x6, x123000, x123001 => if x1 ≥ 64 then (if x6 = true then (if (x123000 == 0) = true then (some (0, x123000, true)) else (wide_U128_Shr.l0 k (wrap64 (x1 - 64)) true 0 x123000)) else (if (x123000 == 0) = true then (some (0, x123000, (x123001 != 0))) else (wide_U128_Shr.l0 k (wrap64 (x1 - 64)) (x123001 != 0) 0 x123000))) else (if x1 ≤ 0 then (some (x123000, x123001, x6)) else (if 0 ≤ x1 then (if 0 ≤ (wrap64 (64 - x1)) then (if x6 = true then (some (shr .u64 x123000 x1, Go.bits .or .u64 (shr .u64 x123001 x1) (shl .u64 x123000 (wrap64 (64 - x1))), true)) else (some (shr .u64 x123000 x1, Go.bits .or .u64 (shr .u64 x123001 x1) (shl .u64 x123000 (wrap64 (64 - x1))), ((shl .u64 x123001 (wrap64 (64 - x1))) != 0)))) else (none)) else (none)))
def wide_U128_Shr.f (k : Nat) (a0_0 : Int) (a0_1 : Int) (a1 : Int) : Option (Int × Int × Bool) := wide_U128_Shr.l0 k a1 false a0_0 a0_1
def round_number_away.f (a0_0 : Bool) (a0_1 : Int) (a0_2 : Int) (a0_3 : Int) (a0_4 : Bool) (a1 : Int) : Option (Bool) := if a1 = 1 then (if a0_0 = true then (if a1 = 2 then (some a0_0) else (some false)) else (some true)) else (if a1 = 2 then (some a0_0) else (some false))
def round_number_towards.f (a0_0 : Bool) (a0_1 : Int) (a0_2 : Int) (a0_3 : Int) (a0_4 : Bool) (a1 : Int) : Option (Bool) := if a1 = 1 then (if a0_0 = true then (some true) else (if a1 = 2 then (some (!a0_0)) else (some false))) else (if a1 = 2 then (some (!a0_0)) else (some false))
def round_number_up.f (a0_0 : Bool) (a0_1 : Int) (a0_2 : Int) (a0_3 : Int) (a0_4 : Bool) (a1 : Int) (a2 : Bool) (a3 : Bool) (a4 : Bool) : Option (Bool) := (round_number_away.f a0_0 a0_1 a0_2 a0_3 a0_4 a1).bind fun t127 => (if t127 = true then (if a3 = true then (some true) else (some a4)) else ((round_number_towards.f a0_0 a0_1 a0_2 a0_3 a0_4 a1).bind fun t128 => (if t128 = true then (some false) else (if a3 = true then (if a4 = true then (some true) else (some a2)) else (some false)))))
def pattern_Inf.f (k : Nat) (a0 : Bool) : Option (Int) := (pattern_Make.f k a0 2047 0).bind fun bt129 => (some bt129.1)
def round_number_over.f (k : Nat) (a0_0 : Bool) (a0_1 : Int) (a0_2 : Int) (a0_3 : Int) (a0_4 : Bool) (a1 : Int) : Option (Int × Int) := (pattern_Inf.f k a0_0).bind fun t132 => ((round_number_towards.f a0_0 a0_1 a0_2 a0_3 a0_4 a1).bind fun t133 => (if t133 = true then (some (IntKind.u64.wrap (t132 - 1), 5)) else (some (t132, 5))))
mutual
def round_number_float.j0 : Nat → Int → Int → Int → Bool → Bool → Bool → Int → Int → Int → Bool → Int → Int → Option (Int × Int)
  | 0, _, _, _, _, _, _, _, _, _, _, _, _ => none
  | k + 1, x1, x6, x7, x9, x10, x135000, x135001, x135002, x135003, x135004, x137000, x137001 => (round_number_up.f x135000 x135001 x135002 x135003 x135004 x1 ((Go.bits .and .u64 x137001 1) == 1) x9 x10).bind fun t148 => (if t148 = true then (round_number_float.j1 k x1 x6 x7 x9 x10 (IntKind.u64.wrap (x137001 + 1)) x135000 x135001 x135002 x135003 x135004) else (round_number_float.j1 k x1 x6 x7 x9 x10 x137001 x135000 x135001 x135002 x135003 x135004))
def round_number_float.j1 : Nat → Int → Int → Int → Bool → Bool → Int → Bool → Int → Int → Int → Bool → Option (Int × Int)
  | 0, _, _, _, _, _, _, _, _, _, _, _ => none
  | k + 1, x1, x6, x7, x9, x10, x13, x135000, x135001, x135002, x135003, x135004 => if x13 = 9007199254740992 then (round_number_float.j2 k x1 x6 (wrap64 (x7 + 1)) x9 x10 (x13 / 2) x135000 x135001 x135002 x135003 x135004) else (round_number_float.j2 k x1 x6 x7 x9 x10 x13 x135000 x135001 x135002 x135003 x135004)
def round_number_float.j2 : Nat → Int → Int → Int → Bool → Bool → Int → Bool → Int → Int → Int → Bool → Option (Int × Int)
  | 0, _, _, _, _, _, _, _, _, _, _, _ => none
  | k + 1, x1, x6, x7, x9, x10, x13, x135000, x135001, x135002, x135003, x135004 => if x7 > 971 then ((round_number_over.f k x135000 x135001 x135002 x135003 x135004 x1).bind fun bt149 => (some (bt149.1, bt149.2))) else (if x9 = true then (round_number_float.j3 k x6 x7 x13 0 true x135000 x135001 x135002 x135003 x135004) else (round_number_float.j3 k x6 x7 x13 0 x10 x135000 x135001 x135002 x135003 x135004))
def round_number_float.j3 : Nat → Int → Int → Int → Int → Bool → Bool → Int → Int → Int → Bool → Option (Int × Int)
  | 0, _, _, _, _, _, _, _, _, _, _ => none
  | k + 1, x6, x7, x13, x14, x90, x135000, x135001, x135002, x135003, x135004 => if x90 = true then (if (wrap64 (x6 + x135003)) ≤ (-1022) then (if (x13 / 4503599627370496) = 1 then ((pattern_Make.f k x135000 (wrap64 ((wrap64 (x7 - (-1074))) + 1)) (Go.bits .and .u64 x13 4503599627370495)).bind fun bt151 => (some (bt151.1, Go.bits .or .u8 1 2))) else ((pattern_Make.f k x135000 0 (Go.bits .and .u64 x13 4503599627370495)).bind fun bt153 => (some (bt153.1, Go.bits .or .u8 1 2)))) else (if (x13 / 4503599627370496) = 1 then ((pattern_Make.f k x135000 (wrap64 ((wrap64 (x7 - (-1074))) + 1)) (Go.bits .and .u64 x13 4503599627370495)).bind fun bt155 => (some (bt155.1, 1))) else ((pattern_Make.f k x135000 0 (Go.bits .and .u64 x13 4503599627370495)).bind fun bt157 => (some (bt157.1, 1))))) else (if (x13 / 4503599627370496) = 1 then ((pattern_Make.f k x135000 (wrap64 ((wrap64 (x7 - (-1074))) + 1)) (Go.bits .and .u64 x13 4503599627370495)).bind fun bt159 => (some (bt159.1, x14))) else ((pattern_Make.f k x135000 0 (Go.bits .and .u64 x13 4503599627370495)).bind fun bt161 => (some (bt161.1, x14))))
end
def round_number_float.f (k : Nat) (a0_0 : Bool) (a0_1 : Int) (a0_2 : Int) (a0_3 : Int) (a0_4 : Bool) (a1 : Int) : Option (Int × Int) := (wide_U128_Len.f a0_1 a0_2).bind fun t135 => (if (wrap64 ((mx (wrap64 ((wrap64 (t135 - 53)) + a0_3)) (-1074)) - a0_3)) > 0 then ((wide_U128_Shr.f k a0_1 a0_2 (wrap64 ((wrap64 ((mx (wrap64 ((wrap64 (t135 - 53)) + a0_3)) (-1074)) - a0_3)) - 1))).bind fun bt137 => (if a0_4 = true then ((wide_U128_Shr.f k bt137.1 bt137.2.1 1).bind fun bt140 => (round_number_float.j0 k a1 t135 (mx (wrap64 ((wrap64 (t135 - 53)) + a0_3)) (-1074)) ((Go.bits .and .u64 bt137.2.1 1) == 1) true a0_0 a0_1 a0_2 a0_3 a0_4 bt140.1 bt140.2.1)) else ((wide_U128_Shr.f k bt137.1 bt137.2.1 1).bind fun bt143 => (round_number_float.j0 k a1 t135 (mx (wrap64 ((wrap64 (t135 - 53)) + a0_3)) (-1074)) ((Go.bits .and .u64 bt137.2.1 1) == 1) bt137.2.2 a0_0 a0_1 a0_2 a0_3 a0_4 bt143.1 bt143.2.1)))) else ((wide_U128_Shl.f k a0_1 a0_2 (wrap64 (-(wrap64 ((mx (wrap64 ((wrap64 (t135 - 53)) + a0_3)) (-1074)) - a0_3))))).bind fun bt146 => (round_number_float.j0 k a1 t135 (mx (wrap64 ((wrap64 (t135 - 53)) + a0_3)) (-1074)) false a0_4 a0_0 a0_1 a0_2 a0_3 a0_4 bt146.1 bt146.2)))
def round_Round.f (k : Nat) (a0 : Bool) (a1_0 : Int) (a1_1 : Int) (a2 : Int) (a3 : Bool) (a4 : Int) : Option (Int × Int) := (wide_U128_Len.f a1_0 a1_1).bind fun t164 => (if t164 = 0 then ((pattern_Make.f k a0 0 0).bind fun bt165 => (some (bt165.1, 0))) else (if a3 = true then ((round_number_float.f k a0 a1_0 a1_1 (mn (mx a2 (-5000)) 5000) (decide (t164 > 53)) a4).bind fun bt167 => (some (bt167.1, bt167.2))) else ((round_number_float.f k a0 a1_0 a1_1 (mn (mx a2 (-5000)) 5000) false a4).bind fun bt169 => (some (bt169.1, bt169.2)))))
def wide_U128_Add.f (a0_0 : Int) (a0_1 : Int) (a1_0 : Int) (a1_1 : Int) : Option (Int × Int × Int) :=
  if 0 ≤ a0_0 ∧ 0 ≤ a0_1 ∧ 0 ≤ a1_0 ∧ 0 ≤ a1_1 ∧ a0_1 < 18446744073709551616 ∧ a1_1 < 18446744073709551616 then
    some ((a0_0 + a1_0 + (a0_1 + a1_1) / 18446744073709551616) % 18446744073709551616, (a0_1 + a1_1) % 18446744073709551616, (a0_0 + a1_0 + (a0_1 + a1_1) / 18446744073709551616) / 18446744073709551616)
  else none
def wide_U128_Sub.f (a0_0 : Int) (a0_1 : Int) (a1_0 : Int) (a1_1 : Int) : Option (Int × Int × Int) :=
  if 0 ≤ a0_0 ∧ 0 ≤ a0_1 ∧ 0 ≤ a1_0 ∧ 0 ≤ a1_1 ∧ a0_0 < 18446744073709551616 ∧ a0_1 < 18446744073709551616 ∧ a1_0 < 18446744073709551616 ∧ a1_1 < 18446744073709551616 then
    some ((a0_0 - a1_0 - (if a0_1 < a1_1 then 1 else 0)) % 18446744073709551616, (a0_1 - a1_1) % 18446744073709551616, if a0_0 < a1_0 + (if a0_1 < a1_1 then 1 else 0) then 1 else 0)
  else none
def soft_num_add.f (k : Nat) (a0_0 : Int) (a0_1 : Int) (a0_2 : Bool) (a0_3 : Int) (a0_4 : Int) (a1_0 : Int) (a1_1 : Int) (a1_2 : Bool) (a1_3 : Int) (a1_4 : Int) (a2 : Int) : Option (Int × Int) := (wide_U128_Shl.f k 0 a0_3 70).bind fun bt173 => ((wide_U128_Shl.f k 0 a1_3 70).bind fun bt176 => ((wide_U128_Shr.f k bt176.1 bt176.2 (wrap64 (a0_4 - a1_4))).bind fun bt178 => (if (a0_2 == a1_2) = true then ((wide_U128_Add.f bt173.1 bt173.2 bt178.1 bt178.2.1).bind fun bt183 => ((round_Round.f k a0_2 bt183.1 bt183.2.1 (wrap64 (a0_4 - 70)) bt178.2.2 a2).bind fun bt186 => (some (bt186.1, bt186.2)))) else ((wide_U128_Sub.f bt173.1 bt173.2 bt178.1 bt178.2.1).bind fun bt188 => (if (bt188.1 == 0 && (bt188.2.1 == 0)) = true then ((soft_zero.f k (a2 == 2)).bind fun t191 => (some (t191, 0))) else (if bt178.2.2 = true then ((wide_U128_Sub.f bt188.1 bt188.2.1 0 1).bind fun bt192 => ((round_Round.f k a0_2 bt192.1 bt192.2.1 (wrap64 (a0_4 - 70)) bt178.2.2 a2).bind fun bt195 => (some (bt195.1, bt195.2)))) else ((round_Round.f k a0_2 bt188.1 bt188.2.1 (wrap64 (a0_4 - 70)) bt178.2.2 a2).bind fun bt197 => (some (bt197.1, bt197.2)))))))))
mutual
def soft_Add.j0 : Nat → Int → Int → Int → Bool → Int → Int → Bool → Int → Int → Int → Int → Bool → Int → Int → Option (Int × Int)
  | 0, _, _, _, _, _, _, _, _, _, _, _, _, _, _ => none
  | k + 1, x0, x1, x2, x19, x210000, x210001, x210002, x210003, x210004, x211000, x211001, x211002, x211003, x211004 => if x19 = true then ((soft_invalid.f).bind fun bt213 => (some (bt213.1, bt213.2))) else (if x210001 = 3 then (some (x0, 0)) else (if x211001 = 3 then (some (x1, 0)) else (if x210003 = 0 then (if x211003 = 0 then (soft_Add.j1 k x0 x1 x2 (x210002 == x211002) x210000 x210001 x210002 x210003 x210004 x211000 x211001 x211002 x211003 x211004) else (soft_Add.j1 k x0 x1 x2 false x210000 x210001 x210002 x210003 x210004 x211000 x211001 x211002 x211003 x211004)) else (soft_Add.j1 k x0 x1 x2 false x210000 x210001 x210002 x210003 x210004 x211000 x211001 x211002 x211003 x211004))))
def soft_Add.j1 : Nat → Int → Int → Int → Bool → Int → Int → Bool → Int → Int → Int → Int → Bool → Int → Int → Option (Int × Int)
  | 0, _, _, _, _, _, _, _, _, _, _, _, _, _, _ => none
  | k + 1, x0, x1, x2, x48, x210000, x210001, x210002, x210003, x210004, x211000, x211001, x211002, x211003, x211004 => if x48 = true then (some (x0, 0)) else (if x210003 = 0 then (soft_Add.j2 k x0 x1 x2 (x211003 == 0) x210000 x210001 x210002 x210003 x210004 x211000 x211001 x211002 x211003 x211004) else (soft_Add.j2 k x0 x1 x2 false x210000 x210001 x210002 x210003 x210004 x211000 x211001 x211002 x211003 x211004))
def soft_Add.j2 : Nat → Int → Int → Int → Bool → Int → Int → Bool → Int → Int → Int → Int → Bool → Int → Int → Option (Int × Int)
  | 0, _, _, _, _, _, _, _, _, _, _, _, _, _, _ => none
  | k + 1, x0, x1, x2, x65, x210000, x210001, x210002, x210003, x210004, x211000, x211001, x211002, x211003, x211004 => if x65 = true then ((soft_zero.f k (x2 == 2)).bind fun t215 => (some (t215, 0))) else (if x210003 = 0 then (some (x1, 0)) else (if x211003 = 0 then (some (x0, 0)) else (if x210004 < x211004 then ((soft_num_add.f k x211000 x211001 x211002 x211003 x211004 x210000 x210001 x210002 x210003 x210004 x2).bind fun bt216 => (some (bt216.1, bt216.2))) else (if x210004 = x211004 then (if x210003 < x211003 then ((soft_num_add.f k x211000 x211001 x211002 x211003 x211004 x210000 x210001 x210002 x210003 x210004 x2).bind fun bt218 => (some (bt218.1, bt218.2))) else ((soft_num_add.f k x210000 x210001 x210002 x210003 x210004 x211000 x211001 x211002 x211003 x211004 x2).bind fun bt220 => (some (bt220.1, bt220.2)))) else ((soft_num_add.f k x210000 x210001 x210002 x210003 x210004 x211000 x211001 x211002 x211003 x211004 x2).bind fun bt222 => (some (bt222.1, bt222.2)))))))
end
def soft_Add.f (k : Nat) (a0 : Int) (a1 : Int) (a2 : Int) : Option (Int × Int) := (soft_of.f k a0).bind fun bt199 => ((soft_of.f k a1).bind fun bt204 => ((soft_either.f bt199.1 bt199.2.1 bt199.2.2.1 bt199.2.2.2.1 bt199.2.2.2.2 bt204.1 bt204.2.1 bt204.2.2.1 bt204.2.2.2.1 bt204.2.2.2.2 4).bind fun t211 => (if t211 = true then ((pattern_Quiet.f).bind fun t212 => (some (t212, 0))) else (if bt199.2.1 = 3 then (if bt204.2.1 = 3 then (soft_Add.j0 k a0 a1 a2 (bt199.2.2.1 != bt204.2.2.1) bt199.1 bt199.2.1 bt199.2.2.1 bt199.2.2.2.1 bt199.2.2.2.2 bt204.1 bt204.2.1 bt204.2.2.1 bt204.2.2.2.1 bt204.2.2.2.2) else (soft_Add.j0 k a0 a1 a2 false bt199.1 bt199.2.1 bt199.2.2.1 bt199.2.2.2.1 bt199.2.2.2.2 bt204.1 bt204.2.1 bt204.2.2.1 bt204.2.2.2.1 bt204.2.2.2.2)) else (soft_Add.j0 k a0 a1 a2 false bt199.1 bt199.2.1 bt199.2.2.1 bt199.2.2.2.1 bt199.2.2.2.2 bt204.1 bt204.2.1 bt204.2.2.1 bt204.2.2.2.1 bt204.2.2.2.2)))))
def pattern_nan.f (k : Nat) (a0 : Int) : Option (Bool) := (pattern_Class.f k a0).bind fun t224 => (some (t224 == 4))
def pattern_Neg.f (k : Nat) (a0 : Int) : Option (Int) := (pattern_nan.f k a0).bind fun t225 => (if t225 = true then (some a0) else (some (Go.bits .xor .u64 a0 9223372036854775808)))
def soft_Sub.f (k : Nat) (a0 : Int) (a1 : Int) (a2 : Int) : Option (Int × Int) := (pattern_Neg.f k a1).bind fun t226 => ((soft_Add.f k a0 t226 a2).bind fun bt227 => (some (bt227.1, bt227.2)))
def bits_Mul64.f (a0 : Int) (a1 : Int) : Option (Int × Int) :=
  if 0 ≤ a0 ∧ 0 ≤ a1 ∧ a0 < 18446744073709551616 ∧ a1 < 18446744073709551616 then some (a0 * a1 / 18446744073709551616, a0 * a1 % 18446744073709551616) else none
def wide_Mul.f (a0 : Int) (a1 : Int) : Option (Int × Int) := (bits_Mul64.f a0 a1).bind fun bt230 => (some (bt230.1, bt230.2))
def soft_Mul.j0 : Nat → Int → Bool → Bool → Int → Int → Bool → Int → Int → Int → Int → Bool → Int → Int → Option (Int × Int)
  | 0, _, _, _, _, _, _, _, _, _, _, _, _, _ => none
  | k + 1, x2, x10, x25, x243000, x243001, x243002, x243003, x243004, x244000, x244001, x244002, x244003, x244004 => if x25 = true then ((soft_invalid.f).bind fun bt248 => (some (bt248.1, bt248.2))) else ((soft_either.f x243000 x243001 x243002 x243003 x243004 x244000 x244001 x244002 x244003 x244004 3).bind fun t250 => (if t250 = true then ((pattern_Inf.f k x10).bind fun t251 => (some (t251, 0))) else ((wide_Mul.f x243003 x244003).bind fun bt252 => ((round_Round.f k x10 bt252.1 bt252.2 (wrap64 (x243004 + x244004)) false x2).bind fun bt254 => (some (bt254.1, bt254.2))))))
def soft_Mul.f (k : Nat) (a0 : Int) (a1 : Int) (a2 : Int) : Option (Int × Int) := (soft_of.f k a0).bind fun bt232 => ((soft_of.f k a1).bind fun bt237 => ((soft_either.f bt232.1 bt232.2.1 bt232.2.2.1 bt232.2.2.2.1 bt232.2.2.2.2 bt237.1 bt237.2.1 bt237.2.2.1 bt237.2.2.2.1 bt237.2.2.2.2 4).bind fun t244 => (if t244 = true then ((pattern_Quiet.f).bind fun t245 => (some (t245, 0))) else ((soft_either.f bt232.1 bt232.2.1 bt232.2.2.1 bt232.2.2.2.1 bt232.2.2.2.2 bt237.1 bt237.2.1 bt237.2.2.1 bt237.2.2.2.1 bt237.2.2.2.2 3).bind fun t246 => (if t246 = true then ((soft_either.f bt232.1 bt232.2.1 bt232.2.2.1 bt232.2.2.2.1 bt232.2.2.2.2 bt237.1 bt237.2.1 bt237.2.2.1 bt237.2.2.2.1 bt237.2.2.2.2 0).bind fun t247 => (soft_Mul.j0 k a2 (bt232.2.2.1 != bt237.2.2.1) t247 bt232.1 bt232.2.1 bt232.2.2.1 bt232.2.2.2.1 bt232.2.2.2.2 bt237.1 bt237.2.1 bt237.2.2.1 bt237.2.2.2.1 bt237.2.2.2.2)) else (soft_Mul.j0 k a2 (bt232.2.2.1 != bt237.2.2.1) false bt232.1 bt232.2.1 bt232.2.2.1 bt232.2.2.2.1 bt232.2.2.2.2 bt237.1 bt237.2.1 bt237.2.2.1 bt237.2.2.2.1 bt237.2.2.2.2))))))
def bits_LeadingZeros64.f (a0 : Int) : Option Int := if 0 ≤ a0 ∧ a0 ≤ 18446744073709551615 then some (64 - (Lib.bitLen a0.toNat : Int)) else none
mutual
def bits_Div64q.j2 : Nat → Int → Int → Int → Int → Int → Int → Int → Int → Option (Int × Int)
  | 0, _, _, _, _, _, _, _, _ => none
  | k + 1, x2, x8, x9, x10, x11, x13, x14, x15 => if x9 = 0 then (none) else (bits_Div64q.l1 k x2 x8 x9 x10 x14 x15 (IntKind.u64.wrap ((IntKind.u64.wrap ((IntKind.u64.wrap ((IntKind.u64.wrap (x11 * 4294967296)) + x13)) - (IntKind.u64.wrap (x15 * x2)))) - (IntKind.u64.wrap ((IntKind.u64.wrap (Int.tdiv (IntKind.u64.wrap ((IntKind.u64.wrap ((IntKind.u64.wrap (x11 * 4294967296)) + x13)) - (IntKind.u64.wrap (x15 * x2)))) x9)) * x9)))) (IntKind.u64.wrap ((IntKind.u64.wrap ((IntKind.u64.wrap (x11 * 4294967296)) + x13)) - (IntKind.u64.wrap (x15 * x2)))) (IntKind.u64.wrap (Int.tdiv (IntKind.u64.wrap ((IntKind.u64.wrap ((IntKind.u64.wrap (x11 * 4294967296)) + x13)) - (IntKind.u64.wrap (x15 * x2)))) x9)))
def bits_Div64q.l1 : Nat → Int → Int → Int → Int → Int → Int → Int → Int → Int → Option (Int × Int)
  | 0, _, _, _, _, _, _, _, _, _ => none
  | k + 1, x2, x8, x9, x10, x14, x15, x16, x17, x18 => if x18 ≥ 4294967296 then (bits_Div64q.j4 k x2 x8 x9 x10 x14 x15 x16 x17 x18 true) else (bits_Div64q.j4 k x2 x8 x9 x10 x14 x15 x16 x17 x18 (decide ((IntKind.u64.wrap (x18 * x10)) > (IntKind.u64.wrap ((IntKind.u64.wrap (4294967296 * x16)) + x14)))))
def bits_Div64q.j4 : Nat → Int → Int → Int → Int → Int → Int → Int → Int → Int → Bool → Option (Int × Int)
  | 0, _, _, _, _, _, _, _, _, _, _ => none
  | k + 1, x2, x8, x9, x10, x14, x15, x16, x17, x18, x113 => if x113 = true then (if (IntKind.u64.wrap (x16 + x9)) ≥ 4294967296 then (if 0 ≤ x8 then (some (IntKind.u64.wrap ((IntKind.u64.wrap (x15 * 4294967296)) + (IntKind.u64.wrap (x18 - 1))), shr .u64 (IntKind.u64.wrap ((IntKind.u64.wrap ((IntKind.u64.wrap (x17 * 4294967296)) + x14)) - (IntKind.u64.wrap ((IntKind.u64.wrap (x18 - 1)) * x2)))) x8)) else (none)) else (bits_Div64q.l1 k x2 x8 x9 x10 x14 x15 (IntKind.u64.wrap (x16 + x9)) x17 (IntKind.u64.wrap (x18 - 1)))) else (if 0 ≤ x8 then (some (IntKind.u64.wrap ((IntKind.u64.wrap (x15 * 4294967296)) + x18), shr .u64 (IntKind.u64.wrap ((IntKind.u64.wrap ((IntKind.u64.wrap (x17 * 4294967296)) + x14)) - (IntKind.u64.wrap (x18 * x2)))) x8)) else (none))
def bits_Div64q.l0 : Nat → Int → Int → Int → Int → Int → Int → Int → Int → Int → Option (Int × Int)
  | 0, _, _, _, _, _, _, _, _, _ => none
  | k + 1, x2, x8, x9, x10, x11, x13, x14, x15, x16 => if x15 ≥ 4294967296 then (bits_Div64q.j1 k x2 x8 x9 x10 x11 x13 x14 x15 x16 true) else (bits_Div64q.j1 k x2 x8 x9 x10 x11 x13 x14 x15 x16 (decide ((IntKind.u64.wrap (x15 * x10)) > (IntKind.u64.wrap ((IntKind.u64.wrap (4294967296 * x16)) + x13)))))
def bits_Div64q.j1 : Nat → Int → Int → Int → Int → Int → Int → Int → Int → Int → Bool → Option (Int × Int)
  | 0, _, _, _, _, _, _, _, _, _, _ => none
  | k + 1, x2, x8, x9, x10, x11, x13, x14, x15, x16, x78 => if x78 = true then (if (IntKind.u64.wrap (x16 + x9)) ≥ 4294967296 then (bits_Div64q.j2 k x2 x8 x9 x10 x11 x13 x14 (IntKind.u64.wrap (x15 - 1))) else (bits_Div64q.l0 k x2 x8 x9 x10 x11 x13 x14 (IntKind.u64.wrap (x15 - 1)) (IntKind.u64.wrap (x16 + x9)))) else (bits_Div64q.j2 k x2 x8 x9 x10 x11 x13 x14 x15)
end
def bits_Div64q.f (k : Nat) (a0 : Int) (a1 : Int) (a2 : Int) : Option (Int × Int) := if a0 = 0 then (if a2 = 0 then (none) else (some (IntKind.u64.wrap (Int.tdiv a1 a2), Int.tmod a1 a2))) else ((bits_LeadingZeros64.f a2).bind fun t256 => (if 0 ≤ (IntKind.u64.wrap (t256)) then (if 0 ≤ (IntKind.u64.wrap (64 - (IntKind.u64.wrap (t256)))) then (if ((shl .u64 a2 (IntKind.u64.wrap (t256))) / 4294967296) = 0 then (none) else (bits_Div64q.l0 k (shl .u64 a2 (IntKind.u64.wrap (t256))) (IntKind.u64.wrap (t256)) ((shl .u64 a2 (IntKind.u64.wrap (t256))) / 4294967296) (Go.bits .and .u64 (shl .u64 a2 (IntKind.u64.wrap (t256))) 4294967295) (Go.bits .or .u64 (shl .u64 a0 (IntKind.u64.wrap (t256))) (shr .u64 a1 (IntKind.u64.wrap (64 - (IntKind.u64.wrap (t256)))))) ((shl .u64 a1 (IntKind.u64.wrap (t256))) / 4294967296) (Go.bits .and .u64 (shl .u64 a1 (IntKind.u64.wrap (t256))) 4294967295) (IntKind.u64.wrap (Int.tdiv (Go.bits .or .u64 (shl .u64 a0 (IntKind.u64.wrap (t256))) (shr .u64 a1 (IntKind.u64.wrap (64 - (IntKind.u64.wrap (t256)))))) ((shl .u64 a2 (IntKind.u64.wrap (t256))) / 4294967296))) (IntKind.u64.wrap ((Go.bits .or .u64 (shl .u64 a0 (IntKind.u64.wrap (t256))) (shr .u64 a1 (IntKind.u64.wrap (64 - (IntKind.u64.wrap (t256)))))) - (IntKind.u64.wrap ((IntKind.u64.wrap (Int.tdiv (Go.bits .or .u64 (shl .u64 a0 (IntKind.u64.wrap (t256))) (shr .u64 a1 (IntKind.u64.wrap (64 - (IntKind.u64.wrap (t256)))))) ((shl .u64 a2 (IntKind.u64.wrap (t256))) / 4294967296))) * ((shl .u64 a2 (IntKind.u64.wrap (t256))) / 4294967296))))))) else (none)) else (none)))
def bits_Div64.f (a0 : Int) (a1 : Int) (a2 : Int) : Option (Int × Int) :=
  if 0 ≤ a0 ∧ 0 ≤ a1 ∧ a1 < 18446744073709551616 ∧ a0 < a2 ∧ a2 < 18446744073709551616 then
    some ((a0 * 18446744073709551616 + a1) / a2, (a0 * 18446744073709551616 + a1) % a2) else none
def wide_U128_Div.f (a0_0 : Int) (a0_1 : Int) (a1 : Int) : Option (Int × Int × Int) := if a1 = 0 then (some (0, 0, 0)) else ((bits_Div64.f 0 a0_0 a1).bind fun bt258 => ((bits_Div64.f bt258.2 a0_1 a1).bind fun bt260 => (some (bt258.1, bt260.1, bt260.2))))
mutual
def soft_Div.j0 : Nat → Int → Bool → Bool → Int → Int → Bool → Int → Int → Int → Int → Bool → Int → Int → Option (Int × Int)
  | 0, _, _, _, _, _, _, _, _, _, _, _, _, _ => none
  | k + 1, x2, x10, x28, x273000, x273001, x273002, x273003, x273004, x274000, x274001, x274002, x274003, x274004 => if x28 = true then ((soft_invalid.f).bind fun bt276 => (some (bt276.1, bt276.2))) else (if x273001 = 3 then ((pattern_Inf.f k x10).bind fun t278 => (some (t278, 0))) else (if x274001 = 0 then ((pattern_Inf.f k x10).bind fun t279 => (some (t279, 8))) else (if x273001 = 0 then (soft_Div.j1 k x2 x10 (x273001 == 0) x273000 x273001 x273002 x273003 x273004 x274000 x274001 x274002 x274003 x274004) else (soft_Div.j1 k x2 x10 (x274001 == 3) x273000 x273001 x273002 x273003 x273004 x274000 x274001 x274002 x274003 x274004))))
def soft_Div.j1 : Nat → Int → Bool → Bool → Int → Int → Bool → Int → Int → Int → Int → Bool → Int → Int → Option (Int × Int)
  | 0, _, _, _, _, _, _, _, _, _, _, _, _, _ => none
  | k + 1, x2, x10, x59, x273000, x273001, x273002, x273003, x273004, x274000, x274001, x274002, x274003, x274004 => if x59 = true then ((soft_zero.f k x10).bind fun t280 => (some (t280, 0))) else ((wide_U128_Len.f 0 x273003).bind fun t281 => (if 0 ≤ (wrap64 (64 - t281)) then ((wide_U128_Div.f (shl .u64 x273003 (wrap64 (64 - t281))) 0 x274003).bind fun bt282 => ((round_Round.f k x10 bt282.1 bt282.2.1 (wrap64 ((wrap64 ((wrap64 (x273004 - (wrap64 (64 - t281)))) - 64)) - x274004)) (bt282.2.2 != 0) x2).bind fun bt286 => (some (bt286.1, bt286.2)))) else (none)))
end
def soft_Div.f (k : Nat) (a0 : Int) (a1 : Int) (a2 : Int) : Option (Int × Int) := (soft_of.f k a0).bind fun bt262 => ((soft_of.f k a1).bind fun bt267 => ((soft_either.f bt262.1 bt262.2.1 bt262.2.2.1 bt262.2.2.2.1 bt262.2.2.2.2 bt267.1 bt267.2.1 bt267.2.2.1 bt267.2.2.2.1 bt267.2.2.2.2 4).bind fun t274 => (if t274 = true then ((pattern_Quiet.f).bind fun t275 => (some (t275, 0))) else (if bt262.2.1 = bt267.2.1 then (if bt262.2.1 = 3 then (soft_Div.j0 k a2 (bt262.2.2.1 != bt267.2.2.1) true bt262.1 bt262.2.1 bt262.2.2.1 bt262.2.2.2.1 bt262.2.2.2.2 bt267.1 bt267.2.1 bt267.2.2.1 bt267.2.2.2.1 bt267.2.2.2.2) else (soft_Div.j0 k a2 (bt262.2.2.1 != bt267.2.2.1) (bt262.2.1 == 0) bt262.1 bt262.2.1 bt262.2.2.1 bt262.2.2.2.1 bt262.2.2.2.2 bt267.1 bt267.2.1 bt267.2.2.1 bt267.2.2.2.1 bt267.2.2.2.2)) else (soft_Div.j0 k a2 (bt262.2.2.1 != bt267.2.2.1) false bt262.1 bt262.2.1 bt262.2.2.1 bt262.2.2.2.1 bt262.2.2.2.2 bt267.1 bt267.2.1 bt267.2.2.1 bt267.2.2.2.1 bt267.2.2.2.2)))))
def wide_U128_Cmp.f (a0_0 : Int) (a0_1 : Int) (a1_0 : Int) (a1_1 : Int) : Option (Int) :=
  some (if a0_0 < a1_0 then -1 else if a1_0 < a0_0 then 1 else if a0_1 < a1_1 then -1 else if a1_1 < a0_1 then 1 else 0)
def wide_U128_Sqrt.l0 : Nat → Int → Int → Int → Int → Option (Int × Int × Int)
  | 0, _, _, _, _ => none
  | k + 1, x4, x5, x289000, x289001 => if x5 > 0 then ((wide_Mul.f (Go.bits .or .u64 x4 x5) (Go.bits .or .u64 x4 x5)).bind fun bt296 => ((wide_U128_Cmp.f bt296.1 bt296.2 x289000 x289001).bind fun t298 => (if t298 ≤ 0 then (wide_U128_Sqrt.l0 k (Go.bits .or .u64 x4 x5) (x5 / 2) x289000 x289001) else (wide_U128_Sqrt.l0 k x4 (x5 / 2) x289000 x289001)))) else ((wide_Mul.f x4 x4).bind fun bt290 => ((wide_U128_Sub.f x289000 x289001 bt290.1 bt290.2).bind fun bt292 => (some (x4, bt292.1, bt292.2.1))))
def wide_U128_Sqrt.f (k : Nat) (a0_0 : Int) (a0_1 : Int) : Option (Int × Int × Int) := wide_U128_Sqrt.l0 k 0 9223372036854775808 a0_0 a0_1
def soft_Sqrt.j0 : Nat → Int → Int → Bool → Int → Int → Bool → Int → Int → Option (Int × Int)
  | 0, _, _, _, _, _, _, _, _ => none
  | k + 1, x0, x1, x18, x305000, x305001, x305002, x305003, x305004 => if x18 = true then (some (x0, 0)) else (if x305002 = true then ((soft_invalid.f).bind fun bt306 => (some (bt306.1, bt306.2))) else ((wide_U128_Len.f 0 x305003).bind fun t309 => (if (Int.tmod (wrap64 (x305004 - (wrap64 (126 - t309)))) 2) = 0 then ((wide_U128_Shl.f k 0 x305003 (wrap64 (126 - t309))).bind fun bt310 => ((wide_U128_Sqrt.f k bt310.1 bt310.2).bind fun bt312 => ((round_Round.f k false 0 bt312.1 (wrap64 (Int.tdiv (wrap64 (x305004 - (wrap64 (126 - t309)))) 2)) (!(bt312.2.1 == 0) || (!(bt312.2.2 == 0))) x1).bind fun bt316 => (some (bt316.1, bt316.2))))) else ((wide_U128_Shl.f k 0 x305003 (wrap64 ((wrap64 (126 - t309)) + 1))).bind fun bt318 => ((wide_U128_Sqrt.f k bt318.1 bt318.2).bind fun bt320 => ((round_Round.f k false 0 bt320.1 (wrap64 (Int.tdiv (wrap64 (x305004 - (wrap64 ((wrap64 (126 - t309)) + 1)))) 2)) (!(bt320.2.1 == 0) || (!(bt320.2.2 == 0))) x1).bind fun bt324 => (some (bt324.1, bt324.2))))))))
def flyballref04_Parts.f (a0 : Int) : Option (Bool × Int × Int) := some (((IntKind.u64.wrap (Int.tdiv a0 9223372036854775808)) == 1), wrap64 (Int.tmod (IntKind.u64.wrap (Int.tdiv a0 4503599627370496)) 2048), Int.tmod a0 4503599627370496)
mutual
def flyballref04_Class.j0 : Nat → Int → Int → Bool → Option (Int)
  | 0, _, _, _ => none
  | k + 1, x4, x5, x17 => if x17 = true then (some 3) else (if x4 = 2047 then (some 4) else (if x4 = 0 then (flyballref04_Class.j1 k x4 (x5 == 0)) else (flyballref04_Class.j1 k x4 false)))
def flyballref04_Class.j1 : Nat → Int → Bool → Option (Int)
  | 0, _, _ => none
  | k + 1, x4, x25 => if x25 = true then (some 0) else (if x4 = 0 then (some 1) else (some 2))
end
def flyballref04_Class.f (k : Nat) (a0 : Int) : Option (Int) := (flyballref04_Parts.f a0).bind fun bt350 => (if bt350.2.1 = 2047 then (flyballref04_Class.j0 k bt350.2.1 bt350.2.2 (bt350.2.2 == 0)) else (flyballref04_Class.j0 k bt350.2.1 bt350.2.2 false))
def flyballref06_is.f (k : Nat) (a0 : Int) (a1 : Int) : Option (Bool) := (flyballref04_Class.f k a0).bind fun t353 => (some (t353 == a1))
def flyballref06_neg.f (a0 : Int) : Option (Bool) := some ((a0 / 9223372036854775808) == 1)
def flyballref04_Split.f (k : Nat) (a0 : Int) : Option (Int × Int) := (flyballref04_Parts.f a0).bind fun bt354 => ((flyballref04_Class.f k a0).bind fun t357 => (if t357 = 2 then (some (IntKind.u64.wrap (4503599627370496 + bt354.2.2), wrap64 (bt354.2.1 - 1075))) else (if t357 = 1 then (some (bt354.2.2, (-1074))) else (some (0, 0)))))
def flyballref01_Shl.l0 : Nat → List Bool → Int → List Bool → Int → Option (List Bool)
  | 0, _, _, _, _ => none
  | k + 1, x0, x1, x5, x6 => if x6 < x1 then (if x5.length < 140737488355328 then (flyballref01_Shl.l0 k x0 x1 (x5 ++ [false]) (wrap64 (x6 + 1))) else (none)) else (if x5.length + x0.length < 140737488355328 then (some (x5 ++ x0)) else (none))
def flyballref01_Shl.f (k : Nat) (l0 : List Bool) (a1 : Int) : Option (List Bool) := flyballref01_Shl.l0 k l0 a1 ([] : List Bool) 0
def flyballref01_Len.l0 : Nat → List Bool → Int → Option (Int)
  | 0, _, _ => none
  | k + 1, x0, x3 => if x3 > 0 then (if 0 ≤ (wrap64 (x3 - 1)) then (if (wrap64 (x3 - 1)) < (x0.length : Int) then (if (rdOf false x0 (wrap64 (x3 - 1)) = true) then (some x3) else (flyballref01_Len.l0 k x0 (wrap64 (x3 - 1)))) else (none)) else (none)) else (some x3)
def flyballref01_Len.f (k : Nat) (l0 : List Bool) : Option (Int) := flyballref01_Len.l0 k l0 (l0.length : Int)
mutual
def flyballref01_Of.l0 : Nat → List Int → List Bool → Int → Option (List Bool)
  | 0, _, _, _ => none
  | k + 1, x0, x3, x4 => if x4 < (x0.length : Int) then (flyballref01_Of.l1 k x0 x3 x4 0) else (some x3)
def flyballref01_Of.l1 : Nat → List Int → List Bool → Int → Int → Option (List Bool)
  | 0, _, _, _, _ => none
  | k + 1, x0, x3, x4, x5 => if x5 < 64 then (if 0 ≤ x4 then (if x4 < (x0.length : Int) then (if 0 ≤ (IntKind.u64.wrap (x5)) then (if x3.length < 140737488355328 then (flyballref01_Of.l1 k x0 (x3 ++ [((Go.bits .and .u64 (shr .u64 (rd x0 x4) (IntKind.u64.wrap (x5))) 1) == 1)]) x4 (wrap64 (x5 + 1))) else (none)) else (none)) else (none)) else (none)) else (flyballref01_Of.l0 k x0 x3 (wrap64 (x4 + 1)))
end
def flyballref01_Of.f (k : Nat) (l0 : List Int) : Option (List Bool) := flyballref01_Of.l0 k l0 ([] : List Bool) 0
def flyballref06_bits.f (k : Nat) (a0 : Int) : Option (List Bool) := (flyballref01_Of.f k (([a0] : List Int))).bind fun t372 => ((flyballref01_Len.f k t372).bind fun t375 => (if 0 ≤ t375 then (if t375 ≤ (t372.length : Int) then (some (t372.take (t375 : Int).toNat)) else (none)) else (none)))
def flyballref01_bit.f (l0 : List Bool) (a1 : Int) : Option (Bool) := if a1 ≥ 0 then (if a1 < (l0.length : Int) then (if 0 ≤ a1 then (some (rdOf false l0 a1)) else (none)) else (some false)) else (some false)
mutual
def flyballref01_Add.l0 : Nat → List Bool → List Bool → List Bool → Bool → Int → Option (List Bool)
  | 0, _, _, _, _, _ => none
  | k + 1, x0, x1, x5, x6, x7 => if x7 < (x0.length : Int) then (flyballref01_Add.j1 k x0 x1 x5 x6 x7 true) else (if x7 < (x1.length : Int) then (flyballref01_Add.j1 k x0 x1 x5 x6 x7 true) else (flyballref01_Add.j1 k x0 x1 x5 x6 x7 x6))
def flyballref01_Add.j1 : Nat → List Bool → List Bool → List Bool → Bool → Int → Bool → Option (List Bool)
  | 0, _, _, _, _, _, _ => none
  | k + 1, x0, x1, x5, x6, x7, x22 => if x22 = true then ((flyballref01_bit.f x0 x7).bind fun t380 => ((flyballref01_bit.f x1 x7).bind fun t381 => (if x5.length < 140737488355328 then ((some (x5 ++ [((t380 != t381) != x6)] : List Bool)).bind fun y382 => (if t380 = true then (if t381 = true then (flyballref01_Add.l0 k x0 x1 y382 true (wrap64 (x7 + 1))) else (if x6 = true then (flyballref01_Add.l0 k x0 x1 y382 true (wrap64 (x7 + 1))) else (flyballref01_Add.l0 k x0 x1 y382 false (wrap64 (x7 + 1))))) else (if t381 = true then (flyballref01_Add.l0 k x0 x1 y382 x6 (wrap64 (x7 + 1))) else (flyballref01_Add.l0 k x0 x1 y382 false (wrap64 (x7 + 1)))))) else (none)))) else (some x5)
end
def flyballref01_Add.f (k : Nat) (l0 : List Bool) (l1 : List Bool) : Option (List Bool) := flyballref01_Add.l0 k l0 l1 ([] : List Bool) false 0
def flyballref01_Cmp.l0 : Nat → List Bool → List Bool → Int → Option (Int)
  | 0, _, _, _ => none
  | k + 1, x0, x1, x5 => if x5 ≥ 0 then ((flyballref01_bit.f x0 x5).bind fun t385 => ((flyballref01_bit.f x1 x5).bind fun t386 => (if (t385 != t386) = true then (if t385 = true then (some 1) else (some (-1))) else (flyballref01_Cmp.l0 k x0 x1 (wrap64 (x5 - 1)))))) else (some 0)
def flyballref01_Cmp.f (k : Nat) (l0 : List Bool) (l1 : List Bool) : Option (Int) := flyballref01_Cmp.l0 k l0 l1 (wrap64 ((mx (l0.length : Int) (l1.length : Int)) - 1))
def flyballref04_Make.f (a0 : Bool) (a1 : Int) (a2 : Int) : Option (Int) := if a0 = true then (some (IntKind.u64.wrap ((IntKind.u64.wrap ((IntKind.u64.wrap ((IntKind.u64.wrap (a1)) * 4503599627370496)) + a2)) + 9223372036854775808))) else (some (IntKind.u64.wrap ((IntKind.u64.wrap ((IntKind.u64.wrap (a1)) * 4503599627370496)) + a2)))
def flyballref04_Of.j0 : Nat → Int → Bool → Option (Int)
  | 0, _, _ => none
  | k + 1, x0, x13 => if x13 = true then ((flyballref04_Make.f true (wrap64 (Int.tdiv (wrap64 (-x0)) 4503599627370496)) (IntKind.u64.wrap (Int.tmod (wrap64 (-x0)) 4503599627370496))).bind fun t393 => (some t393)) else ((flyballref04_Make.f false (wrap64 (Int.tdiv x0 4503599627370496)) (IntKind.u64.wrap (Int.tmod x0 4503599627370496))).bind fun t394 => (some t394))
def flyballref04_Of.f (k : Nat) (a0 : Int) (a1 : Bool) : Option (Int) := if a0 < 0 then (flyballref04_Of.j0 k a0 true) else (if a0 = 0 then (flyballref04_Of.j0 k a0 a1) else (flyballref04_Of.j0 k a0 false))
def flyballref05_split.f (k : Nat) (a0 : Int) : Option (List Bool × Int) := if (a0 / 4503599627370496) = 0 then ((flyballref01_Of.f k (([IntKind.u64.wrap (Go.bits .and .i64 a0 4503599627370495)] : List Int))).bind fun t398 => (some (t398, (-1074)))) else ((flyballref01_Of.f k (([IntKind.u64.wrap ((IntKind.u64.wrap (Go.bits .and .i64 a0 4503599627370495)) + 4503599627370496)] : List Int))).bind fun t404 => (some (t404, wrap64 ((a0 / 4503599627370496) - 1075))))
def flyballref01_Mul.l0 : Nat → List Bool → List Bool → List Bool → Int → Option (List Bool)
  | 0, _, _, _, _ => none
  | k + 1, x0, x1, x5, x6 => if x6 < (x1.length : Int) then (if 0 ≤ x6 then (if rdOf false x1 x6 = true then ((flyballref01_Shl.f k x0 x6).bind fun t408 => ((flyballref01_Add.f k x5 t408).bind fun t411 => (flyballref01_Mul.l0 k x0 x1 t411 (wrap64 (x6 + 1))))) else (flyballref01_Mul.l0 k x0 x1 x5 (wrap64 (x6 + 1)))) else (none)) else (some x5)
def flyballref01_Mul.f (k : Nat) (l0 : List Bool) (l1 : List Bool) : Option (List Bool) := flyballref01_Mul.l0 k l0 l1 ([] : List Bool) 0
def flyballref05_cmp.f (k : Nat) (l0_0 : List Bool) (l0_1 : List Bool) (a0_2 : Int) (a0_3 : Bool) (l1 : List Bool) (a2 : Int) : Option (Int) := (flyballref01_Shl.f k l0_0 (wrap64 (a0_2 - (mn a0_2 a2)))).bind fun t415 => ((flyballref01_Mul.f k l1 l0_1).bind fun t418 => ((flyballref01_Shl.f k t418 (wrap64 (a2 - (mn a0_2 a2)))).bind fun t421 => ((flyballref01_Cmp.f k t415 t421).bind fun t424 => (if t424 = 0 then (if a0_3 = true then (some 1) else (some t424)) else (some t424)))))
def flyballref05_floor.l0 : Nat → Int → Int → List Bool → List Bool → Int → Bool → Option (Int)
  | 0, _, _, _, _, _, _ => none
  | k + 1, x3, x4, x426000, x426001, x426002, x426003 => if x3 < x4 then ((flyballref05_split.f k (wrap64 (x4 - (wrap64 (Int.tdiv (wrap64 (x4 - x3)) 2))))).bind fun bt426 => ((flyballref05_cmp.f k x426000 x426001 x426002 x426003 bt426.1 bt426.2).bind fun t430 => (if t430 ≥ 0 then (flyballref05_floor.l0 k (wrap64 (x4 - (wrap64 (Int.tdiv (wrap64 (x4 - x3)) 2)))) x4 x426000 x426001 x426002 x426003) else (flyballref05_floor.l0 k x3 (wrap64 ((wrap64 (x4 - (wrap64 (Int.tdiv (wrap64 (x4 - x3)) 2)))) - 1)) x426000 x426001 x426002 x426003)))) else (some x3)
def flyballref05_floor.f (k : Nat) (l0_0 : List Bool) (l0_1 : List Bool) (a0_2 : Int) (a0_3 : Bool) : Option (Int) := flyballref05_floor.l0 k 0 9218868437227405312 l0_0 l0_1 a0_2 a0_3
mutual
def flyballref05_Magnitude.j0 : Nat → Int → Int → Int → Bool → List Bool → List Bool → List Bool → Int → Bool → Option (Int × Int)
  | 0, _, _, _, _, _, _, _, _, _ => none
  | k + 1, x1, x6, x7, x10, x11, x432000, x432001, x432002, x432003 => if x1 = 1 then (flyballref05_Magnitude.j1 k x1 x6 x7 (!x10)) else (if x1 = 2 then (flyballref05_Magnitude.j1 k x1 x6 x7 false) else ((flyballref05_split.f k x7).bind fun bt445 => (if x7 > 9218868437227405311 then ((flyballref05_split.f k 9218868437227405311).bind fun bt449 => ((flyballref01_Add.f k bt449.1 x11).bind fun t453 => ((flyballref01_Shl.f k t453 1).bind fun t456 => ((flyballref01_Add.f k t456 x11).bind fun t459 => ((flyballref05_cmp.f k x432000 x432001 x432002 x432003 t459 (wrap64 (bt449.2 - 1))).bind fun t462 => (if t462 > 0 then (flyballref05_Magnitude.j1 k x1 x6 x7 true) else (if t462 = 0 then (flyballref05_Magnitude.j1 k x1 x6 x7 ((Int.tmod x7 2) == 1)) else (flyballref05_Magnitude.j1 k x1 x6 x7 false)))))))) else ((flyballref01_Shl.f k bt445.1 1).bind fun t463 => ((flyballref01_Add.f k t463 x11).bind fun t466 => ((flyballref05_cmp.f k x432000 x432001 x432002 x432003 t466 (wrap64 (bt445.2 - 1))).bind fun t469 => (if t469 > 0 then (flyballref05_Magnitude.j1 k x1 x6 x7 true) else (if t469 = 0 then (flyballref05_Magnitude.j1 k x1 x6 x7 ((Int.tmod x7 2) == 1)) else (flyballref05_Magnitude.j1 k x1 x6 x7 false)))))))))
def flyballref05_Magnitude.j1 : Nat → Int → Int → Int → Bool → Option (Int × Int)
  | 0, _, _, _, _ => none
  | k + 1, x1, x6, x7, x12 => if x7 ≤ 9218868437227405311 then (flyballref05_Magnitude.j2 k x1 x6 x7 x12) else (flyballref05_Magnitude.j2 k x1 x6 x7 false)
def flyballref05_Magnitude.j2 : Nat → Int → Int → Int → Bool → Option (Int × Int)
  | 0, _, _, _, _ => none
  | k + 1, x1, x6, x7, x85 => if x85 = true then (flyballref05_Magnitude.j3 k x1 x6 (wrap64 (x7 + 1))) else (flyballref05_Magnitude.j3 k x1 x6 x7)
def flyballref05_Magnitude.j3 : Nat → Int → Int → Int → Option (Int × Int)
  | 0, _, _, _ => none
  | k + 1, x1, x6, x7 => if x7 > 9218868437227405311 then (if x1 = 2 then (some (9218868437227405311, Go.bits .or .u8 (Go.bits .or .u8 x6 4) 1)) else (some (9218868437227405312, Go.bits .or .u8 (Go.bits .or .u8 x6 4) 1))) else (some (x7, x6))
end
def flyballref05_Magnitude.f (k : Nat) (l0_0 : List Bool) (l0_1 : List Bool) (a0_2 : Int) (a0_3 : Bool) (a1 : Int) : Option (Int × Int) := (flyballref05_floor.f k l0_0 l0_1 a0_2 a0_3).bind fun t432 => ((flyballref05_split.f k t432).bind fun bt433 => ((flyballref05_cmp.f k l0_0 l0_1 a0_2 a0_3 bt433.1 bt433.2).bind fun t437 => ((flyballref01_Of.f k (([1] : List Int))).bind fun t441 => (if t437 = 0 then (flyballref05_Magnitude.j0 k a1 0 t432 (t437 == 0) t441 l0_0 l0_1 a0_2 a0_3) else ((flyballref05_cmp.f k l0_0 l0_1 a0_2 a0_3 t441 (-1022)).bind fun t444 => (if t444 < 0 then (flyballref05_Magnitude.j0 k a1 (Go.bits .or .u8 (Go.bits .or .u8 0 1) 2) t432 (t437 == 0) t441 l0_0 l0_1 a0_2 a0_3) else (flyballref05_Magnitude.j0 k a1 (Go.bits .or .u8 0 1) t432 (t437 == 0) t441 l0_0 l0_1 a0_2 a0_3)))))))
mutual
def flyballref05_Signed.j0 : Nat → Bool → Int → Int → Bool → List Bool → List Bool → Int → Bool → Option (Int × Int)
  | 0, _, _, _, _, _, _, _, _ => none
  | k + 1, x0, x2, x8, x16, x471000, x471001, x471002, x471003 => if x16 = true then (flyballref05_Signed.j1 k x0 2 x471000 x471001 x471002 x471003) else (if x0 = true then (if x2 = 2 then (flyballref05_Signed.j1 k x0 1 x471000 x471001 x471002 x471003) else (flyballref05_Signed.j1 k x0 x8 x471000 x471001 x471002 x471003)) else (flyballref05_Signed.j1 k x0 x8 x471000 x471001 x471002 x471003))
def flyballref05_Signed.j1 : Nat → Bool → Int → List Bool → List Bool → Int → Bool → Option (Int × Int)
  | 0, _, _, _, _, _, _ => none
  | k + 1, x0, x8, x471000, x471001, x471002, x471003 => (flyballref05_Magnitude.f k x471000 x471001 x471002 x471003 x8).bind fun bt471 => (if x0 = true then ((flyballref04_Of.f k (wrap64 (-bt471.1)) true).bind fun t473 => (some (t473, bt471.2))) else ((flyballref04_Of.f k bt471.1 false).bind fun t474 => (some (t474, bt471.2))))
end
def flyballref05_Signed.f (k : Nat) (a0 : Bool) (l1_0 : List Bool) (l1_1 : List Bool) (a1_2 : Int) (a1_3 : Bool) (a2 : Int) : Option (Int × Int) := if a0 = true then (flyballref05_Signed.j0 k a0 a2 a2 (a2 == 1) l1_0 l1_1 a1_2 a1_3) else (flyballref05_Signed.j0 k a0 a2 a2 false l1_0 l1_1 a1_2 a1_3)
def flyballref05_Round.f (k : Nat) (a0 : Bool) (l1 : List Bool) (a2 : Int) (a3 : Bool) (a4 : Int) : Option (Int × Int) := (flyballref01_Len.f k l1).bind fun t475 => (if t475 = 0 then ((flyballref04_Of.f k 0 a0).bind fun t476 => (some (t476, 0))) else (if 0 ≤ t475 then (if t475 ≤ (l1.length : Int) then ((some (([true] : List Bool) : List Bool)).bind fun y478 => (if a3 = true then ((flyballref05_Signed.f k a0 (l1.take (t475 : Int).toNat) y478 (mn (mx a2 (-5000)) 5000) (decide (t475 ≥ 54)) a4).bind fun bt481 => (some (bt481.1, bt481.2))) else ((flyballref05_Signed.f k a0 (l1.take (t475 : Int).toNat) y478 (mn (mx a2 (-5000)) 5000) false a4).bind fun bt483 => (some (bt483.1, bt483.2))))) else (none)) else (none)))
def flyballref06_inf.f (a0 : Bool) : Option (Int) := (flyballref04_Make.f a0 2047 0).bind fun t545 => (some t545)
mutual
def flyballref06_Mul.j0 : Nat → Int → Int → Int → Bool → Option (Int × Int)
  | 0, _, _, _, _ => none
  | k + 1, x0, x1, x2, x18 => if x18 = true then (some (9221120237041090560, 0)) else ((flyballref06_is.f k x0 3).bind fun t548 => (if t548 = true then ((flyballref06_is.f k x1 0).bind fun t549 => (if t549 = true then (flyballref06_Mul.j1 k x0 x1 x2 true) else ((flyballref06_is.f k x0 0).bind fun t550 => (if t550 = true then ((flyballref06_is.f k x1 3).bind fun t551 => (flyballref06_Mul.j1 k x0 x1 x2 t551)) else (flyballref06_Mul.j1 k x0 x1 x2 false))))) else ((flyballref06_is.f k x0 0).bind fun t552 => (if t552 = true then ((flyballref06_is.f k x1 3).bind fun t553 => (flyballref06_Mul.j1 k x0 x1 x2 t553)) else (flyballref06_Mul.j1 k x0 x1 x2 false)))))
def flyballref06_Mul.j1 : Nat → Int → Int → Int → Bool → Option (Int × Int)
  | 0, _, _, _, _ => none
  | k + 1, x0, x1, x2, x32 => if x32 = true then (some (9221120237041090560, 16)) else ((flyballref06_neg.f x0).bind fun t554 => ((flyballref06_neg.f x1).bind fun t555 => ((flyballref06_is.f k x0 3).bind fun t556 => (if t556 = true then (flyballref06_Mul.j2 k x0 x1 x2 (t554 != t555) true) else ((flyballref06_is.f k x1 3).bind fun t557 => (flyballref06_Mul.j2 k x0 x1 x2 (t554 != t555) t557))))))
def flyballref06_Mul.j2 : Nat → Int → Int → Int → Bool → Bool → Option (Int × Int)
  | 0, _, _, _, _, _ => none
  | k + 1, x0, x1, x2, x8, x43 => if x43 = true then ((flyballref06_inf.f x8).bind fun t558 => (some (t558, 0))) else ((flyballref04_Split.f k x0).bind fun bt559 => ((flyballref04_Split.f k x1).bind fun bt561 => ((flyballref06_bits.f k bt559.1).bind fun t563 => ((flyballref06_bits.f k bt561.1).bind fun t566 => ((flyballref01_Mul.f k t563 t566).bind fun t569 => ((flyballref05_Round.f k x8 t569 (wrap64 (bt559.2 + bt561.2)) false x2).bind fun bt572 => (some (bt572.1, bt572.2))))))))
end
def pattern_key.f (a0 : Int) : Option (Int) := if (a0 / 9223372036854775808) = 1 then (some (wrap64 (-(wrap64 (Go.bits .andNot .u64 a0 9223372036854775808))))) else (some (wrap64 (Go.bits .andNot .u64 a0 9223372036854775808)))
def pattern_Cmp.j0 : Nat → Int → Int → Bool → Option (Int × Bool)
  | 0, _, _, _ => none
  | k + 1, x0, x1, x13 => if x13 = true then (some (0, false)) else ((pattern_key.f x0).bind fun t666 => ((pattern_key.f x1).bind fun t667 => (if t666 < t667 then (some ((-1), true)) else (if t666 > t667 then (some (1, true)) else (some (0, true))))))
def pattern_Cmp.f (k : Nat) (a0 : Int) (a1 : Int) : Option (Int × Bool) := (pattern_nan.f k a0).bind fun t664 => (if t664 = true then (pattern_Cmp.j0 k a0 a1 true) else ((pattern_nan.f k a1).bind fun t665 => (pattern_Cmp.j0 k a0 a1 t665)))
def pattern_Less.f (k : Nat) (a0 : Int) (a1 : Int) : Option (Bool) := (pattern_Cmp.f k a0 a1).bind fun bt685 => (if bt685.2 = true then (some (decide (bt685.1 < 0))) else (some false))
def span_ninf.f (k : Nat)  : Option (Int) := (pattern_Inf.f k true).bind fun t712 => (some t712)
def span_inf.f (k : Nat)  : Option (Int) := (pattern_Inf.f k false).bind fun t713 => (some t713)
def span_atMost.f (k : Nat) (a0 : Int) (a1 : Int) : Option (Bool) := (pattern_Cmp.f k a0 a1).bind fun bt714 => (if bt714.2 = true then (some (decide (bt714.1 ≤ 0))) else (some false))
def span_none.f  : Option (Bool × Int × Int) := some (true, 0, 0)
def span_norm.f (k : Nat) (a0_0 : Bool) (a0_1 : Int) (a0_2 : Int) : Option (Bool × Int × Int) := if a0_0 = true then ((span_none.f).bind fun bt719 => (some (bt719.1, bt719.2.1, bt719.2.2))) else ((span_atMost.f k a0_1 a0_2).bind fun t722 => (if t722 = true then ((span_inf.f k).bind fun t723 => (if a0_1 = t723 then ((span_none.f).bind fun bt724 => (some (bt724.1, bt724.2.1, bt724.2.2))) else ((span_ninf.f k).bind fun t727 => (if a0_2 = t727 then ((span_none.f).bind fun bt728 => (some (bt728.1, bt728.2.1, bt728.2.2))) else ((pattern_Class.f k a0_1).bind fun c1 => ((pattern_Class.f k a0_2).bind fun c2 => (some (a0_0, (if c1 = 0 then 0 else a0_1), (if c2 = 0 then 0 else a0_2))))))))) else ((span_none.f).bind fun bt731 => (some (bt731.1, bt731.2.1, bt731.2.2)))))
def span_Make.f (k : Nat) (a0 : Int) (a1 : Int) : Option (Bool × Int × Int) := (span_norm.f k false a0 a1).bind fun bt718 => (some (bt718.1, bt718.2.1, bt718.2.2))
def span_Point.f (k : Nat) (a0 : Int) : Option (Bool × Int × Int) := (span_Make.f k a0 a0).bind fun bt722 => (some (bt722.1, bt722.2.1, bt722.2.2))
def span_All.f (k : Nat)  : Option (Bool × Int × Int) := (span_ninf.f k).bind fun t726 => ((span_inf.f k).bind fun t727 => ((span_Make.f k t726 t727).bind fun bt728 => (some (bt728.1, bt728.2.1, bt728.2.2))))
def span_Inside.f (k : Nat) (a0_0 : Bool) (a0_1 : Int) (a0_2 : Int) (a1_0 : Bool) (a1_1 : Int) (a1_2 : Int) : Option (Bool) := (span_norm.f k a0_0 a0_1 a0_2).bind fun bt733 => ((span_norm.f k a1_0 a1_1 a1_2).bind fun bt736 => (if bt733.1 = true then (some true) else (if bt736.1 = true then (some false) else ((span_atMost.f k bt736.2.1 bt733.2.1).bind fun t739 => (if t739 = true then ((span_atMost.f k bt733.2.2 bt736.2.2).bind fun t740 => (some t740)) else (some false))))))
def span_Has.f (k : Nat) (a0_0 : Bool) (a0_1 : Int) (a0_2 : Int) (a1 : Int) : Option (Bool) := (pattern_Class.f k a1).bind fun t742 => (if t742 = 3 then (some false) else ((span_Point.f k a1).bind fun bt743 => (if bt743.1 = true then (some false) else ((span_Point.f k a1).bind fun bt746 => ((span_Inside.f k bt746.1 bt746.2.1 bt746.2.2 a0_0 a0_1 a0_2).bind fun t749 => (some t749))))))
def pattern_Min.f (k : Nat) (l0 : List Int) : Option Int :=
  match l0 with
  | [x, y] => (pattern_nan.f k x).bind fun t => if t = true then none else (pattern_Less.f k x x).bind fun _ => (pattern_nan.f k y).bind fun u => if u = true then none else (pattern_Less.f k y x).bind fun b => some (if b = true then y else x)
  | _ => none
def pattern_Max.f (k : Nat) (l0 : List Int) : Option Int :=
  match l0 with
  | [x, y] => (pattern_nan.f k x).bind fun t => if t = true then none else (pattern_Less.f k x x).bind fun _ => (pattern_nan.f k y).bind fun u => if u = true then none else (pattern_Less.f k x y).bind fun b => some (if b = true then y else x)
  | _ => none
def span_Join.l0 : Nat → List (S43) → Int → Int → Bool → Int → Int → Option (Bool × Int × Int)
  | 0, _, _, _, _, _, _ => none
  | k + 1, x7, x8, x9, x755000, x755001, x755002 => if x9 < x8 then (if 0 ≤ x9 then (if x9 < (x7.length : Int) then ((span_norm.f k ((rd_T43 x7 x9).f0) ((rd_T43 x7 x9).f1) ((rd_T43 x7 x9).f2)).bind fun bt757 => (if bt757.1 = true then (span_Join.l0 k x7 x8 (wrap64 (x9 + 1)) x755000 x755001 x755002) else (if x755000 = true then (span_Join.l0 k x7 x8 (wrap64 (x9 + 1)) bt757.1 bt757.2.1 bt757.2.2) else ((pattern_Min.f k (([x755001, bt757.2.1] : List Int))).bind fun t763 => ((pattern_Max.f k (([x755002, bt757.2.2] : List Int))).bind fun t767 => ((span_Make.f k t763 t767).bind fun bt768 => (span_Join.l0 k x7 x8 (wrap64 (x9 + 1)) bt768.1 bt768.2.1 bt768.2.2))))))) else (none)) else (none)) else (some (x755000, x755001, x755002))
def span_Join.f (k : Nat) (l0 : List (S43)) : Option (Bool × Int × Int) := (span_none.f).bind fun bt751 => (span_Join.l0 k l0 (l0.length : Int) 0 bt751.1 bt751.2.1 bt751.2.2)
def span_Meet.j0 : Nat → Bool → Bool → Int → Int → Bool → Int → Int → Option (Bool × Int × Int)
  | 0, _, _, _, _, _, _, _ => none
  | k + 1, x14, x772000, x772001, x772002, x773000, x773001, x773002 => if x14 = true then ((span_none.f).bind fun bt780 => (some (bt780.1, bt780.2.1, bt780.2.2))) else ((pattern_Max.f k (([x772001, x773001] : List Int))).bind fun t786 => ((pattern_Min.f k (([x772002, x773002] : List Int))).bind fun t790 => ((span_Make.f k t786 t790).bind fun bt791 => (some (bt791.1, bt791.2.1, bt791.2.2)))))
def span_Meet.f (k : Nat) (a0_0 : Bool) (a0_1 : Int) (a0_2 : Int) (a1_0 : Bool) (a1_1 : Int) (a1_2 : Int) : Option (Bool × Int × Int) := (span_norm.f k a0_0 a0_1 a0_2).bind fun bt774 => ((span_norm.f k a1_0 a1_1 a1_2).bind fun bt777 => (if bt774.1 = true then (span_Meet.j0 k true bt774.1 bt774.2.1 bt774.2.2 bt777.1 bt777.2.1 bt777.2.2) else (span_Meet.j0 k bt777.1 bt774.1 bt774.2.1 bt774.2.2 bt777.1 bt777.2.1 bt777.2.2)))
def span_Neg.f (k : Nat) (a0_0 : Bool) (a0_1 : Int) (a0_2 : Int) : Option (Bool × Int × Int) := (span_norm.f k a0_0 a0_1 a0_2).bind fun bt796 => (if bt796.1 = true then (some (bt796.1, bt796.2.1, bt796.2.2)) else ((pattern_Neg.f k bt796.2.2).bind fun t799 => ((pattern_Neg.f k bt796.2.1).bind fun t800 => ((span_Make.f k t799 t800).bind fun bt801 => (some (bt801.1, bt801.2.1, bt801.2.2))))))
def span_Abs.j0 : Nat → Bool → Bool → Int → Int → Option (Bool × Int × Int)
  | 0, _, _, _, _ => none
  | k + 1, x5, x805000, x805001, x805002 => if x5 = true then (some (x805000, x805001, x805002)) else ((span_atMost.f k x805002 0).bind fun t810 => (if t810 = true then ((span_Neg.f k x805000 x805001 x805002).bind fun bt811 => (some (bt811.1, bt811.2.1, bt811.2.2))) else ((pattern_Neg.f k x805001).bind fun t814 => ((pattern_Max.f k (([t814, x805002] : List Int))).bind fun t818 => ((span_Make.f k 0 t818).bind fun bt819 => (some (bt819.1, bt819.2.1, bt819.2.2)))))))
def span_Abs.f (k : Nat) (a0_0 : Bool) (a0_1 : Int) (a0_2 : Int) : Option (Bool × Int × Int) := (span_norm.f k a0_0 a0_1 a0_2).bind fun bt806 => (if bt806.1 = true then (span_Abs.j0 k bt806.1 bt806.1 bt806.2.1 bt806.2.2) else ((span_atMost.f k 0 bt806.2.1).bind fun t809 => (span_Abs.j0 k t809 bt806.1 bt806.2.1 bt806.2.2)))
def span_Most.f (k : Nat) (a0_0 : Bool) (a0_1 : Int) (a0_2 : Int) : Option (Int) := (span_Abs.f k a0_0 a0_1 a0_2).bind fun bt823 => (some bt823.2.2)
def pattern_Next.j0 : Nat → Int → Bool → Option (Int)
  | 0, _, _ => none
  | k + 1, x0, x3 => if x3 = true then (some x0) else ((pattern_key.f x0).bind fun t828 => (if t828 = 0 then (some 1) else (if (x0 / 9223372036854775808) = 1 then (some (IntKind.u64.wrap (x0 - 1))) else (some (IntKind.u64.wrap (x0 + 1))))))
def pattern_Next.f (k : Nat) (a0 : Int) : Option (Int) := (pattern_nan.f k a0).bind fun t826 => (if t826 = true then (pattern_Next.j0 k a0 t826) else ((pattern_Inf.f k false).bind fun t827 => (pattern_Next.j0 k a0 (a0 == t827))))
def pattern_Prev.f (k : Nat) (a0 : Int) : Option (Int) := (pattern_Neg.f k a0).bind fun t829 => ((pattern_Next.f k t829).bind fun t830 => ((pattern_Neg.f k t830).bind fun t831 => (some t831)))
mutual
def span_side.j1 : Nat → Int → Bool → Bool → Int → Int → Option (Bool × Int × Int)
  | 0, _, _, _, _, _ => none
  | k + 1, x1, x2, x833000, x833001, x833002 => if x2 = true then ((span_inf.f k).bind fun t837 => ((span_Make.f k x1 t837).bind fun bt838 => ((span_Meet.f k x833000 x833001 x833002 bt838.1 bt838.2.1 bt838.2.2).bind fun bt841 => (some (bt841.1, bt841.2.1, bt841.2.2))))) else ((span_ninf.f k).bind fun t844 => ((span_Make.f k t844 x1).bind fun bt845 => ((span_Meet.f k x833000 x833001 x833002 bt845.1 bt845.2.1 bt845.2.2).bind fun bt848 => (some (bt848.1, bt848.2.1, bt848.2.2)))))
def span_side.j0 : Nat → Int → Bool → Bool → Bool → Bool → Bool → Int → Int → Option (Bool × Int × Int)
  | 0, _, _, _, _, _, _, _, _ => none
  | k + 1, x1, x2, x3, x9, x13, x833000, x833001, x833002 => if x13 = true then ((pattern_Next.f k x1).bind fun t835 => (span_side.j1 k t835 x2 x833000 x833001 x833002)) else (if x3 = true then (if x9 = true then ((pattern_Prev.f k x1).bind fun t836 => (span_side.j1 k t836 x2 x833000 x833001 x833002)) else (span_side.j1 k x1 x2 x833000 x833001 x833002)) else (span_side.j1 k x1 x2 x833000 x833001 x833002))
end
def span_side.f (k : Nat) (a0_0 : Bool) (a0_1 : Int) (a0_2 : Int) (a1 : Int) (a2 : Bool) (a3 : Bool) : Option (Bool × Int × Int) := (pattern_Class.f k a1).bind fun t834 => (if a2 = true then (if a3 = true then (span_side.j0 k a1 a2 a3 (t834 != 3) (t834 != 3) a0_0 a0_1 a0_2) else (span_side.j0 k a1 a2 a3 (t834 != 3) false a0_0 a0_1 a0_2)) else (span_side.j0 k a1 a2 a3 (t834 != 3) false a0_0 a0_1 a0_2))
def span_without.f (k : Nat) (a0_0 : Bool) (a0_1 : Int) (a0_2 : Int) (a1_0 : Bool) (a1_1 : Int) (a1_2 : Int) : Option (Bool × Int × Int) := if a1_1 = a1_2 then (if a0_1 = a1_1 then ((span_side.f k a0_0 a0_1 a0_2 a1_1 true true).bind fun bt854 => (if bt854.2.2 = a1_1 then (if bt854.1 = true then (some (bt854.1, bt854.2.1, bt854.2.2)) else ((span_side.f k bt854.1 bt854.2.1 bt854.2.2 a1_1 false true).bind fun bt857 => (some (bt857.1, bt857.2.1, bt857.2.2)))) else (some (bt854.1, bt854.2.1, bt854.2.2)))) else (if a0_2 = a1_1 then (if a0_0 = true then (some (a0_0, a0_1, a0_2)) else ((span_side.f k a0_0 a0_1 a0_2 a1_1 false true).bind fun bt860 => (some (bt860.1, bt860.2.1, bt860.2.2)))) else (some (a0_0, a0_1, a0_2)))) else (some (a0_0, a0_1, a0_2))
mutual
def span_Test.j0 : Nat → Int → Bool → Bool → Int → Int → Bool → Int → Int → Option (Bool × Int × Int × Bool × Int × Int)
  | 0, _, _, _, _, _, _, _, _ => none
  | k + 1, x0, x20, x864000, x864001, x864002, x865000, x865001, x865002 => if x20 = true then ((span_none.f).bind fun bt873 => ((span_none.f).bind fun bt876 => (some (bt873.1, bt873.2.1, bt873.2.2, bt876.1, bt876.2.1, bt876.2.2)))) else (if x0 = 9 then (span_Test.j1 k x0 true x864000 x864001 x864002 x865000 x865001 x865002 x864000 x864001 x864002 x865000 x865001 x865002) else (span_Test.j1 k x0 (x0 == 13) x864000 x864001 x864002 x865000 x865001 x865002 x864000 x864001 x864002 x865000 x865001 x865002))
def span_Test.j1 : Nat → Int → Bool → Bool → Int → Int → Bool → Int → Int → Bool → Int → Int → Bool → Int → Int → Option (Bool × Int × Int × Bool × Int × Int)
  | 0, _, _, _, _, _, _, _, _, _, _, _, _, _, _ => none
  | k + 1, x0, x10, x864000, x864001, x864002, x865000, x865001, x865002, x880000, x880001, x880002, x881000, x881001, x881002 => if x0 = 9 then (span_Test.j2 k x10 x0 (x0 == 9) x864000 x864001 x864002 x865000 x865001 x865002 x880000 x880001 x880002 x881000 x881001 x881002) else (span_Test.j2 k x10 x0 (x0 == 10) x864000 x864001 x864002 x865000 x865001 x865002 x880000 x880001 x880002 x881000 x881001 x881002)
def span_Test.j4 : Nat → Bool → Int → Int → Bool → Int → Int → Option (Bool × Int × Int × Bool × Int × Int)
  | 0, _, _, _, _, _, _ => none
  | k + 1, x880000, x880001, x880002, x881000, x881001, x881002 => if x880000 = true then (span_Test.j5 k true x880000 x880001 x880002 x881000 x881001 x881002) else (span_Test.j5 k x881000 x880000 x880001 x880002 x881000 x881001 x881002)
def span_Test.j5 : Nat → Bool → Bool → Int → Int → Bool → Int → Int → Option (Bool × Int × Int × Bool × Int × Int)
  | 0, _, _, _, _, _, _, _ => none
  | k + 1, x77, x880000, x880001, x880002, x881000, x881001, x881002 => if x77 = true then ((span_none.f).bind fun bt902 => ((span_none.f).bind fun bt905 => (some (bt902.1, bt902.2.1, bt902.2.2, bt905.1, bt905.2.1, bt905.2.2)))) else (some (x880000, x880001, x880002, x881000, x881001, x881002))
def span_Test.j2 : Nat → Bool → Int → Bool → Bool → Int → Int → Bool → Int → Int → Bool → Int → Int → Bool → Int → Int → Option (Bool × Int × Int × Bool × Int × Int)
  | 0, _, _, _, _, _, _, _, _, _, _, _, _, _, _, _ => none
  | k + 1, x10, x31, x32, x864000, x864001, x864002, x865000, x865001, x865002, x880000, x880001, x880002, x881000, x881001, x881002 => if x32 = true then ((span_side.f k x864000 x864001 x864002 x865002 false x10).bind fun bt881 => ((span_side.f k x865000 x865001 x865002 x864001 true x10).bind fun bt884 => (span_Test.j4 k bt881.1 bt881.2.1 bt881.2.2 bt884.1 bt884.2.1 bt884.2.2))) else (if x31 = 13 then (span_Test.j3 k x10 x31 (x31 == 13) x864000 x864001 x864002 x865000 x865001 x865002 x880000 x880001 x880002 x881000 x881001 x881002) else (span_Test.j3 k x10 x31 (x31 == 14) x864000 x864001 x864002 x865000 x865001 x865002 x880000 x880001 x880002 x881000 x881001 x881002))
def span_Test.j3 : Nat → Bool → Int → Bool → Bool → Int → Int → Bool → Int → Int → Bool → Int → Int → Bool → Int → Int → Option (Bool × Int × Int × Bool × Int × Int)
  | 0, _, _, _, _, _, _, _, _, _, _, _, _, _, _, _ => none
  | k + 1, x10, x31, x45, x864000, x864001, x864002, x865000, x865001, x865002, x880000, x880001, x880002, x881000, x881001, x881002 => if x45 = true then ((span_side.f k x864000 x864001 x864002 x865001 true x10).bind fun bt887 => ((span_side.f k x865000 x865001 x865002 x864002 false x10).bind fun bt890 => (span_Test.j4 k bt887.1 bt887.2.1 bt887.2.2 bt890.1 bt890.2.1 bt890.2.2))) else (if x31 = 11 then ((span_Meet.f k x864000 x864001 x864002 x865000 x865001 x865002).bind fun bt893 => (span_Test.j4 k bt893.1 bt893.2.1 bt893.2.2 bt893.1 bt893.2.1 bt893.2.2)) else (if x31 = 12 then ((span_without.f k x864000 x864001 x864002 x865000 x865001 x865002).bind fun bt896 => ((span_without.f k x865000 x865001 x865002 x864000 x864001 x864002).bind fun bt899 => (span_Test.j4 k bt896.1 bt896.2.1 bt896.2.2 bt899.1 bt899.2.1 bt899.2.2))) else (span_Test.j4 k x880000 x880001 x880002 x881000 x881001 x881002)))
end
def span_Test.f (k : Nat) (a0 : Int) (a1_0 : Bool) (a1_1 : Int) (a1_2 : Int) (a2_0 : Bool) (a2_1 : Int) (a2_2 : Int) : Option (Bool × Int × Int × Bool × Int × Int) := (span_norm.f k a1_0 a1_1 a1_2).bind fun bt867 => ((span_norm.f k a2_0 a2_1 a2_2).bind fun bt870 => (if bt867.1 = true then (span_Test.j0 k a0 true bt867.1 bt867.2.1 bt867.2.2 bt870.1 bt870.2.1 bt870.2.2) else (span_Test.j0 k a0 bt870.1 bt867.1 bt867.2.1 bt867.2.2 bt870.1 bt870.2.1 bt870.2.2)))
def span_outer.f (k : Nat) (a0 : Int) (a1 : Int) : Option (Bool × Int × Int) := (span_inf.f k).bind fun t909 => (if a0 = t909 then ((pattern_Prev.f k a0).bind fun t910 => ((span_Make.f k t910 a1).bind fun bt911 => (some (bt911.1, bt911.2.1, bt911.2.2)))) else ((span_ninf.f k).bind fun t914 => (if a1 = t914 then ((pattern_Next.f k a1).bind fun t915 => ((span_Make.f k a0 t915).bind fun bt916 => (some (bt916.1, bt916.2.1, bt916.2.2)))) else ((span_Make.f k a0 a1).bind fun bt919 => (some (bt919.1, bt919.2.1, bt919.2.2))))))
def span_zero.f (k : Nat) (a0 : Int) : Option (Bool) := (pattern_Class.f k a0).bind fun t922 => (some (t922 == 0))
def span_Mul_1.f (k : Nat) (a0 : Int) (a1 : Int) (a2 : Int) : Option (Int) := (span_zero.f k a0).bind fun t923 => (if t923 = true then (some 0) else ((span_zero.f k a1).bind fun t924 => (if t924 = true then (some 0) else ((soft_Mul.f k a0 a1 a2).bind fun bt925 => (some bt925.1)))))
mutual
def span_Mul_corners.l0 : Nat → List Int → Int → Int → Bool → Int → Int → Bool → Int → Int → Option (Bool × Int × Int)
 | 0, _, _, _, _, _, _, _, _, _ => none
 | k + 1, x17, x18, x19, x929000, x929001, x929002, x934000, x934001, x934002 => if x19 < x18 then (if 0 ≤ x19 then (if x19 < (x17.length : Int) then ((some (([x929001, x929002] : List Int) : List Int)).bind fun y938 => (span_Mul_corners.l1 k (rd x17 x19) x17 x18 x19 y938 (y938.length : Int) 0 x929000 x929001 x929002 x934000 x934001 x934002)) else (none)) else (none)) else (some (x934000, x934001, x934002))
def span_Mul_corners.l1 : Nat → Int → List Int → Int → Int → List Int → Int → Int → Bool → Int → Int → Bool → Int → Int → Option (Bool × Int × Int)
 | 0, _, _, _, _, _, _, _, _, _, _, _, _, _ => none
 | k + 1, x9, x17, x18, x19, x27, x28, x29, x929000, x929001, x929002, x934000, x934001, x934002 => if x29 < x28 then (if 0 ≤ x29 then (if x29 < (x27.length : Int) then ((span_Mul_1.f k x9 (rd x27 x29) 2).bind fun t942 => ((span_Mul_1.f k x9 (rd x27 x29) 1).bind fun t943 => ((span_outer.f k t942 t943).bind fun bt944 => ((span_Join.f k (([(⟨x934000, x934001, x934002⟩ : S43), (⟨bt944.1, bt944.2.1, bt944.2.2⟩ : S43)] : List (S43)))).bind fun bt950 => (span_Mul_corners.l1 k x9 x17 x18 x19 x27 x28 (wrap64 (x29 + 1)) x929000 x929001 x929002 bt950.1 bt950.2.1 bt950.2.2))))) else (none)) else (none)) else (span_Mul_corners.l0 k x17 x18 (wrap64 (x19 + 1)) x929000 x929001 x929002 x934000 x934001 x934002)
end
def span_Mul_corners.f (k : Nat) (a0_0 : Bool) (a0_1 : Int) (a0_2 : Int) (a1_0 : Bool) (a1_1 : Int) (a1_2 : Int) (a2 : Int) : Option (Bool × Int × Int) := (span_none.f).bind fun bt930 => ((some (([a0_1, a0_2] : List Int) : List Int)).bind fun y934 => (span_Mul_corners.l0 k y934 (y934.length : Int) 0 a1_0 a1_1 a1_2 bt930.1 bt930.2.1 bt930.2.2))
def span_Mul.j0 : Nat → Bool → Bool → Int → Int → Bool → Int → Int → Option (Bool × Int × Int)
 | 0, _, _, _, _, _, _, _ => none
 | k + 1, x14, x954000, x954001, x954002, x955000, x955001, x955002 => if x14 = true then ((span_none.f).bind fun bt962 => (some (bt962.1, bt962.2.1, bt962.2.2))) else ((span_Mul_corners.f k x954000 x954001 x954002 x955000 x955001 x955002 0).bind fun bt965 => (some (bt965.1, bt965.2.1, bt965.2.2)))
def span_Mul.f (k : Nat) (a0_0 : Bool) (a0_1 : Int) (a0_2 : Int) (a1_0 : Bool) (a1_1 : Int) (a1_2 : Int) : Option (Bool × Int × Int) := (span_norm.f k a0_0 a0_1 a0_2).bind fun bt956 => ((span_norm.f k a1_0 a1_1 a1_2).bind fun bt959 => (if bt956.1 = true then (span_Mul.j0 k true bt956.1 bt956.2.1 bt956.2.2 bt959.1 bt959.2.1 bt959.2.2) else (span_Mul.j0 k bt959.1 bt956.1 bt956.2.1 bt956.2.2 bt959.1 bt959.2.1 bt959.2.2)))
mutual
def span_above_1.j0 : Nat → Int → Int → Int → Bool → Bool → Option (Int)
  | 0, _, _, _, _, _ => none
  | k + 1, x0, x1, x2, x7, x13 => if x13 = true then (some 0) else (if x7 = true then (span_above_1.j1 k x0 x1 x2 x7) else ((span_zero.f k x1).bind fun t930 => (span_above_1.j1 k x0 x1 x2 t930)))
def span_above_1.j1 : Nat → Int → Int → Int → Bool → Option (Int)
  | 0, _, _, _, _ => none
  | k + 1, x0, x1, x2, x22 => if x22 = true then ((pattern_Inf.f k ((x0 / 9223372036854775808) == 1)).bind fun t931 => (some t931)) else ((soft_Div.f k x0 x1 x2).bind fun bt932 => (some bt932.1))
end
def span_above_1.f (k : Nat) (a0 : Int) (a1 : Int) (a2 : Int) : Option (Int) := (pattern_Class.f k a1).bind fun t927 => ((span_zero.f k a0).bind fun t928 => (if t928 = true then (span_above_1.j0 k a0 a1 a2 (t927 == 3) t928) else (if t927 = 3 then ((pattern_Class.f k a0).bind fun t929 => (span_above_1.j0 k a0 a1 a2 (t927 == 3) (t929 != 3))) else (span_above_1.j0 k a0 a1 a2 (t927 == 3) false))))
mutual
def span_above_corners.l0 : Nat → List Int → Int → Int → Bool → Int → Int → Bool → Int → Int → Option (Bool × Int × Int)
 | 0, _, _, _, _, _, _, _, _, _ => none
 | k + 1, x17, x18, x19, x932000, x932001, x932002, x937000, x937001, x937002 => if x19 < x18 then (if 0 ≤ x19 then (if x19 < (x17.length : Int) then ((some (([x932001, x932002] : List Int) : List Int)).bind fun y941 => (span_above_corners.l1 k (rd x17 x19) x17 x18 x19 y941 (y941.length : Int) 0 x932000 x932001 x932002 x937000 x937001 x937002)) else (none)) else (none)) else (some (x937000, x937001, x937002))
def span_above_corners.l1 : Nat → Int → List Int → Int → Int → List Int → Int → Int → Bool → Int → Int → Bool → Int → Int → Option (Bool × Int × Int)
 | 0, _, _, _, _, _, _, _, _, _, _, _, _, _ => none
 | k + 1, x9, x17, x18, x19, x27, x28, x29, x932000, x932001, x932002, x937000, x937001, x937002 => if x29 < x28 then (if 0 ≤ x29 then (if x29 < (x27.length : Int) then ((span_above_1.f k x9 (rd x27 x29) 2).bind fun t945 => ((span_above_1.f k x9 (rd x27 x29) 1).bind fun t946 => ((span_outer.f k t945 t946).bind fun bt947 => ((span_Join.f k (([(⟨x937000, x937001, x937002⟩ : S43), (⟨bt947.1, bt947.2.1, bt947.2.2⟩ : S43)] : List (S43)))).bind fun bt953 => (span_above_corners.l1 k x9 x17 x18 x19 x27 x28 (wrap64 (x29 + 1)) x932000 x932001 x932002 bt953.1 bt953.2.1 bt953.2.2))))) else (none)) else (none)) else (span_above_corners.l0 k x17 x18 (wrap64 (x19 + 1)) x932000 x932001 x932002 x937000 x937001 x937002)
end
def span_above_corners.f (k : Nat) (a0_0 : Bool) (a0_1 : Int) (a0_2 : Int) (a1_0 : Bool) (a1_1 : Int) (a1_2 : Int) (a2 : Int) : Option (Bool × Int × Int) := (span_none.f).bind fun bt933 => ((some (([a0_1, a0_2] : List Int) : List Int)).bind fun y937 => (span_above_corners.l0 k y937 (y937.length : Int) 0 a1_0 a1_1 a1_2 bt933.1 bt933.2.1 bt933.2.2))
def span_above.f (k : Nat) (a0_0 : Bool) (a0_1 : Int) (a0_2 : Int) (a1_0 : Bool) (a1_1 : Int) (a1_2 : Int) : Option (Bool × Int × Int) := (span_above_corners.f k a0_0 a0_1 a0_2 a1_0 a1_1 a1_2 0).bind fun bt971 => (some (bt971.1, bt971.2.1, bt971.2.2))
mutual
def span_Div.j0 : Nat → Bool → Bool → Int → Int → Bool → Int → Int → Option (Bool × Int × Int)
  | 0, _, _, _, _, _, _, _ => none
  | k + 1, x15, x935000, x935001, x935002, x936000, x936001, x936002 => if x15 = true then ((span_none.f).bind fun bt943 => (some (bt943.1, bt943.2.1, bt943.2.2))) else ((span_none.f).bind fun bt946 => ((span_atMost.f k x936002 0).bind fun t950 => (if t950 = true then (span_Div.j1 k x935000 x935001 x935002 x936000 x936001 x936002 bt946.1 bt946.2.1 bt946.2.2) else ((span_inf.f k).bind fun t951 => ((span_Make.f k 0 t951).bind fun bt952 => ((span_Meet.f k x936000 x936001 x936002 bt952.1 bt952.2.1 bt952.2.2).bind fun bt955 => ((span_above.f k x935000 x935001 x935002 bt955.1 bt955.2.1 bt955.2.2).bind fun bt958 => (span_Div.j1 k x935000 x935001 x935002 x936000 x936001 x936002 bt958.1 bt958.2.1 bt958.2.2))))))))
def span_Div.j1 : Nat → Bool → Int → Int → Bool → Int → Int → Bool → Int → Int → Option (Bool × Int × Int)
  | 0, _, _, _, _, _, _, _, _, _ => none
  | k + 1, x935000, x935001, x935002, x936000, x936001, x936002, x950000, x950001, x950002 => (span_atMost.f k 0 x936001).bind fun t961 => (if t961 = true then (some (x950000, x950001, x950002)) else ((span_ninf.f k).bind fun t962 => ((span_Make.f k t962 0).bind fun bt963 => ((span_Meet.f k x936000 x936001 x936002 bt963.1 bt963.2.1 bt963.2.2).bind fun bt966 => ((span_Neg.f k bt966.1 bt966.2.1 bt966.2.2).bind fun bt969 => ((span_above.f k x935000 x935001 x935002 bt969.1 bt969.2.1 bt969.2.2).bind fun bt972 => ((span_Neg.f k bt972.1 bt972.2.1 bt972.2.2).bind fun bt975 => ((span_Join.f k (([(⟨x950000, x950001, x950002⟩ : S43), (⟨bt975.1, bt975.2.1, bt975.2.2⟩ : S43)] : List (S43)))).bind fun bt981 => (some (bt981.1, bt981.2.1, bt981.2.2))))))))))
end
def span_Div.f (k : Nat) (a0_0 : Bool) (a0_1 : Int) (a0_2 : Int) (a1_0 : Bool) (a1_1 : Int) (a1_2 : Int) : Option (Bool × Int × Int) := (span_norm.f k a0_0 a0_1 a0_2).bind fun bt937 => ((span_norm.f k a1_0 a1_1 a1_2).bind fun bt940 => (if bt937.1 = true then (span_Div.j0 k true bt937.1 bt937.2.1 bt937.2.2 bt940.1 bt940.2.1 bt940.2.2) else (span_Div.j0 k bt940.1 bt937.1 bt937.2.1 bt937.2.2 bt940.1 bt940.2.1 bt940.2.2)))
def flyballlaw16_works.f (k : Nat)  : Option (Bool) := (span_Make.f k 4607182418800017408 4611686018427387904).bind fun bt984 => ((span_Make.f k 13837309855095848960 4616189618054758400).bind fun bt987 => ((span_Mul.f k bt984.1 bt984.2.1 bt984.2.2 bt987.1 bt987.2.1 bt987.2.2).bind fun bt990 => ((span_Point.f k 4607182418800017408).bind fun bt994 => ((span_Make.f k 13830554455654793216 4611686018427387904).bind fun bt997 => ((span_Div.f k bt994.1 bt994.2.1 bt994.2.2 bt997.1 bt997.2.1 bt997.2.2).bind fun bt1000 => ((span_Point.f k 0).bind fun bt1004 => ((span_Make.f k 13830554455654793216 4611686018427387904).bind fun bt1007 => ((span_Div.f k bt1004.1 bt1004.2.1 bt1004.2.2 bt1007.1 bt1007.2.1 bt1007.2.2).bind fun bt1010 => ((span_Point.f k 4607182418800017408).bind fun bt1014 => ((span_Make.f k 0 4616189618054758400).bind fun bt1017 => ((span_Div.f k bt1014.1 bt1014.2.1 bt1014.2.2 bt1017.1 bt1017.2.1 bt1017.2.2).bind fun bt1020 => ((span_Make.f k 0 4616189618054758400).bind fun bt1024 => ((span_Make.f k 4607182418800017408 4611686018427387904).bind fun bt1027 => ((span_Test.f k 9 bt1024.1 bt1024.2.1 bt1024.2.2 bt1027.1 bt1027.2.1 bt1027.2.2).bind fun bt1030 => ((span_Make.f k 13841813454723219456 4620693217682128896).bind fun bt1038 => (if (bt990.1 == bt1038.1 && (bt990.2.1 == bt1038.2.1 && (bt990.2.2 == bt1038.2.2))) = true then ((span_All.f k).bind fun bt1041 => (if (bt1000.1 == bt1041.1 && (bt1000.2.1 == bt1041.2.1 && (bt1000.2.2 == bt1041.2.2))) = true then ((span_Point.f k 0).bind fun bt1044 => (if (bt1010.1 == bt1044.1 && (bt1010.2.1 == bt1044.2.1 && (bt1010.2.2 == bt1044.2.2))) = true then ((pattern_Inf.f k false).bind fun t1047 => ((span_Make.f k 4598175219545276416 t1047).bind fun bt1048 => (if (bt1020.1 == bt1048.1 && (bt1020.2.1 == bt1048.2.1 && (bt1020.2.2 == bt1048.2.2))) = true then ((span_Make.f k 0 4611686018427387903).bind fun bt1051 => (if (bt1030.1 == bt1051.1 && (bt1030.2.1 == bt1051.2.1 && (bt1030.2.2.1 == bt1051.2.2))) = true then ((span_Make.f k 4607182418800017408 4611686018427387904).bind fun bt1054 => (if (bt1030.2.2.2.1 == bt1054.1 && (bt1030.2.2.2.2.1 == bt1054.2.1 && (bt1030.2.2.2.2.2 == bt1054.2.2))) = true then ((span_Make.f k 4611686018427387904 4607182418800017408).bind fun bt1057 => (if bt1057.1 = true then ((span_Has.f k bt1030.1 bt1030.2.1 bt1030.2.2.1 4607182418800017408).bind fun t1060 => (if t1060 = true then ((span_Make.f k 0 4616189618054758400).bind fun bt1061 => ((span_Inside.f k bt1030.2.2.2.1 bt1030.2.2.2.2.1 bt1030.2.2.2.2.2 bt1061.1 bt1061.2.1 bt1061.2.2).bind fun t1064 => (if t1064 = true then ((span_Join.f k (([(⟨bt1030.1, bt1030.2.1, bt1030.2.2.1⟩ : S43), (⟨bt1030.2.2.2.1, bt1030.2.2.2.2.1, bt1030.2.2.2.2.2⟩ : S43)] : List (S43)))).bind fun bt1068 => ((span_Make.f k 0 4611686018427387904).bind fun bt1071 => (if (bt1068.1 == bt1071.1 && (bt1068.2.1 == bt1071.2.1 && (bt1068.2.2 == bt1071.2.2))) = true then ((span_Meet.f k bt1030.1 bt1030.2.1 bt1030.2.2.1 bt1030.2.2.2.1 bt1030.2.2.2.2.1 bt1030.2.2.2.2.2).bind fun bt1074 => ((span_Make.f k 4607182418800017408 4611686018427387903).bind fun bt1077 => (if (bt1074.1 == bt1077.1 && (bt1074.2.1 == bt1077.2.1 && (bt1074.2.2 == bt1077.2.2))) = true then ((span_Neg.f k bt1030.2.2.2.1 bt1030.2.2.2.2.1 bt1030.2.2.2.2.2).bind fun bt1080 => ((span_Most.f k bt1080.1 bt1080.2.1 bt1080.2.2).bind fun t1083 => (if t1083 = 4611686018427387904 then ((span_Make.f k 13830554455654793216 0).bind fun bt1084 => ((span_Abs.f k bt1084.1 bt1084.2.1 bt1084.2.2).bind fun bt1087 => ((span_Make.f k 0 4607182418800017408).bind fun bt1090 => (some (bt1087.1 == bt1090.1 && (bt1087.2.1 == bt1090.2.1 && (bt1087.2.2 == bt1090.2.2))))))) else (some false)))) else (some false)))) else (some false)))) else (some false)))) else (some false))) else (some false))) else (some false))) else (some false))) else (some false)))) else (some false))) else (some false))) else (some false)))))))))))))))))
def flyballref04_Key.f (a0 : Int) : Option (Int) := (flyballref04_Parts.f a0).bind fun bt1093 => (if bt1093.1 = true then (some (wrap64 (-(wrap64 ((wrap64 (bt1093.2.1 * 4503599627370496)) + (wrap64 (bt1093.2.2))))))) else (some (wrap64 ((wrap64 (bt1093.2.1 * 4503599627370496)) + (wrap64 (bt1093.2.2))))))
def flyballref04_Cmp.j0 : Nat → Int → Int → Bool → Option (Int × Bool)
  | 0, _, _, _ => none
  | k + 1, x0, x1, x15 => if x15 = true then (some (0, false)) else ((flyballref04_Key.f x0).bind fun t1098 => ((flyballref04_Key.f x1).bind fun t1099 => (if t1098 < t1099 then (some ((-1), true)) else (if t1098 > t1099 then (some (1, true)) else (some (0, true))))))
def flyballref04_Cmp.f (k : Nat) (a0 : Int) (a1 : Int) : Option (Int × Bool) := (flyballref04_Class.f k a0).bind fun t1096 => (if t1096 = 4 then (flyballref04_Cmp.j0 k a0 a1 true) else ((flyballref04_Class.f k a1).bind fun t1097 => (flyballref04_Cmp.j0 k a0 a1 (t1097 == 4))))
def flyballref16_le.f (k : Nat) (a0 : Int) (a1 : Int) : Option (Bool) := (flyballref04_Cmp.f k a0 a1).bind fun bt1100 => (if bt1100.2 = true then (some (decide (bt1100.1 ≤ 0))) else (some false))
def flyballref16_Norm.j0 : Nat → Bool → Bool → Int → Int → Option (Bool × Int × Int)
  | 0, _, _, _, _ => none
  | k + 1, x24, x1103000, x1103001, x1103002 => if x24 = true then (some (true, 0, 0)) else (if x1103001 = 9223372036854775808 then (if x1103002 = 9223372036854775808 then (some (x1103000, 0, 0)) else (some (x1103000, 0, x1103002))) else (if x1103002 = 9223372036854775808 then (some (x1103000, x1103001, 0)) else (some (x1103000, x1103001, x1103002))))
def flyballref16_Norm.f (k : Nat) (a0_0 : Bool) (a0_1 : Int) (a0_2 : Int) : Option (Bool × Int × Int) := (flyballref16_le.f k a0_1 a0_2).bind fun t1104 => (if a0_0 = true then (flyballref16_Norm.j0 k true a0_0 a0_1 a0_2) else (if t1104 = true then (if a0_1 = 9218868437227405312 then (flyballref16_Norm.j0 k true a0_0 a0_1 a0_2) else (flyballref16_Norm.j0 k (a0_2 == 18442240474082181120) a0_0 a0_1 a0_2)) else (flyballref16_Norm.j0 k true a0_0 a0_1 a0_2)))
def flyballref16_Join.f (k : Nat) (a0_0 : Bool) (a0_1 : Int) (a0_2 : Int) (a1_0 : Bool) (a1_1 : Int) (a1_2 : Int) : Option (Bool × Int × Int) := (flyballref16_Norm.f k a0_0 a0_1 a0_2).bind fun bt1133 => ((flyballref16_Norm.f k a1_0 a1_1 a1_2).bind fun bt1137 => (if bt1133.1 = true then (some (bt1137.1, bt1137.2.1, bt1137.2.2)) else (if bt1137.1 = true then (some (bt1133.1, bt1133.2.1, bt1133.2.2)) else ((flyballref16_le.f k bt1137.2.1 bt1133.2.1).bind fun t1141 => (if t1141 = true then ((flyballref16_le.f k bt1133.2.2 bt1137.2.2).bind fun t1142 => (if t1142 = true then (some (bt1133.1, bt1137.2.1, bt1137.2.2)) else (some (bt1133.1, bt1137.2.1, bt1133.2.2)))) else ((flyballref16_le.f k bt1133.2.2 bt1137.2.2).bind fun t1143 => (if t1143 = true then (some (bt1133.1, bt1133.2.1, bt1137.2.2)) else (some (bt1133.1, bt1133.2.1, bt1133.2.2)))))))))
mutual
def span_Widen.l0 : Nat → Int → Int → List Int → Int → Int → Bool → Int → Int → Bool → Int → Int → Option (Bool × Int × Int)
  | 0, _, _, _, _, _, _, _, _, _, _, _ => none
  | k + 1, x8, x9, x24, x25, x26, x1384000, x1384001, x1384002, x1399000, x1399001, x1399002 => if x26 < x25 then (if 0 ≤ x26 then (if x26 < (x24.length : Int) then ((span_atMost.f k (rd x24 x26) x1399001).bind fun t1402 => (if t1402 = true then ((span_atMost.f k x8 (rd x24 x26)).bind fun t1403 => (span_Widen.j1 k x8 x9 (rd x24 x26) x24 x25 x26 t1403 x1384000 x1384001 x1384002 x1399000 x1399001 x1399002)) else (span_Widen.j1 k x8 x9 (rd x24 x26) x24 x25 x26 false x1384000 x1384001 x1384002 x1399000 x1399001 x1399002))) else (none)) else (none)) else ((span_atMost.f k x1384001 x1399001).bind fun t1406 => (if t1406 = true then (span_Widen.j3 k x1399001 x9 x1384000 x1384001 x1384002 x1399000 x1399001 x1399002) else (span_Widen.j3 k x8 x9 x1384000 x1384001 x1384002 x1399000 x1399001 x1399002)))
def span_Widen.j1 : Nat → Int → Int → Int → List Int → Int → Int → Bool → Bool → Int → Int → Bool → Int → Int → Option (Bool × Int × Int)
  | 0, _, _, _, _, _, _, _, _, _, _, _, _, _ => none
  | k + 1, x8, x9, x11, x24, x25, x26, x38, x1384000, x1384001, x1384002, x1399000, x1399001, x1399002 => if x38 = true then (span_Widen.j2 k x11 x9 x11 x24 x25 x26 x1384000 x1384001 x1384002 x1399000 x1399001 x1399002) else (span_Widen.j2 k x8 x9 x11 x24 x25 x26 x1384000 x1384001 x1384002 x1399000 x1399001 x1399002)
def span_Widen.j2 : Nat → Int → Int → Int → List Int → Int → Int → Bool → Int → Int → Bool → Int → Int → Option (Bool × Int × Int)
  | 0, _, _, _, _, _, _, _, _, _, _, _, _ => none
  | k + 1, x8, x9, x11, x24, x25, x26, x1384000, x1384001, x1384002, x1399000, x1399001, x1399002 => (span_atMost.f k x1399002 x11).bind fun t1404 => (if t1404 = true then ((span_atMost.f k x11 x9).bind fun t1405 => (if t1405 = true then (span_Widen.l0 k x8 x11 x24 x25 (wrap64 (x26 + 1)) x1384000 x1384001 x1384002 x1399000 x1399001 x1399002) else (span_Widen.l0 k x8 x9 x24 x25 (wrap64 (x26 + 1)) x1384000 x1384001 x1384002 x1399000 x1399001 x1399002))) else (span_Widen.l0 k x8 x9 x24 x25 (wrap64 (x26 + 1)) x1384000 x1384001 x1384002 x1399000 x1399001 x1399002))
def span_Widen.j3 : Nat → Int → Int → Bool → Int → Int → Bool → Int → Int → Option (Bool × Int × Int)
  | 0, _, _, _, _, _, _, _, _ => none
  | k + 1, x8, x9, x1384000, x1384001, x1384002, x1399000, x1399001, x1399002 => (span_atMost.f k x1399002 x1384002).bind fun t1407 => (if t1407 = true then ((span_Make.f k x8 x1399002).bind fun bt1408 => (some (bt1408.1, bt1408.2.1, bt1408.2.2))) else ((span_Make.f k x8 x9).bind fun bt1411 => (some (bt1411.1, bt1411.2.1, bt1411.2.2))))
end
def span_Widen.f (k : Nat) (a0_0 : Bool) (a0_1 : Int) (a0_2 : Int) (a1_0 : Bool) (a1_1 : Int) (a1_2 : Int) (l2 : List Int) : Option (Bool × Int × Int) := (span_norm.f k a0_0 a0_1 a0_2).bind fun bt1386 => (if bt1386.1 = true then ((span_norm.f k a1_0 a1_1 a1_2).bind fun bt1389 => (some (bt1389.1, bt1389.2.1, bt1389.2.2))) else ((span_Join.f k (([(⟨bt1386.1, bt1386.2.1, bt1386.2.2⟩ : S43), (⟨a1_0, a1_1, a1_2⟩ : S43)] : List (S43)))).bind fun bt1395 => ((span_ninf.f k).bind fun t1399 => ((span_inf.f k).bind fun t1400 => (span_Widen.l0 k t1399 t1400 l2 (l2.length : Int) 0 bt1386.1 bt1386.2.1 bt1386.2.2 bt1395.1 bt1395.2.1 bt1395.2.2)))))
mutual
def flyballref16_Widen.j1 : Nat → List Int → Bool → Int → Int → Bool → Int → Int → Option (Bool × Int × Int)
  | 0, _, _, _, _, _, _, _ => none
  | k + 1, x2, x1421000, x1421001, x1421002, x1429000, x1429001, x1429002 => (flyballref16_le.f k x1429002 x1421002).bind fun t1435 => (if t1435 = true then ((flyballref16_Norm.f k x1429000 x1429001 x1429002).bind fun bt1436 => (some (bt1436.1, bt1436.2.1, bt1436.2.2))) else (flyballref16_Widen.l1 k x2 9218868437227405312 0 x1429000 x1429001 x1429002))
def flyballref16_Widen.l1 : Nat → List Int → Int → Int → Bool → Int → Int → Option (Bool × Int × Int)
  | 0, _, _, _, _, _, _ => none
  | k + 1, x2, x12, x13, x1429000, x1429001, x1429002 => if x13 < (x2.length : Int) then (if 0 ≤ x13 then ((flyballref16_le.f k x1429002 (rd x2 x13)).bind fun t1443 => (if t1443 = true then ((flyballref16_le.f k (rd x2 x13) x12).bind fun t1445 => (if t1445 = true then (flyballref16_Widen.l1 k x2 (rd x2 x13) (wrap64 (x13 + 1)) x1429000 x1429001 x1429002) else (flyballref16_Widen.l1 k x2 x12 (wrap64 (x13 + 1)) x1429000 x1429001 x1429002))) else (flyballref16_Widen.l1 k x2 x12 (wrap64 (x13 + 1)) x1429000 x1429001 x1429002))) else (none)) else ((flyballref16_Norm.f k x1429000 x1429001 x12).bind fun bt1439 => (some (bt1439.1, bt1439.2.1, bt1439.2.2)))
def flyballref16_Widen.l0 : Nat → List Int → Int → Int → Bool → Int → Int → Bool → Int → Int → Option (Bool × Int × Int)
  | 0, _, _, _, _, _, _, _, _, _ => none
  | k + 1, x2, x10, x11, x1421000, x1421001, x1421002, x1429000, x1429001, x1429002 => if x11 < (x2.length : Int) then (if 0 ≤ x11 then ((flyballref16_le.f k (rd x2 x11) x1429001).bind fun t1431 => (if t1431 = true then ((flyballref16_le.f k x10 (rd x2 x11)).bind fun t1433 => (if t1433 = true then (flyballref16_Widen.l0 k x2 (rd x2 x11) (wrap64 (x11 + 1)) x1421000 x1421001 x1421002 x1429000 x1429001 x1429002) else (flyballref16_Widen.l0 k x2 x10 (wrap64 (x11 + 1)) x1421000 x1421001 x1421002 x1429000 x1429001 x1429002))) else (flyballref16_Widen.l0 k x2 x10 (wrap64 (x11 + 1)) x1421000 x1421001 x1421002 x1429000 x1429001 x1429002))) else (none)) else (flyballref16_Widen.j1 k x2 x1421000 x1421001 x1421002 x1429000 x10 x1429002)
end
def flyballref16_Widen.f (k : Nat) (a0_0 : Bool) (a0_1 : Int) (a0_2 : Int) (a1_0 : Bool) (a1_1 : Int) (a1_2 : Int) (l2 : List Int) : Option (Bool × Int × Int) := (flyballref16_Norm.f k a0_0 a0_1 a0_2).bind fun bt1417 => ((flyballref16_Norm.f k a1_0 a1_1 a1_2).bind fun bt1421 => (if bt1417.1 = true then (some (bt1421.1, bt1421.2.1, bt1421.2.2)) else ((flyballref16_Join.f k bt1417.1 bt1417.2.1 bt1417.2.2 bt1421.1 bt1421.2.1 bt1421.2.2).bind fun bt1425 => ((flyballref16_le.f k bt1417.2.1 bt1425.2.1).bind fun t1429 => (if t1429 = true then (flyballref16_Widen.j1 k l2 bt1417.1 bt1417.2.1 bt1417.2.2 bt1425.1 bt1425.2.1 bt1425.2.2) else (flyballref16_Widen.l0 k l2 18442240474082181120 0 bt1417.1 bt1417.2.1 bt1417.2.2 bt1425.1 bt1425.2.1 bt1425.2.2))))))
def flyballlaw16_SpanWidens.f (k : Nat) (a0_0 : Bool) (a0_1 : Int) (a0_2 : Int) (a1_0 : Bool) (a1_1 : Int) (a1_2 : Int) (l2 : List Int) : Option (Bool) := (flyballlaw16_works.f k).bind fun t1449 => (if t1449 = true then (if (l2.length : Int) > 200 then (some t1449) else ((span_Widen.f k a0_0 a0_1 a0_2 a1_0 a1_1 a1_2 l2).bind fun bt1450 => ((flyballref16_Widen.f k a0_0 a0_1 a0_2 a1_0 a1_1 a1_2 l2).bind fun bt1454 => (if (bt1450.1 == bt1454.1 && (bt1450.2.1 == bt1454.2.1 && (bt1450.2.2 == bt1454.2.2))) = true then ((span_Inside.f k a0_0 a0_1 a0_2 bt1450.1 bt1450.2.1 bt1450.2.2).bind fun t1457 => (if t1457 = true then ((span_Inside.f k a1_0 a1_1 a1_2 bt1450.1 bt1450.2.1 bt1450.2.2).bind fun t1458 => (some t1458)) else (some false))) else (some false))))) else (some false))
end Go.Proofs.Ytmadjhmecfbcmaa.F
end
section
namespace Go.Proofs.Ytmadjhmecfbcmaa.F
open Go.RowKit Go.Proofs.YtmadjhmecfbcmaaW.PrintWords Go.Proofs.YtmadjhmecfbcmaaW.PrintLast Go.Proofs.YtmadjhmecfbcmaaW.PrintMore
attribute [local go_sem] max2_int min2_int max_two min_two max_three min_three max_four min_four
set_option linter.unusedVariables false
set_option linter.unusedSimpArgs false
def errW : Option Int → Value
 | none => .nilIface
 | some c => .iface 0 (.int .i64 c)
theorem errW_none : errW none = .nilIface := rfl
theorem errW_some (c : Int) : errW (some c) = .iface 0 (.int .i64 c) := rfl
theorem k43_open {w : World} {x : S43} {cs : List Value} (h : k43.K w x cs) : cs = [.bool x.f0, .int .u64 x.f1, .int .u64 x.f2] := by
 obtain ⟨_, _, rfl, rfl, ⟨_, _, rfl, rfl, rfl⟩⟩ := h
 exact rfl
theorem k43_mkM (w : World) (base : Nat) (ok : Nat → Prop) (x : S43)  : k43.M w base ok x [.bool x.f0, .int .u64 x.f1, .int .u64 x.f2] := ⟨[.bool x.f0], [.int .u64 x.f1, .int .u64 x.f2], rfl, rfl, ⟨[.int .u64 x.f1], [.int .u64 x.f2], rfl, rfl, rfl⟩⟩
theorem at_T43 {w : World} {A : Option Addr} {n : Nat} {xs : List S43} (h : Kd.C k43 w A n xs) (i : Int) (h0 : 0 ≤ i) (h1 : i < n) : ∃ ad , A = some ad ∧ w.cell? (ad.add (i.toNat * 3)) = some (.bool (rd_T43 xs i).f0) ∧ w.cell? ⟨(ad.add (i.toNat * 3)).block, (ad.add (i.toNat * 3)).off + 1, none⟩ = some (.int .u64 (rd_T43 xs i).f1) ∧ w.cell? ⟨(ad.add (i.toNat * 3)).block, (ad.add (i.toNat * 3)).off + 2, none⟩ = some (.int .u64 (rd_T43 xs i).f2) := by
 obtain ⟨ad, c, e, _, hK, hc0⟩ := Kd.C_get h z43 i h0 h1
 have hc : ∀ j u, c[j]? = some u → w.cell? (ad.add (i.toNat * 3 + j)) = some u := hc0
 obtain rfl := k43_open hK
 exact ⟨ad, e, hc 0 _ rfl, by rw [← add_field _ _ 1 (by omega)]; exact hc 1 _ rfl, by rw [← add_field _ _ 2 (by omega)]; exact hc 2 _ rfl⟩
end Go.Proofs.Ytmadjhmecfbcmaa.F
end
section
namespace Go.Proofs.Ytmadjhmecfbcmaa.F
open Go.RowKit Go.Proofs.YtmadjhmecfbcmaaW.PrintWords Go.Proofs.YtmadjhmecfbcmaaW.PrintLast Go.Proofs.YtmadjhmecfbcmaaW.PrintMore
section
variable {P : Program} {ops : Array Oper} {Q : Exit → Act → World → Prop} {rest : List Oper} {o : Oper} {a : Act} {w w' w1 W W' : World} {g n : Nat} {ob : Obj} {t : TypeId}
theorem gtc (f : FuncId) {as_ : Array Operand} {ts : Array TypeId} (_ho : o.op = .call { callee := .value (.func f), args := as_, argTypes := ts }) (h : wpList P ops Q (o :: rest) a W) : wpList P ops Q (o :: rest) a W := h
theorem gtd (N : Tmp) (_hN : o.dst = some N) (h : wpList P ops Q (o :: rest) a W) : wpList P ops Q (o :: rest) a W := h
theorem zkb (h : Aside0 (w.heap[g]? = some ob)) (hb : Below w'.heap.size w' w1) (k : Below w.heap.size w w' := by (first | exact Below.refl _ _ | (repeat (first | exact Below.refl _ _ | (with_reducible first | apply pw_below_drewN | apply below_drew1 | apply below_alloc))))) : Aside0 (w1.heap[g]? = some ob) := ⟨blk_below (blk_below h.out k) hb⟩
theorem zkq (h : Aside0 (w.heap[g]? = some ob)) (k : Below w.heap.size w w' := by (first | exact Below.refl _ _ | (repeat (first | exact Below.refl _ _ | (with_reducible first | apply pw_below_drewN | apply below_drew1 | apply below_alloc))))) : w'.heap[g]? = some ob := blk_below h.out k
theorem zkB (h : Aside0 (Below w.heap.size w W)) (hb : Below W'.heap.size W' w1) (k : Below W.heap.size W W' := by (first | exact Below.refl _ _ | (repeat (first | exact Below.refl _ _ | (with_reducible first | apply pw_below_drewN | apply below_drew1 | apply below_alloc))))) : Aside0 (Below w.heap.size w w1) := ⟨below_step (below_step h.out k) hb⟩
theorem zkl (h : Aside0 (w.heap[g]? = some ob)) (hg : n = w'.heap.size) (k : Below w.heap.size w w' := by (first | exact Below.refl _ _ | (repeat (first | exact Below.refl _ _ | (with_reducible first | apply pw_below_drewN | apply below_drew1 | apply below_alloc))))) : Aside0 (g ≠ n) := ⟨by rw [hg]; exact Nat.ne_of_lt (blk_lt (zkq h k))⟩
theorem zkr (h : Aside0 (w.heap[g]? = some ob)) (hg : n = w'.heap.size) (k : Below w.heap.size w w' := by (first | exact Below.refl _ _ | (repeat (first | exact Below.refl _ _ | (with_reducible first | apply pw_below_drewN | apply below_drew1 | apply below_alloc))))) : Aside0 (n ≠ g) := ⟨(zkl h hg k).out.symm⟩
theorem zkz (h : Aside0 (Below w.heap.size w W)) (hg : n = W'.heap.size) (k : Below W.heap.size W W' := by (first | exact Below.refl _ _ | (repeat (first | exact Below.refl _ _ | (with_reducible first | apply pw_below_drewN | apply below_drew1 | apply below_alloc))))) : Aside0 (w.heap.size ≤ n) := ⟨by rw [hg]; exact below_size (below_step h.out k)⟩
theorem zkZ (hg : n = W.heap.size) (h : Below w.heap.size w W) : Aside0 (w.heap.size ≤ n) := ⟨by rw [hg]; exact below_size h⟩
variable {v0 v1 v2 v3 v4 v5 v6 v7 : Value} {l : List Value}
theorem zc0 (h : Aside0 (w.heap[g]? = some (.cells (v0 :: l).toArray t (0, 0)))) : w.cell? ⟨g, 0, none⟩ = some v0 := (blk_cell h.out 0).trans rfl
theorem zc1 (h : Aside0 (w.heap[g]? = some (.cells (v0 :: v1 :: l).toArray t (0, 0)))) : w.cell? ⟨g, 1, none⟩ = some v1 := (blk_cell h.out 1).trans rfl
theorem zc2 (h : Aside0 (w.heap[g]? = some (.cells (v0 :: v1 :: v2 :: l).toArray t (0, 0)))) : w.cell? ⟨g, 2, none⟩ = some v2 := (blk_cell h.out 2).trans rfl
theorem zc3 (h : Aside0 (w.heap[g]? = some (.cells (v0 :: v1 :: v2 :: v3 :: l).toArray t (0, 0)))) : w.cell? ⟨g, 3, none⟩ = some v3 := (blk_cell h.out 3).trans rfl
theorem zc4 (h : Aside0 (w.heap[g]? = some (.cells (v0 :: v1 :: v2 :: v3 :: v4 :: l).toArray t (0, 0)))) : w.cell? ⟨g, 4, none⟩ = some v4 := (blk_cell h.out 4).trans rfl
theorem ze2 (h : Aside0 (w.heap[g]? = some (.cells (v0 :: v1 :: l).toArray t (0, 0)))) : w.cell? ⟨g, 0, none⟩ = some v0 ∧ w.cell? ⟨g, 1, none⟩ = some v1 := ⟨zc0 h, zc1 h⟩
theorem zk3 {R : Prop} (h : Aside0 (w.heap[g]? = some (.cells (v0 :: v1 :: v2 :: l).toArray t (0, 0)))) (r : R) : w.cell? ⟨g, 0, none⟩ = some v0 ∧ w.cell? ⟨g, 1, none⟩ = some v1 ∧ w.cell? ⟨g, 2, none⟩ = some v2 ∧ R := ⟨zc0 h, zc1 h, zc2 h, r⟩
theorem ze3 (h : Aside0 (w.heap[g]? = some (.cells (v0 :: v1 :: v2 :: l).toArray t (0, 0)))) : w.cell? ⟨g, 0, none⟩ = some v0 ∧ w.cell? ⟨g, 1, none⟩ = some v1 ∧ w.cell? ⟨g, 2, none⟩ = some v2 := ⟨zc0 h, zc1 h, zc2 h⟩
theorem zk5 {R : Prop} (h : Aside0 (w.heap[g]? = some (.cells (v0 :: v1 :: v2 :: v3 :: v4 :: l).toArray t (0, 0)))) (r : R) : w.cell? ⟨g, 0, none⟩ = some v0 ∧ w.cell? ⟨g, 1, none⟩ = some v1 ∧ w.cell? ⟨g, 2, none⟩ = some v2 ∧ w.cell? ⟨g, 3, none⟩ = some v3 ∧ w.cell? ⟨g, 4, none⟩ = some v4 ∧ R := ⟨zc0 h, zc1 h, zc2 h, zc3 h, zc4 h, r⟩
theorem ze5 (h : Aside0 (w.heap[g]? = some (.cells (v0 :: v1 :: v2 :: v3 :: v4 :: l).toArray t (0, 0)))) : w.cell? ⟨g, 0, none⟩ = some v0 ∧ w.cell? ⟨g, 1, none⟩ = some v1 ∧ w.cell? ⟨g, 2, none⟩ = some v2 ∧ w.cell? ⟨g, 3, none⟩ = some v3 ∧ w.cell? ⟨g, 4, none⟩ = some v4 := ⟨zc0 h, zc1 h, zc2 h, zc3 h, zc4 h⟩
theorem zff {g' j j' : Nat} {u v : Value} (h : Aside0 (g ≠ g')) (e : w.cell? ⟨g, j, none⟩ = some v) : (w.setCell ⟨g', j', none⟩ u).cell? ⟨g, j, none⟩ = some v := (cell_far (p := ⟨g', j', none⟩) h.out _).trans e
theorem zfz (h : Aside0 (w.heap[g]? = some (.cells l.toArray t (0, 0)))) (i : Nat) : w.frozen? ⟨g, i, none⟩ = false := blk_frozen h.out i
theorem zkf {p : Addr} (h : w.heap[g]? = some ob) (hp : g ≠ p.block) (u : Value) : (w.setCell p u).heap[g]? = some ob := (Below.heap_setCell w p u g hp).trans h
theorem zq2 (h : Aside0 (w.heap[g]? = some (.cells (v0 :: v1 :: l).toArray t (0, 0)))) : w.cell? ⟨g, 0, none⟩ = some v0 ∧ w.cell? ⟨g, 1, none⟩ = some v1 ∧ w.frozen? ⟨g, 0, none⟩ = false ∧ w.frozen? ⟨g, 1, none⟩ = false := ⟨zc0 h, zc1 h, blk_frozen h.out 0, blk_frozen h.out 1⟩
theorem zq3 (h : Aside0 (w.heap[g]? = some (.cells (v0 :: v1 :: v2 :: l).toArray t (0, 0)))) : w.cell? ⟨g, 0, none⟩ = some v0 ∧ w.cell? ⟨g, 1, none⟩ = some v1 ∧ w.cell? ⟨g, 2, none⟩ = some v2 ∧ w.frozen? ⟨g, 0, none⟩ = false ∧ w.frozen? ⟨g, 1, none⟩ = false ∧ w.frozen? ⟨g, 2, none⟩ = false := ⟨zc0 h, zc1 h, zc2 h, blk_frozen h.out 0, blk_frozen h.out 1, blk_frozen h.out 2⟩
theorem zq5 (h : Aside0 (w.heap[g]? = some (.cells (v0 :: v1 :: v2 :: v3 :: v4 :: l).toArray t (0, 0)))) : w.cell? ⟨g, 0, none⟩ = some v0 ∧ w.cell? ⟨g, 1, none⟩ = some v1 ∧ w.cell? ⟨g, 2, none⟩ = some v2 ∧ w.cell? ⟨g, 3, none⟩ = some v3 ∧ w.cell? ⟨g, 4, none⟩ = some v4 ∧ w.frozen? ⟨g, 0, none⟩ = false ∧ w.frozen? ⟨g, 1, none⟩ = false ∧ w.frozen? ⟨g, 2, none⟩ = false ∧ w.frozen? ⟨g, 3, none⟩ = false ∧ w.frozen? ⟨g, 4, none⟩ = false := ⟨zc0 h, zc1 h, zc2 h, zc3 h, zc4 h, blk_frozen h.out 0, blk_frozen h.out 1, blk_frozen h.out 2, blk_frozen h.out 3, blk_frozen h.out 4⟩
theorem zsy {x y : Nat} (h : Aside0 (x ≠ y)) : x ≠ y ∧ y ≠ x := ⟨h.out, h.out.symm⟩
theorem zs2 {x0 y0 x1 y1 : Nat} (h0 : Aside0 (x0 ≠ y0)) (h1 : Aside0 (x1 ≠ y1)) : x0 ≠ y0 ∧ y0 ≠ x0 ∧ x1 ≠ y1 ∧ y1 ≠ x1 := ⟨h0.out, h0.out.symm, h1.out, h1.out.symm⟩
theorem zs3 {x0 y0 x1 y1 x2 y2 : Nat} (h0 : Aside0 (x0 ≠ y0)) (h1 : Aside0 (x1 ≠ y1)) (h2 : Aside0 (x2 ≠ y2)) : x0 ≠ y0 ∧ y0 ≠ x0 ∧ x1 ≠ y1 ∧ y1 ≠ x1 ∧ x2 ≠ y2 ∧ y2 ≠ x2 := ⟨h0.out, h0.out.symm, h1.out, h1.out.symm, h2.out, h2.out.symm⟩
theorem zs4 {x0 y0 x1 y1 x2 y2 x3 y3 : Nat} (h0 : Aside0 (x0 ≠ y0)) (h1 : Aside0 (x1 ≠ y1)) (h2 : Aside0 (x2 ≠ y2)) (h3 : Aside0 (x3 ≠ y3)) : x0 ≠ y0 ∧ y0 ≠ x0 ∧ x1 ≠ y1 ∧ y1 ≠ x1 ∧ x2 ≠ y2 ∧ y2 ≠ x2 ∧ x3 ≠ y3 ∧ y3 ≠ x3 := ⟨h0.out, h0.out.symm, h1.out, h1.out.symm, h2.out, h2.out.symm, h3.out, h3.out.symm⟩
theorem zs5 {x0 y0 x1 y1 x2 y2 x3 y3 x4 y4 : Nat} (h0 : Aside0 (x0 ≠ y0)) (h1 : Aside0 (x1 ≠ y1)) (h2 : Aside0 (x2 ≠ y2)) (h3 : Aside0 (x3 ≠ y3)) (h4 : Aside0 (x4 ≠ y4)) : x0 ≠ y0 ∧ y0 ≠ x0 ∧ x1 ≠ y1 ∧ y1 ≠ x1 ∧ x2 ≠ y2 ∧ y2 ≠ x2 ∧ x3 ≠ y3 ∧ y3 ≠ x3 ∧ x4 ≠ y4 ∧ y4 ≠ x4 := ⟨h0.out, h0.out.symm, h1.out, h1.out.symm, h2.out, h2.out.symm, h3.out, h3.out.symm, h4.out, h4.out.symm⟩
theorem zrl {p : Prop} (h : p := by first | rfl | (simp; done) | (simp [*]; done)) : p := h
theorem zle {x y : Nat} (h : x ≤ y := by first | omega | exact Nat.le_refl _) : x ≤ y := h
theorem zit {α : Type} {c : Prop} [Decidable c] {a b x : α} (H : (if c then a else b) = x) (hc : c := by exact rfl) : a = x := (if_pos hc).symm.trans H
theorem zif {α : Type} {c : Prop} [Decidable c] {a b x : α} (H : (if c then a else b) = x) (hc : ¬ c := by decide) : b = x := (if_neg hc).symm.trans H
theorem zaB {p : Prop} (h : p := by repeat (first | (with_reducible first | exact HB.out | apply below_alloc | apply pw_below_drewN | apply below_drew1) | refine below_set ?_ (Aside0.out (by assumption)) | exact HB.out)) : p := h
theorem zaE {p : Prop} (h : p := by first | rfl | (simp [errW_none, errW_some] <;> rfl) | (simp [*, errW_none, errW_some] <;> rfl)) : p := h
theorem zbx (N : Tmp) (cs : Array Value) (t : TypeId) (hN : o.dst = some N := by with_reducible rfl) (hg : o.guard = none := by rfl)
    (hr : (execOp a.eval o).run P W = .ok (.value (.pointer (some ⟨W.heap.size, 0, none⟩))) (W.alloc (.cells cs t (0, 0))) := by first | (go_simp; done) | (go_simp; rfl))
    (h : ∀ g, g = W.heap.size → ∀ w1, w1.heap[g]? = some (.cells cs t (0, 0)) → Below W.heap.size W w1 → wpList P ops Q rest (a.put o.dst (.pointer (some ⟨g, 0, none⟩))) w1) : wpList P ops Q (o :: rest) a W :=
  box_event hg hN hr h
end
section
variable {P : Program} {ops : Array Oper} {Q : Exit → Act → World → Prop} {md : Region.Mode} {S : World → Prop} {ds : List Nat} {oi : Oper} {v : Value} {fuel : Nat} {l l' : Array Bool} {a a' : Act} {w W x : World} {K : Act → World → Prop} {rest : List Oper}
theorem zpA (i : Nat) (N : Tmp) (hi : ops[i]? = some oi := by exact rfl) (hN : oi.dst = some N := by exact rfl) (_hl : l.setIfInBounds i true = l' := by simp only [List.setIfInBounds_toArray, List.set_cons_zero, List.set_cons_succ]; exact rfl)
    (hc : anyB md ops l l' i = true := by exact any_of HT_.out (by kernel_rfl)) (hy : Yields P ops oi v a := by (refine Or.inl ⟨by rfl, ?_⟩; intro w'; go_simp; with_reducible rfl))
    (hQ : ∀ c a w, Q (.panic c) (a.put oi.dst v) w → Q (.panic c) a w := by exact fun _ _ _ h => h) (ha : a.put (some N) v = a' := by simp only [Act.put, List.setIfInBounds_toArray, List.set_cons_zero, List.set_cons_succ, i64_w, i32_w]; rfl)
    (h : wpAnyLast P md ops Q S ds fuel l' a' w) : wpAnyLast P md ops Q S ds (fuel + 1) l a w := pure_ l' hi hN hc hQ hy ha h
theorem zpU (i : Nat) (N : Tmp) (hi : ops[i]? = some oi := by exact rfl) (hN : oi.dst = some N := by exact rfl) (_hl : l.setIfInBounds i true = l' := by simp only [List.setIfInBounds_toArray, List.set_cons_zero, List.set_cons_succ]; exact rfl)
    (hc : anyB md ops l l' i = true := by exact any_of HT_.out (by kernel_rfl)) (hy : Yields P ops oi undef a := by exact Or.inr ⟨by rfl, rfl⟩)
    (hQ : ∀ c a w, Q (.panic c) (a.put oi.dst undef) w → Q (.panic c) a w := by exact fun _ _ _ h => h) (ha : a.put (some N) undef = a' := by simp only [Act.put, List.setIfInBounds_toArray, List.set_cons_zero, List.set_cons_succ, i64_w, i32_w]; rfl)
    (h : wpAnyLast P md ops Q S ds fuel l' a' w) : wpAnyLast P md ops Q S ds (fuel + 1) l a w := pure_ l' hi hN hc hQ hy ha h
theorem ztA (i : Nat) (N : Tmp) (hi : ops[i]? = some oi := by exact rfl) (hN : oi.dst = some N := by exact rfl) (_hl : l.setIfInBounds i true = l' := by simp only [List.setIfInBounds_toArray, List.set_cons_zero, List.set_cons_succ]; exact rfl)
    (hc : takeB md ops ds l l' i = true := by exact take_ofW HT_.out HW_.out (by kernel_rfl)) (hy : YieldsIf P ops S oi v a := by (refine Or.inl ⟨by rfl, ?_⟩; intro w' s_; (repeat (obtain ⟨_, s_⟩ := s_)); go_simp; with_reducible rfl))
    (hQ : ∀ c a w, Q (.panic c) (a.put oi.dst v) w → Q (.panic c) a w := by exact fun _ _ _ h => h) (hS : S w := by exact hHeld) (ha : a.put (some N) v = a' := by simp only [Act.put, List.setIfInBounds_toArray, List.set_cons_zero, List.set_cons_succ, i64_w, i32_w]; rfl)
    (h : wpAnyLast P md ops Q S ds fuel l' a' w) : wpAnyLast P md ops Q S ds (fuel + 1) l a w := take_ l' hi hN hc hQ hy hS ha h
theorem zoA (i : Nat) (N : Tmp) (hi : ops[i]? = some oi := by exact rfl) (hN : oi.dst = some N := by exact rfl) (_hl : l.setIfInBounds i true = l' := by simp only [List.setIfInBounds_toArray, List.set_cons_zero, List.set_cons_succ]; exact rfl)
    (hc : readyB md ops l l' i = true := by exact one_of HT_.out (by kernel_rfl)) (hd : i ∉ ds := by decide)
    (h : ∀ K : Act → World → Prop, Shut (∀ a' w', S w' → (S w' → wpAnyLast P md ops Q S ds fuel l' a' w') → K a' w') → if Region.wanted oi (yielded ops a.tmps) = true then Oper.wp P oi a w K Q else K (a.put (some N) undef) w) :
    wpAnyLast P md ops Q S ds (fuel + 1) l a w := one_ l' hi hN hc hd h
theorem znA (N : Tmp) (ha : a.put (some N) v = a' := by simp only [Act.put, List.setIfInBounds_toArray, List.set_cons_zero, List.set_cons_succ, i64_w, i32_w]; rfl) (h : wpAnyLast P md ops Q S ds fuel l a' w) : wpAnyLast P md ops Q S ds fuel l (a.put (some N) v) w := norm_ ha h
theorem zgA {f : FuncId} {fn : Func} {ars : Array Operand} {ts : Array TypeId} {args : Array Value} {N : Option Tmp} {R : World → Prop} (hf : P.funcs[f]? = some fn) (hc : Calls P f args w (fun e w' => e = .returned v ∧ R w')) (hname : (fn.name == "runtime.NumGoroutine") = false := by kernel_rfl) (hb : fn.body.isSome = true := by exact rfl)
    (hw : Region.wanted oi (yielded ops a.tmps) = true := by rfl) (hN : oi.dst = N := by exact rfl) (hop : oi.op = .call { callee := .value (.func f), args := ars, argTypes := ts } := by exact rfl)
    (hargs : ars.map a.eval = args := by (try simp only [List.map_toArray, List.map_cons, List.map_nil]); first | done | rfl | (simp only [List.length_drop, List.length_take]; rfl))
    (h : ∀ w', R w' → K (a.put N v) w') : if Region.wanted oi (yielded ops a.tmps) = true then Oper.wp P oi a w K Q else K (a.put N undef) w :=
  goes_ hf hname hb args hw hN hop hargs (hc.mono fun _ _ h2 => ⟨v, h2.1, h _ h2.2⟩)
theorem zgL {f : FuncId} {fn : Func} {ars : Array Operand} {ts : Array TypeId} {args : Array Value} (N : Tmp) {R : World → Prop} (hf : P.funcs[f]? = some fn) (hc : Calls P f args w (fun e w' => e = .returned v ∧ R w')) (hd : oi.dst = some N := by exact rfl) (hg : oi.guard = none := by exact rfl) (hname : (fn.name == "runtime.NumGoroutine") = false := by kernel_rfl) (hb : fn.body.isSome = true := by exact rfl)
    (hop : oi.op = .call { callee := .value (.func f), args := ars, argTypes := ts } := by exact rfl)
    (hargs : ars.map a.eval = args := by (try simp only [List.map_toArray, List.map_cons, List.map_nil]); first | done | rfl | (simp only [List.length_drop, List.length_take]; rfl))
    (h : ∀ w', R w' → wpList P ops Q rest (a.put (some N) v) w') : wpList P ops Q (oi :: rest) a w :=
  goesL_ (some N) hd hg hf hname hb args hop hargs (hc.mono fun _ _ h2 => ⟨v, h2.1, h _ h2.2⟩)
theorem zgW {f : FuncId} {fn : Func} {ars : Array Operand} {ts : Array TypeId} {args : Array Value} {N : Option Tmp} {R : World → Prop} {cal : Operand} (hf : P.funcs[f]? = some fn) (hc : Calls P f args w (fun e w' => e = .returned v ∧ R w')) (hname : (fn.name == "runtime.NumGoroutine") = false := by kernel_rfl) (hb : fn.body.isSome = true := by exact rfl)
    (hw : Region.wanted oi (yielded ops a.tmps) = true := by rfl) (hN : oi.dst = N := by exact rfl) (hop : oi.op = .call { callee := .value cal, args := ars, argTypes := ts } := by exact rfl) (hcal : a.eval cal = a.eval (.func f) := by exact rfl)
    (hargs : ars.map a.eval = args := by (try simp only [List.map_toArray, List.map_cons, List.map_nil]); first | done | rfl | (simp only [List.length_drop, List.length_take]; rfl))
    (h : ∀ w', R w' → K (a.put N v) w') : if Region.wanted oi (yielded ops a.tmps) = true then Oper.wp P oi a w K Q else K (a.put N undef) w := by
  refine call_ f args hw hN ?_ (hc.mono fun _ _ h2 => ⟨v, h2.1, h _ h2.2⟩)
  have he := enters_ hf hname hb args w
  unfold execOp
  have e : a.eval (.func f) = .func (.func f) #[] #[] := rfl
  simp [hop, resolve, hcal, e, Deferred.ofValue, invoke, hargs, he]
theorem zgV {f : FuncId} {fn : Func} {ars : Array Operand} {ts : Array TypeId} {args : Array Value} (N : Option Tmp) {R : World → Prop} (cal : Operand) (hf : P.funcs[f]? = some fn) (hc : Calls P f args w (fun e w' => e = .returned v ∧ R w')) (hcal : a.eval cal = a.eval (.func f)) (hd : oi.dst = N := by exact rfl) (hg : oi.guard = none := by exact rfl) (hname : (fn.name == "runtime.NumGoroutine") = false := by kernel_rfl) (hb : fn.body.isSome = true := by exact rfl)
    (hop : oi.op = .call { callee := .value cal, args := ars, argTypes := ts } := by exact rfl)
    (hargs : ars.map a.eval = args := by (try simp only [List.map_toArray, List.map_cons, List.map_nil]); first | done | rfl | (simp only [List.length_drop, List.length_take]; rfl))
    (h : ∀ w', R w' → wpList P ops Q rest (a.put N v) w') : wpList P ops Q (oi :: rest) a w := by
  refine wpList_plain hg fun K hK => ?_
  have he := enters_ hf hname hb args w
  have hrun : (execOp a.eval oi).run P w = .ok (.enter f args) w := by
    unfold execOp
    have e : a.eval (.func f) = .func (.func f) #[] #[] := rfl
    simp [hop, resolve, hcal, e, Deferred.ofValue, invoke, hargs, he]
  unfold Oper.wp
  rw [hrun, Oper.upon_enter]
  refine hc.mono fun e w'' hh => ?_
  obtain ⟨rfl, hk⟩ := hh
  subst hd
  exact hK _ _ (h _ hk)
theorem zkg {g : Nat} {ob : Obj} (e : W = x) (h : W.heap[g]? = some ob) : Aside0 (x.heap[g]? = some ob) := ⟨e ▸ h⟩
theorem zkG {B : Nat} (e : W = x) (h : Below B w W) : Aside0 (Below B w x) := ⟨e ▸ h⟩
theorem zbs {α β : Type} {y : Option α} {f : α → Option β} {r : β} (h : y.bind f = some r) : ∃ b, Aside0 (y = some b) ∧ f b = some r := by
  obtain ⟨b, h1, h2⟩ := Option.bind_eq_some_iff.mp h
  exact ⟨b, ⟨h1⟩, h2⟩
end
end Go.Proofs.Ytmadjhmecfbcmaa.F
end
section
namespace Go.Proofs.Ytmadjhmecfbcmaa.F
open Go.RowKit Go.Proofs.YtmadjhmecfbcmaaW.PrintWords Go.Proofs.YtmadjhmecfbcmaaW.PrintLast Go.Proofs.YtmadjhmecfbcmaaW.PrintMore
attribute [local go_sem] max2_int min2_int max_two min_two max_three min_three max_four min_four
set_option linter.unusedVariables false
set_option linter.unusedSimpArgs false
set_option maxHeartbeats 8000000
set_option maxRecDepth 100000
theorem eqA43 (d : Nat) (w : World) (x0 y0 : Bool) (x1 y1 : Int) (x2 y2 : Int) :
  (Op.equalIn (d + 2) 43 (.agg #[.bool x0, .int .u64 x1, .int .u64 x2]) (.agg #[.bool y0, .int .u64 y1, .int .u64 y2])).run Try.prog w = .ok (x0 == y0 && (x1 == y1 && (x2 == y2))) w := by
 refine eqA_of Try.underlying43 (by kernel_rfl) ?_
 refine eqf_cons (by rfl) (by go_simp; rfl) (by go_simp; rfl) (by go_simp) ?_
 refine eqf_cons (by rfl) (by go_simp; rfl) (by go_simp; rfl) (by go_simp) ?_
 exact eqf_last (by rfl) (by go_simp; rfl) (by go_simp; rfl) (by go_simp)
theorem pattern_Parts.calls (a0 : Int) (r1 : Bool) (r2 : Int) (r3 : Int) (w : World) (h : pattern_Parts.f a0 = some (r1, r2, r3)) :
  Calls Try.prog 98 #[.int .u64 a0] w fun e w' => e = .returned (.tuple #[.bool r1, .int .i64 r2, .int .u64 r3]) ∧ Drawn0 w w' := by
 have H : (some (((a0 / 9223372036854775808) == 1), wrap64 (Go.bits .and .u64 (a0 / 4503599627370496) 2047), Go.bits .and .u64 a0 4503599627370495)) = some (r1, r2, r3) := h
 clear h
 simp only [Option.some.injEq, Prod.mk.injEq] at H
 obtain ⟨rfl, rfl, rfl⟩ := H
 go_enter Try.func98, Try.ntmps98
 go_wp2
 go_ret3
 exact ⟨by first | rfl | (simp; done) | (simp [*]; done), by repeat (first | exact Drawn0.refl _ | apply Drawn0.step)⟩
theorem pattern_Class.calls (k : Nat) (a0 : Int) (r : Int) (w : World) (h : pattern_Class.f k a0 = some r) :
  Calls Try.prog 24 #[.int .u64 a0] w fun e w' => e = .returned (.int .u8 r) ∧ Drawn0 w w' := by
 have H : ((pattern_Parts.f a0).bind fun bt101 => (if bt101.2.1 = 2047 then (pattern_Class.j0 k bt101.2.1 bt101.2.2 (bt101.2.2 == 0)) else (pattern_Class.j0 k bt101.2.1 bt101.2.2 false))) = some r := h
 clear h
 obtain ⟨⟨t101, t102, t103⟩, A2, H⟩ := zbs H
 try dsimp only at H
 have HC3 := Aside0.mk H
 clear H
 go_enter Try.func24, Try.ntmps24
 go_upto_region 2 with (first | ((with_reducible refine gtc 98 rfl ?_); refine zgL 8 Try.func98 (pattern_Parts.calls a0 t101 t102 t103 _ A2.out) (h := ?_); rintro w' ⟨nd, rfl⟩))
 (try simp only [Act.put, List.setIfInBounds_toArray, List.set_cons_zero, List.set_cons_succ])
 go_cut [12] (fun v12 wc => ∃ (kq : Nat) (x12_2 : Bool), v12 = .bool x12_2 ∧ Aside0 (pattern_Class.j0 kq t102 t103 x12_2 = some r) ∧ Aside0 (kq ≤ k) ∧ Drawn0 w wc)
 case first =>
  have H := HC3.out
  clear HC3
  by_cases c4 : t102 = 2047
  ·rw [if_pos c4] at H
   have c4b0 : (t102 == 2047) = true := beq_iff_eq.mpr c4
   have c4b1 : (t102 != 2047) = false := bne_eq_false_iff_eq.mpr c4
   clear c4
   (first | rw [c4b0] | (simp only [i64_w, i32_w]; rw [c4b0]) | skip)
   have H' := Aside0.mk H
   clear H
   go_wp2
   go_meet
   case rel => exact ⟨_, ((t103 == 0)), zrl, H', ⟨zle⟩, by repeat (first | exact Drawn0.refl _ | apply Drawn0.step)⟩
  rw [if_neg c4] at H
  have c4b0 : (t102 == 2047) = false := beq_eq_false_iff_ne.mpr c4
  have c4b1 : (t102 != 2047) = true := bne_iff_ne.mpr c4
  (first | rw [c4b0] | (simp only [i64_w, i32_w]; rw [c4b0]) | skip)
  have H' := Aside0.mk H
  clear H
  go_wp2
  go_meet
  case rel => exact ⟨_, (false), zrl, H', ⟨zle⟩, by repeat (first | exact Drawn0.refl _ | apply Drawn0.step)⟩
 case rest =>
  clear HC3
  try clear c2
  try clear p2
  try clear c4
  try clear c4b0
  try clear c4b1
  obtain ⟨kq, x12_2, rfl, HA, HJ2, ⟨mc2, rfl⟩⟩ := hcut
  cases kq with
  | zero => exact absurd HA.out (by simp [pattern_Class.j0])
  | succ kj2 =>
   have H := HA.out
   clear HA
   simp only [pattern_Class.j0] at H
   by_cases c5 : x12_2 = true
   ·subst c5
    replace H := zit H
    obtain rfl := Option.some.inj H
    go_wp2
    go_ret
    exact ⟨by first | rfl | (simp; done) | (simp [*]; done), by repeat (first | exact Drawn0.refl _ | apply Drawn0.step)⟩
   replace c5 := Bool.eq_false_iff.mpr c5
   subst c5
   replace H := zif H
   by_cases c6 : t102 = 2047
   ·rw [if_pos c6] at H
    have c6b0 : (t102 == 2047) = true := beq_iff_eq.mpr c6
    have c6b1 : (t102 != 2047) = false := bne_eq_false_iff_eq.mpr c6
    clear c6
    obtain rfl := Option.some.inj H
    go_wp2
    go_ret
    exact ⟨by first | rfl | (simp; done) | (simp [*]; done), by repeat (first | exact Drawn0.refl _ | apply Drawn0.step)⟩
   rw [if_neg c6] at H
   have c6b0 : (t102 == 2047) = false := beq_eq_false_iff_ne.mpr c6
   have c6b1 : (t102 != 2047) = true := bne_iff_ne.mpr c6
   have HC7 := Aside0.mk H
   clear H
   go_upto_region 6 with (fail)
   go_cut [22] (fun v22 wc => ∃ (kq : Nat) (x22_6 : Bool), v22 = .bool x22_6 ∧ Aside0 (pattern_Class.j1 kq t102 x22_6 = some r) ∧ Aside0 (kq ≤ kj2) ∧ Drawn0 w wc)
   case first =>
    have H := HC7.out
    clear HC7
    by_cases c8 : t102 = 0
    ·rw [if_pos c8] at H
     have c8b0 : (t102 == 0) = true := beq_iff_eq.mpr c8
     have c8b1 : (t102 != 0) = false := bne_eq_false_iff_eq.mpr c8
     clear c8
     (first | rw [c8b0] | (simp only [i64_w, i32_w]; rw [c8b0]) | skip)
     have H' := Aside0.mk H
     clear H
     go_wp2
     go_meet
     case rel => exact ⟨_, ((t103 == 0)), zrl, H', ⟨by have := HJ2.out; first | omega | exact Nat.le_refl _⟩, by repeat (first | exact Drawn0.refl _ | apply Drawn0.step)⟩
    rw [if_neg c8] at H
    have c8b0 : (t102 == 0) = false := beq_eq_false_iff_ne.mpr c8
    have c8b1 : (t102 != 0) = true := bne_iff_ne.mpr c8
    (first | rw [c8b0] | (simp only [i64_w, i32_w]; rw [c8b0]) | skip)
    have H' := Aside0.mk H
    clear H
    go_wp2
    go_meet
    case rel => exact ⟨_, (false), zrl, H', ⟨by have := HJ2.out; first | omega | exact Nat.le_refl _⟩, by repeat (first | exact Drawn0.refl _ | apply Drawn0.step)⟩
   case rest =>
    clear HC7
    try clear c2
    try clear p2
    try clear c4
    try clear c4b0
    try clear c4b1
    try clear c5
    try clear c6
    try clear c6b0
    try clear c6b1
    try clear c8
    try clear c8b0
    try clear c8b1
    try clear p2
    obtain ⟨kq, x22_6, rfl, HA, HJ6, ⟨mc6, rfl⟩⟩ := hcut
    cases kq with
    | zero => exact absurd HA.out (by simp [pattern_Class.j1])
    | succ kj6 =>
     have H := HA.out
     clear HA
     simp only [pattern_Class.j1] at H
     by_cases c9 : x22_6 = true
     ·subst c9
      replace H := zit H
      obtain rfl := Option.some.inj H
      go_wp2
      go_ret
      exact ⟨by first | rfl | (simp; done) | (simp [*]; done), by repeat (first | exact Drawn0.refl _ | apply Drawn0.step)⟩
     replace c9 := Bool.eq_false_iff.mpr c9
     subst c9
     replace H := zif H
     by_cases c10 : t102 = 0
     ·rw [if_pos c10] at H
      have c10b0 : (t102 == 0) = true := beq_iff_eq.mpr c10
      have c10b1 : (t102 != 0) = false := bne_eq_false_iff_eq.mpr c10
      clear c10
      obtain rfl := Option.some.inj H
      go_wp2
      go_ret
      exact ⟨by first | rfl | (simp; done) | (simp [*]; done), by repeat (first | exact Drawn0.refl _ | apply Drawn0.step)⟩
     rw [if_neg c10] at H
     have c10b0 : (t102 == 0) = false := beq_eq_false_iff_ne.mpr c10
     have c10b1 : (t102 != 0) = true := bne_iff_ne.mpr c10
     obtain rfl := Option.some.inj H
     go_wp2
     go_ret
     exact ⟨by first | rfl | (simp; done) | (simp [*]; done), by repeat (first | exact Drawn0.refl _ | apply Drawn0.step)⟩
theorem pattern_nan.calls (k : Nat) (a0 : Int) (r : Bool) (w : World) (h : pattern_nan.f k a0 = some r) :
  Calls Try.prog 109 #[.int .u64 a0] w fun e w' => e = .returned (.bool r) ∧ Drawn0 w w' := by
 have H : ((pattern_Class.f k a0).bind fun t224 => (some (t224 == 4))) = some r := h
 clear h
 obtain ⟨t224, A2, H⟩ := zbs H
 try dsimp only at H
 obtain rfl := Option.some.inj H
 go_enter Try.func109, Try.ntmps109
 go_wp2_with (first | ((with_reducible refine gtc 24 rfl ?_); refine zgL 4 Try.func24 (pattern_Class.calls k a0 t224 _ A2.out) (h := ?_); rintro w' ⟨nd, rfl⟩))
 go_ret
 exact ⟨by first | rfl | (simp; done) | (simp [*]; done), by repeat (first | exact Drawn0.refl _ | apply Drawn0.step)⟩
theorem pattern_key.calls (a0 : Int) (r : Int) (w : World) (h : pattern_key.f a0 = some r) :
  Calls Try.prog 110 #[.int .u64 a0] w fun e w' => e = .returned (.int .i64 r) ∧ Drawn0 w w' := by
 have H : (if (a0 / 9223372036854775808) = 1 then (some (wrap64 (-(wrap64 (Go.bits .andNot .u64 a0 9223372036854775808))))) else (some (wrap64 (Go.bits .andNot .u64 a0 9223372036854775808)))) = some r := h
 clear h
 by_cases c2 : (a0 / 9223372036854775808) = 1
 ·rw [if_pos c2] at H
  have c2b0 : ((a0 / 9223372036854775808) == 1) = true := beq_iff_eq.mpr c2
  have c2b1 : ((a0 / 9223372036854775808) != 1) = false := bne_eq_false_iff_eq.mpr c2
  clear c2
  obtain rfl := Option.some.inj H
  go_enter Try.func110, Try.ntmps110
  go_wp2
  go_ret
  exact ⟨by first | rfl | (simp; done) | (simp [*]; done), by repeat (first | exact Drawn0.refl _ | apply Drawn0.step)⟩
 rw [if_neg c2] at H
 have c2b0 : ((a0 / 9223372036854775808) == 1) = false := beq_eq_false_iff_ne.mpr c2
 have c2b1 : ((a0 / 9223372036854775808) != 1) = true := bne_iff_ne.mpr c2
 obtain rfl := Option.some.inj H
 go_enter Try.func110, Try.ntmps110
 go_wp2
 go_ret
 exact ⟨by first | rfl | (simp; done) | (simp [*]; done), by repeat (first | exact Drawn0.refl _ | apply Drawn0.step)⟩
theorem pattern_Cmp.calls (k : Nat) (a0 : Int) (a1 : Int) (r1 : Int) (r2 : Bool) (w : World) (h : pattern_Cmp.f k a0 a1 = some (r1, r2)) :
  Calls Try.prog 33 #[.int .u64 a0, .int .u64 a1] w fun e w' => e = .returned (.tuple #[.int .i64 r1, .bool r2]) ∧ Drawn0 w w' := by
 have H : ((pattern_nan.f k a0).bind fun t664 => (if t664 = true then (pattern_Cmp.j0 k a0 a1 true) else ((pattern_nan.f k a1).bind fun t665 => (pattern_Cmp.j0 k a0 a1 t665)))) = some (r1, r2) := h
 clear h
 have HC3 := Aside0.mk H
 clear H
 go_enter Try.func33, Try.ntmps33
 go_upto_region 1 with (fail)
 go_cut [13] (fun v13 wc => ∃ (kq : Nat) (x13_2 : Bool), v13 = .bool x13_2 ∧ Aside0 (pattern_Cmp.j0 kq a0 a1 x13_2 = some (r1, r2)) ∧ Aside0 (kq ≤ k) ∧ Drawn0 w wc)
 case first =>
  have H := HC3.out
  clear HC3
  obtain ⟨t664, A4, H⟩ := zbs H
  try dsimp only at H
  by_cases c5 : t664 = true
  ·subst c5
   replace H := zit H
   have H' := Aside0.mk H
   clear H
   go_wp2_with (first | ((with_reducible refine gtc 109 rfl ?_); refine zgL 9 Try.func109 (pattern_nan.calls k a0 true _ A4.out) (h := ?_); rintro w' ⟨nd, rfl⟩))
   go_meet
   case rel => exact ⟨_, (true), zrl, H', ⟨zle⟩, by repeat (first | exact Drawn0.refl _ | apply Drawn0.step)⟩
  replace c5 := Bool.eq_false_iff.mpr c5
  subst c5
  replace H := zif H
  obtain ⟨t665, A6, H⟩ := zbs H
  try dsimp only at H
  have H' := Aside0.mk H
  clear H
  go_wp2_with (first | ((with_reducible refine gtc 109 rfl ?_); refine zgL 9 Try.func109 (pattern_nan.calls k a0 false _ A4.out) (h := ?_); rintro w' ⟨nd, rfl⟩) | (go_at_call 109; (with_reducible refine (pattern_nan.calls k a1 t665 _ A6.out).mono ?_); rintro e w' ⟨rfl, ⟨nd, rfl⟩⟩))
  go_meet
  case rel => exact ⟨_, (t665), zrl, H', ⟨zle⟩, by repeat (first | exact Drawn0.refl _ | apply Drawn0.step)⟩
 case rest =>
  clear HC3
  try clear c1
  try clear p2
  try clear c3
  try clear c5
  obtain ⟨kq, x13_2, rfl, HA, HJ2, ⟨mc2, rfl⟩⟩ := hcut
  cases kq with
  | zero => exact absurd HA.out (by simp [pattern_Cmp.j0])
  | succ kj2 =>
   have H := HA.out
   clear HA
   simp only [pattern_Cmp.j0] at H
   by_cases c7 : x13_2 = true
   ·subst c7
    replace H := zit H
    simp only [Option.some.injEq, Prod.mk.injEq] at H
    obtain ⟨rfl, rfl⟩ := H
    go_wp2
    go_ret2
    exact ⟨by first | rfl | (simp; done) | (simp [*]; done), by repeat (first | exact Drawn0.refl _ | apply Drawn0.step)⟩
   replace c7 := Bool.eq_false_iff.mpr c7
   subst c7
   replace H := zif H
   obtain ⟨t666, A8, H⟩ := zbs H
   try dsimp only at H
   obtain ⟨t667, A9, H⟩ := zbs H
   try dsimp only at H
   by_cases c10 : t666 < t667
   ·rw [if_pos c10] at H
    have c10b0 : decide (t666 < t667) = true := decide_eq_true c10
    clear c10
    simp only [Option.some.injEq, Prod.mk.injEq] at H
    obtain ⟨rfl, rfl⟩ := H
    go_wp2_with (first | ((with_reducible refine gtc 110 rfl ?_); refine zgL 15 Try.func110 (pattern_key.calls a0 t666 _ A8.out) (h := ?_); rintro w' ⟨nd, rfl⟩) | ((with_reducible refine gtc 110 rfl ?_); refine zgL 17 Try.func110 (pattern_key.calls a1 t667 _ A9.out) (h := ?_); rintro w' ⟨nd, rfl⟩))
    go_ret2
    exact ⟨by first | rfl | (simp; done) | (simp [*]; done), by repeat (first | exact Drawn0.refl _ | apply Drawn0.step)⟩
   rw [if_neg c10] at H
   have c10b0 : decide (t666 < t667) = false := decide_eq_false c10
   clear c10
   by_cases c11 : t666 > t667
   ·rw [if_pos c11] at H
    have c11b0 : decide (t667 < t666) = true := decide_eq_true c11
    clear c11
    simp only [Option.some.injEq, Prod.mk.injEq] at H
    obtain ⟨rfl, rfl⟩ := H
    go_wp2_with (first | ((with_reducible refine gtc 110 rfl ?_); refine zgL 15 Try.func110 (pattern_key.calls a0 t666 _ A8.out) (h := ?_); rintro w' ⟨nd, rfl⟩) | ((with_reducible refine gtc 110 rfl ?_); refine zgL 17 Try.func110 (pattern_key.calls a1 t667 _ A9.out) (h := ?_); rintro w' ⟨nd, rfl⟩))
    go_ret2
    exact ⟨by first | rfl | (simp; done) | (simp [*]; done), by repeat (first | exact Drawn0.refl _ | apply Drawn0.step)⟩
   rw [if_neg c11] at H
   have c11b0 : decide (t667 < t666) = false := decide_eq_false c11
   clear c11
   simp only [Option.some.injEq, Prod.mk.injEq] at H
   obtain ⟨rfl, rfl⟩ := H
   go_wp2_with (first | ((with_reducible refine gtc 110 rfl ?_); refine zgL 15 Try.func110 (pattern_key.calls a0 t666 _ A8.out) (h := ?_); rintro w' ⟨nd, rfl⟩) | ((with_reducible refine gtc 110 rfl ?_); refine zgL 17 Try.func110 (pattern_key.calls a1 t667 _ A9.out) (h := ?_); rintro w' ⟨nd, rfl⟩))
   go_ret2
   exact ⟨by first | rfl | (simp; done) | (simp [*]; done), by repeat (first | exact Drawn0.refl _ | apply Drawn0.step)⟩
theorem span_atMost.calls (k : Nat) (a0 : Int) (a1 : Int) (r : Bool) (w : World) (h : span_atMost.f k a0 a1 = some r) :
  Calls Try.prog 117 #[.int .u64 a0, .int .u64 a1] w fun e w' => e = .returned (.bool r) ∧ Drawn0 w w' := by
 have H : ((pattern_Cmp.f k a0 a1).bind fun bt714 => (if bt714.2 = true then (some (decide (bt714.1 ≤ 0))) else (some false))) = some r := h
 clear h
 obtain ⟨⟨t714, t715⟩, A3, H⟩ := zbs H
 try dsimp only at H
 by_cases c4 : t715 = true
 ·subst c4
  replace H := zit H
  obtain rfl := Option.some.inj H
  go_enter Try.func117, Try.ntmps117
  go_wp2_with (first | ((with_reducible refine gtc 33 rfl ?_); refine zgL 10 Try.func33 (pattern_Cmp.calls k a0 a1 t714 true _ A3.out) (h := ?_); rintro w' ⟨nd, rfl⟩))
  go_ret
  exact ⟨by first | rfl | (simp; done) | (simp [*]; done), by repeat (first | exact Drawn0.refl _ | apply Drawn0.step)⟩
 replace c4 := Bool.eq_false_iff.mpr c4
 subst c4
 replace H := zif H
 obtain rfl := Option.some.inj H
 go_enter Try.func117, Try.ntmps117
 go_wp2_with (first | ((with_reducible refine gtc 33 rfl ?_); refine zgL 10 Try.func33 (pattern_Cmp.calls k a0 a1 t714 false _ A3.out) (h := ?_); rintro w' ⟨nd, rfl⟩))
 go_ret
 exact ⟨by first | rfl | (simp; done) | (simp [*]; done), by repeat (first | exact Drawn0.refl _ | apply Drawn0.step)⟩
theorem pattern_Make.calls (k : Nat) (a0 : Bool) (a1 : Int) (a2 : Int) (r1 : Int) (r2 : Int) (w : World) (h : pattern_Make.f k a0 a1 a2 = some (r1, r2)) :
  Calls Try.prog 150 #[.bool a0, .int .i64 a1, .int .u64 a2] w fun e w' => e = .returned (.tuple #[.int .u64 r1, .int .i64 r2]) ∧ Drawn0 w w' := by
 have H : (if a1 < 0 then (pattern_Make.j0 k a0 a1 a2 true) else (if a1 > 2047 then (pattern_Make.j0 k a0 a1 a2 true) else (pattern_Make.j0 k a0 a1 a2 (decide (a2 > 4503599627370495))))) = some (r1, r2) := h
 clear h
 have HC4 := Aside0.mk H
 clear H
 go_enter Try.func150, Try.ntmps150
 go_upto_region 1 with (fail)
 go_cut [18] (fun v18 wc => ∃ (kq : Nat) (x18_3 : Bool), v18 = .bool x18_3 ∧ Aside0 (pattern_Make.j0 kq a0 a1 a2 x18_3 = some (r1, r2)) ∧ Aside0 (kq ≤ k) ∧ Drawn0 w wc)
 case first =>
  have H := HC4.out
  clear HC4
  by_cases c5 : a1 < 0
  ·rw [if_pos c5] at H
   have c5b0 : decide (a1 < 0) = true := decide_eq_true c5
   clear c5
   (first | rw [c5b0] | (simp only [i64_w, i32_w]; rw [c5b0]) | skip)
   have H' := Aside0.mk H
   clear H
   go_wp2
   go_meet
   case rel => exact ⟨_, (true), zrl, H', ⟨zle⟩, by repeat (first | exact Drawn0.refl _ | apply Drawn0.step)⟩
  rw [if_neg c5] at H
  have c5b0 : decide (a1 < 0) = false := decide_eq_false c5
  clear c5
  (first | rw [c5b0] | (simp only [i64_w, i32_w]; rw [c5b0]) | skip)
  by_cases c6 : a1 > 2047
  ·rw [if_pos c6] at H
   have c6b0 : decide (2047 < a1) = true := decide_eq_true c6
   clear c6
   have H' := Aside0.mk H
   clear H
   go_wp2
   go_meet
   case rel => exact ⟨_, (true), zrl, H', ⟨zle⟩, by repeat (first | exact Drawn0.refl _ | apply Drawn0.step)⟩
  rw [if_neg c6] at H
  have c6b0 : decide (2047 < a1) = false := decide_eq_false c6
  clear c6
  have H' := Aside0.mk H
  clear H
  go_wp2
  go_meet
  case rel => exact ⟨_, (decide (a2 > 4503599627370495)), zrl, H', ⟨zle⟩, by repeat (first | exact Drawn0.refl _ | apply Drawn0.step)⟩
 case rest =>
  clear HC4
  try clear c1
  try clear p2
  try clear c5
  try clear c5b0
  try clear c6
  try clear c6b0
  obtain ⟨kq, x18_3, rfl, HA, HJ3, ⟨mc3, rfl⟩⟩ := hcut
  cases kq with
  | zero => exact absurd HA.out (by simp [pattern_Make.j0])
  | succ kj3 =>
   have H := HA.out
   clear HA
   simp only [pattern_Make.j0] at H
   by_cases c7 : x18_3 = true
   ·subst c7
    replace H := zit H
    simp only [Option.some.injEq, Prod.mk.injEq] at H
    obtain ⟨rfl, rfl⟩ := H
    go_wp2
    go_ret2
    exact ⟨by first | rfl | (simp; done) | (simp [*]; done), by repeat (first | exact Drawn0.refl _ | apply Drawn0.step)⟩
   replace c7 := Bool.eq_false_iff.mpr c7
   subst c7
   replace H := zif H
   by_cases c8 : a0 = true
   ·subst c8
    replace H := zit H
    simp only [Option.some.injEq, Prod.mk.injEq] at H
    obtain ⟨rfl, rfl⟩ := H
    go_wp2
    go_ret2
    exact ⟨by first | rfl | (simp; done) | (simp [*]; done), by repeat (first | exact Drawn0.refl _ | apply Drawn0.step)⟩
   replace c8 := Bool.eq_false_iff.mpr c8
   subst c8
   replace H := zif H
   simp only [Option.some.injEq, Prod.mk.injEq] at H
   obtain ⟨rfl, rfl⟩ := H
   go_wp2
   go_ret2
   exact ⟨by first | rfl | (simp; done) | (simp [*]; done), by repeat (first | exact Drawn0.refl _ | apply Drawn0.step)⟩
theorem pattern_Inf.calls (k : Nat) (a0 : Bool) (r : Int) (w : World) (h : pattern_Inf.f k a0 = some r) :
  Calls Try.prog 79 #[.bool a0] w fun e w' => e = .returned (.int .u64 r) ∧ Drawn0 w w' := by
 have H : ((pattern_Make.f k a0 2047 0).bind fun bt129 => (some bt129.1)) = some r := h
 clear h
 obtain ⟨⟨t129, t130⟩, A2, H⟩ := zbs H
 try dsimp only at H
 obtain rfl := Option.some.inj H
 go_enter Try.func79, Try.ntmps79
 go_wp2_with (first | ((with_reducible refine gtc 150 rfl ?_); refine zgL 7 Try.func150 (pattern_Make.calls k a0 2047 0 t129 t130 _ A2.out) (h := ?_); rintro w' ⟨nd, rfl⟩))
 go_ret
 exact ⟨by first | rfl | (simp; done) | (simp [*]; done), by repeat (first | exact Drawn0.refl _ | apply Drawn0.step)⟩
theorem span_ninf.calls (k : Nat)  (r : Int) (w : World) (h : span_ninf.f k  = some r) :
  Calls Try.prog 113 #[] w fun e w' => e = .returned (.int .u64 r) ∧ Drawn0 w w' := by
 have H : ((pattern_Inf.f k true).bind fun t712 => (some t712)) = some r := h
 clear h
 obtain ⟨t712, A1, H⟩ := zbs H
 try dsimp only at H
 obtain rfl := Option.some.inj H
 go_enter Try.func113, Try.ntmps113
 go_wp2_with (first | ((with_reducible refine gtc 79 rfl ?_); refine zgL 1 Try.func79 (pattern_Inf.calls k true t712 _ A1.out) (h := ?_); rintro w' ⟨nd, rfl⟩))
 go_ret
 exact ⟨by first | rfl | (simp; done) | (simp [*]; done), by repeat (first | exact Drawn0.refl _ | apply Drawn0.step)⟩
theorem span_inf.calls (k : Nat)  (r : Int) (w : World) (h : span_inf.f k  = some r) :
  Calls Try.prog 114 #[] w fun e w' => e = .returned (.int .u64 r) ∧ Drawn0 w w' := by
 have H : ((pattern_Inf.f k false).bind fun t713 => (some t713)) = some r := h
 clear h
 obtain ⟨t713, A1, H⟩ := zbs H
 try dsimp only at H
 obtain rfl := Option.some.inj H
 go_enter Try.func114, Try.ntmps114
 go_wp2_with (first | ((with_reducible refine gtc 79 rfl ?_); refine zgL 1 Try.func79 (pattern_Inf.calls k false t713 _ A1.out) (h := ?_); rintro w' ⟨nd, rfl⟩))
 go_ret
 exact ⟨by first | rfl | (simp; done) | (simp [*]; done), by repeat (first | exact Drawn0.refl _ | apply Drawn0.step)⟩
theorem span_none.calls  (r1 : Bool) (r2 : Int) (r3 : Int) (w : World) (h : span_none.f  = some (r1, r2, r3)) :
  Calls Try.prog 118 #[] w fun e w' => e = .returned (.agg #[.bool r1, .int .u64 r2, .int .u64 r3]) ∧ Below w.heap.size w w' := by
 have hu43 := Try.underlying43
 have HB := Aside0.mk (Below.refl w.heap.size w)
 have H : (some (true, 0, 0)) = some (r1, r2, r3) := h
 clear h
 simp only [Option.some.injEq, Prod.mk.injEq] at H
 obtain ⟨rfl, rfl, rfl⟩ := H
 go_enter Try.func118, Try.ntmps118
 go_wp2_with (first | ((with_reducible refine gtd 0 rfl ?_); refine zbx 0 #[.bool false, .int .u64 0, .int .u64 0] 43 (h := ?_); intro gb716 hg w1 hbox hb; have GW716 := zkZ hg (zaB (p := Below w.heap.size w _)); replace HB := Aside0.mk (below_step zaB hb); have BK716 := Aside0.mk (hbox); clear hb hbox hg; obtain ⟨_, _, _, _, _, _⟩ := zq3 BK716))
 refine bodyPost_ret (results_cell_row rfl _ _ gb716 43 #[.bool true, .int .u64 0, .int .u64 0] (0, 0) _ rfl (blk_put (cs := #[.bool true, .int .u64 0, .int .u64 0]) (blk_put (cs := #[.bool true, .int .u64 0, .int .u64 0]) (blk_put (zkq BK716) 0 _ rfl) 1 _ rfl) 2 _ rfl) Try.underlying43 rfl (by kernel_rfl)) rfl ?_
 exact ⟨zaE, zaB⟩
theorem span_norm.loop (k : Nat) (a0_1 a0_2 c1 c2 t723 t727 : Int) (w : World) (A10 : Aside0 (span_atMost.f k a0_1 a0_2 = some true)) (A12 : Aside0 (span_inf.f k = some t723)) (c13b0 : (a0_1 == t723) = false) (c13b1 : (a0_1 != t723) = true) (A21 : Aside0 (span_ninf.f k = some t727)) (c22b0 : (a0_2 == t727) = false) (c22b1 : (a0_2 != t727) = true) (A30 : Aside0 (pattern_Class.f k a0_1 = some c1)) (A31 : Aside0 (pattern_Class.f k a0_2 = some c2)) :
  Calls Try.prog 112 #[.agg #[.bool false, .int .u64 a0_1, .int .u64 a0_2]] w fun e w' => e = .returned (.agg #[.bool false, .int .u64 (if c1 = 0 then 0 else a0_1), .int .u64 (if c2 = 0 then 0 else a0_2)]) ∧ Below w.heap.size w w' := by
     have hu_ := Try.underlying43
     have HB := Aside0.mk (Below.refl w.heap.size w)
     go_enter Try.func112, Try.ntmps112
     go_wp2_with (first | ((with_reducible refine gtd 1 rfl ?_); refine zbx 1 #[.bool false, .int .u64 a0_1, .int .u64 a0_2] 43 (h := ?_); intro gb717 hg w30 hbox hb; have GW717 := zkZ hg (zaB (p := Below w.heap.size w _)); replace HB := Aside0.mk (below_step zaB hb); have BK717 := Aside0.mk (hbox); clear hb hbox hg) | ((with_reducible refine gtd 2 rfl ?_); refine zbx 2 #[.bool false, .int .u64 0, .int .u64 0] 43 (h := ?_); intro gb718 hg w31 hbox hb; have GW718 := zkz HB hg; have NB717_718 := zkl BK717 hg; have NB718_717 := zkr BK717 hg; replace BK717 := zkb BK717 hb; replace HB := zkB HB hb; have BK718 := Aside0.mk (hbox); clear hb hbox hg; obtain ⟨_, _⟩ := zsy NB717_718; obtain ⟨z33_0, z33_1, z33_2, f33_0, f33_1, f33_2⟩ := zq3 BK717) | (go_at_call 117; (with_reducible refine (span_atMost.calls k a0_1 a0_2 true _ A10.out).mono ?_); rintro e w' ⟨rfl, ⟨nd, rfl⟩⟩; (try first | exact ⟨rfl, _, World.drewN_drewN _ _ _⟩ | exact ⟨rfl, _, Eq.trans (World.drewN_drewN _ _ _) (congrArg (World.drewN _) (Nat.add_assoc _ _ _))⟩)) | (go_at_call 114; (with_reducible refine (span_inf.calls k  t723 _ A12.out).mono ?_); rintro e w' ⟨rfl, ⟨nd, rfl⟩⟩; (try first | exact ⟨rfl, _, World.drewN_drewN _ _ _⟩ | exact ⟨rfl, _, Eq.trans (World.drewN_drewN _ _ _) (congrArg (World.drewN _) (Nat.add_assoc _ _ _))⟩)) | (go_at_call 113; (with_reducible refine (span_ninf.calls k  t727 _ A21.out).mono ?_); rintro e w' ⟨rfl, ⟨nd, rfl⟩⟩; (try first | exact ⟨rfl, _, World.drewN_drewN _ _ _⟩ | exact ⟨rfl, _, Eq.trans (World.drewN_drewN _ _ _) (congrArg (World.drewN _) (Nat.add_assoc _ _ _))⟩); obtain ⟨z34_0, z34_1, z34_2, f34_0, f34_1, f34_2⟩ := zq3 BK718))
     repeat (go_quiet (first | ((with_reducible refine gtd 1 rfl ?_); refine zbx 1 #[.bool false, .int .u64 a0_1, .int .u64 a0_2] 43 (h := ?_); intro gb717 hg w30 hbox hb; have GW717 := zkZ hg (zaB (p := Below w.heap.size w _)); replace HB := Aside0.mk (below_step zaB hb); have BK717 := Aside0.mk (hbox); clear hb hbox hg) | ((with_reducible refine gtd 2 rfl ?_); refine zbx 2 #[.bool false, .int .u64 0, .int .u64 0] 43 (h := ?_); intro gb718 hg w31 hbox hb; have GW718 := zkz HB hg; have NB717_718 := zkl BK717 hg; have NB718_717 := zkr BK717 hg; replace BK717 := zkb BK717 hb; replace HB := zkB HB hb; have BK718 := Aside0.mk (hbox); clear hb hbox hg; obtain ⟨_, _⟩ := zsy NB717_718; obtain ⟨z33_0, z33_1, z33_2, f33_0, f33_1, f33_2⟩ := zq3 BK717) | (go_at_call 117; (with_reducible refine (span_atMost.calls k a0_1 a0_2 true _ A10.out).mono ?_); rintro e w' ⟨rfl, ⟨nd, rfl⟩⟩; (try first | exact ⟨rfl, _, World.drewN_drewN _ _ _⟩ | exact ⟨rfl, _, Eq.trans (World.drewN_drewN _ _ _) (congrArg (World.drewN _) (Nat.add_assoc _ _ _))⟩)) | (go_at_call 114; (with_reducible refine (span_inf.calls k  t723 _ A12.out).mono ?_); rintro e w' ⟨rfl, ⟨nd, rfl⟩⟩; (try first | exact ⟨rfl, _, World.drewN_drewN _ _ _⟩ | exact ⟨rfl, _, Eq.trans (World.drewN_drewN _ _ _) (congrArg (World.drewN _) (Nat.add_assoc _ _ _))⟩)) | (go_at_call 113; (with_reducible refine (span_ninf.calls k  t727 _ A21.out).mono ?_); rintro e w' ⟨rfl, ⟨nd, rfl⟩⟩; (try first | exact ⟨rfl, _, World.drewN_drewN _ _ _⟩ | exact ⟨rfl, _, Eq.trans (World.drewN_drewN _ _ _) (congrArg (World.drewN _) (Nat.add_assoc _ _ _))⟩); obtain ⟨z34_0, z34_1, z34_2, f34_0, f34_1, f34_2⟩ := zq3 BK718)); try go_wp2_with (first | ((with_reducible refine gtd 1 rfl ?_); refine zbx 1 #[.bool false, .int .u64 a0_1, .int .u64 a0_2] 43 (h := ?_); intro gb717 hg w30 hbox hb; have GW717 := zkZ hg (zaB (p := Below w.heap.size w _)); replace HB := Aside0.mk (below_step zaB hb); have BK717 := Aside0.mk (hbox); clear hb hbox hg) | ((with_reducible refine gtd 2 rfl ?_); refine zbx 2 #[.bool false, .int .u64 0, .int .u64 0] 43 (h := ?_); intro gb718 hg w31 hbox hb; have GW718 := zkz HB hg; have NB717_718 := zkl BK717 hg; have NB718_717 := zkr BK717 hg; replace BK717 := zkb BK717 hb; replace HB := zkB HB hb; have BK718 := Aside0.mk (hbox); clear hb hbox hg; obtain ⟨_, _⟩ := zsy NB717_718; obtain ⟨z33_0, z33_1, z33_2, f33_0, f33_1, f33_2⟩ := zq3 BK717) | (go_at_call 117; (with_reducible refine (span_atMost.calls k a0_1 a0_2 true _ A10.out).mono ?_); rintro e w' ⟨rfl, ⟨nd, rfl⟩⟩; (try first | exact ⟨rfl, _, World.drewN_drewN _ _ _⟩ | exact ⟨rfl, _, Eq.trans (World.drewN_drewN _ _ _) (congrArg (World.drewN _) (Nat.add_assoc _ _ _))⟩)) | (go_at_call 114; (with_reducible refine (span_inf.calls k  t723 _ A12.out).mono ?_); rintro e w' ⟨rfl, ⟨nd, rfl⟩⟩; (try first | exact ⟨rfl, _, World.drewN_drewN _ _ _⟩ | exact ⟨rfl, _, Eq.trans (World.drewN_drewN _ _ _) (congrArg (World.drewN _) (Nat.add_assoc _ _ _))⟩)) | (go_at_call 113; (with_reducible refine (span_ninf.calls k  t727 _ A21.out).mono ?_); rintro e w' ⟨rfl, ⟨nd, rfl⟩⟩; (try first | exact ⟨rfl, _, World.drewN_drewN _ _ _⟩ | exact ⟨rfl, _, Eq.trans (World.drewN_drewN _ _ _) (congrArg (World.drewN _) (Nat.add_assoc _ _ _))⟩); obtain ⟨z34_0, z34_1, z34_2, f34_0, f34_1, f34_2⟩ := zq3 BK718)))
     clear z33_0 z33_1 z33_2 f33_0 f33_1 f33_2 z34_0 z34_1 z34_2 f34_0 f34_1 f34_2
     have hgs := Nat.ne_of_lt (blk_lt BK717.out)
     have BS := Aside0.mk (blk_new (w31.drewN nq) (Obj.cells #[.pointer (some ⟨gb717, 1, none⟩), .pointer (some ⟨gb717, 2, none⟩)] 160 (0, 0)))
     have BK717n := Aside0.mk (zkq BK717 : ((w31.drewN nq).alloc (Obj.cells #[.pointer (some ⟨gb717, 1, none⟩), .pointer (some ⟨gb717, 2, none⟩)] 160 (0, 0))).heap[gb717]? = _)
     have BK718n := Aside0.mk (zkq BK718 : ((w31.drewN nq).alloc (Obj.cells #[.pointer (some ⟨gb717, 1, none⟩), .pointer (some ⟨gb717, 2, none⟩)] 160 (0, 0))).heap[gb718]? = _)
     have HBn : Aside0 (Below w.heap.size w ((w31.drewN nq).alloc (Obj.cells #[.pointer (some ⟨gb717, 1, none⟩), .pointer (some ⟨gb717, 2, none⟩)] 160 (0, 0)))) := ⟨zaB⟩
     clear BK717 BK718 HB
     have BS2 : Aside0 (((w31.drewN nq).alloc (Obj.cells #[.pointer (some ⟨gb717, 1, none⟩), .pointer (some ⟨gb717, 2, none⟩)] 160 (0, 0))).heap[w31.heap.size]? = some (Obj.cells #[.pointer (some ⟨gb717, 1, none⟩), .pointer (some ⟨gb717, 2, none⟩)] 160 (0, 0))) := ⟨BS.out⟩
     clear BS
     generalize ((w31.drewN nq).alloc (Obj.cells #[.pointer (some ⟨gb717, 1, none⟩), .pointer (some ⟨gb717, 2, none⟩)] 160 (0, 0))) = ws at BK717n BK718n HBn BS2 ⊢
     generalize w31.heap.size = gs at hgs BS2 ⊢
     have BK717 := BK717n
     have BK718 := BK718n
     have HB := HBn
     have BS := BS2
     clear BK717n BK718n HBn BS2
     refine wp_loop_rounds 3 ?_
     rw [rounds_succ]
     by_cases z1 : c1 = 0
     ·by_cases z2 : c2 = 0
      ·have d1 : (c1 == 0) = true := beq_iff_eq.mpr z1
       have d2 : (c2 == 0) = true := beq_iff_eq.mpr z2
       have q0 := zc0 BK717
       have q1 := zc1 BK717
       have q2 := zc2 BK717
       have q3 := zc0 BS
       have q4 := zc1 BS
       have q5 := zfz BK717
       go_wp2_with ((with_reducible refine gtc 24 rfl ?_); refine zgL 39 Try.func24 (pattern_Class.calls k a0_1 c1 _ A30.out) (h := ?_); rintro wq ⟨nd, rfl⟩)
       clear q0 q1 q2 q3 q4 q5
       have BK717n := Aside0.mk (blk_put (cs := #[.bool false, .int .u64 a0_1, .int .u64 a0_2]) (cs' := #[.bool false, .int .u64 0, .int .u64 a0_2]) (zkq BK717 : (ws.drewN nd).heap[gb717]? = _) 1 (.int .u64 0) rfl)
       have BSn := Aside0.mk (zkf (p := ⟨gb717, 1, none⟩) (zkq BS : (ws.drewN nd).heap[gs]? = _) hgs.symm (.int .u64 0))
       have BK718n := Aside0.mk (zkf (p := ⟨gb717, 1, none⟩) (zkq BK718 : (ws.drewN nd).heap[gb718]? = _) NB718_717.out (.int .u64 0))
       have HBn : Aside0 (Below w.heap.size w ((ws.drewN nd).setCell ⟨gb717, 1, none⟩ (.int .u64 0))) := ⟨below_set (pw_below_drewN HB.out _) GW717.out⟩
       clear BK717 BS BK718 HB
       generalize ((ws.drewN nd).setCell ⟨gb717, 1, none⟩ (.int .u64 0)) = ws2 at BK717n BSn BK718n HBn ⊢
       have BK717 := BK717n
       have BS := BSn
       have BK718 := BK718n
       have HB := HBn
       clear BK717n BSn BK718n HBn
       rw [rounds_succ]
       have q0 := zc0 BK717
       have q1 := zc1 BK717
       have q2 := zc2 BK717
       have q3 := zc0 BS
       have q4 := zc1 BS
       have q5 := zfz BK717
       go_wp2_with ((with_reducible refine gtc 24 rfl ?_); refine zgL 39 Try.func24 (pattern_Class.calls k a0_2 c2 _ A31.out) (h := ?_); rintro wq ⟨nd, rfl⟩)
       clear q0 q1 q2 q3 q4 q5
       have BK717n := Aside0.mk (blk_put (cs := #[.bool false, .int .u64 0, .int .u64 a0_2]) (cs' := #[.bool false, .int .u64 0, .int .u64 0]) (zkq BK717 : (ws2.drewN nd).heap[gb717]? = _) 2 (.int .u64 0) rfl)
       have BSn := Aside0.mk (zkf (p := ⟨gb717, 2, none⟩) (zkq BS : (ws2.drewN nd).heap[gs]? = _) hgs.symm (.int .u64 0))
       have BK718n := Aside0.mk (zkf (p := ⟨gb717, 2, none⟩) (zkq BK718 : (ws2.drewN nd).heap[gb718]? = _) NB718_717.out (.int .u64 0))
       have HBn : Aside0 (Below w.heap.size w ((ws2.drewN nd).setCell ⟨gb717, 2, none⟩ (.int .u64 0))) := ⟨below_set (pw_below_drewN HB.out _) GW717.out⟩
       clear BK717 BS BK718 HB
       generalize ((ws2.drewN nd).setCell ⟨gb717, 2, none⟩ (.int .u64 0)) = ws3 at BK717n BSn BK718n HBn ⊢
       have BK717 := BK717n
       have BS := BSn
       have BK718 := BK718n
       have HB := HBn
       clear BK717n BSn BK718n HBn
       rw [rounds_succ]
       have q0 := zc0 BK717
       have q1 := zc1 BK717
       have q2 := zc2 BK717
       have q3 := zc0 BS
       have q4 := zc1 BS
       have q5 := zfz BK717
       have q6 := zc0 BK718
       have q7 := zc1 BK718
       have q8 := zc2 BK718
       have q9 := zfz BK718
       go_wp2
       refine bodyPost_ret (results_cell_row rfl _ _ gb718 43 #[.bool false, .int .u64 0, .int .u64 0] (0, 0) _ rfl (blk_put (cs := #[.bool false, .int .u64 0, .int .u64 0]) (blk_put (cs := #[.bool false, .int .u64 0, .int .u64 0]) (blk_put (zkq BK718) 0 _ rfl) 1 _ rfl) 2 _ rfl) Try.underlying43 rfl (by kernel_rfl)) rfl ?_
       exact ⟨by first | rfl | simp [z1, z2], zaB⟩
      have d1 : (c1 == 0) = true := beq_iff_eq.mpr z1
      have d2 : (c2 == 0) = false := beq_eq_false_iff_ne.mpr z2
      have q0 := zc0 BK717
      have q1 := zc1 BK717
      have q2 := zc2 BK717
      have q3 := zc0 BS
      have q4 := zc1 BS
      have q5 := zfz BK717
      go_wp2_with ((with_reducible refine gtc 24 rfl ?_); refine zgL 39 Try.func24 (pattern_Class.calls k a0_1 c1 _ A30.out) (h := ?_); rintro wq ⟨nd, rfl⟩)
      clear q0 q1 q2 q3 q4 q5
      have BK717n := Aside0.mk (blk_put (cs := #[.bool false, .int .u64 a0_1, .int .u64 a0_2]) (cs' := #[.bool false, .int .u64 0, .int .u64 a0_2]) (zkq BK717 : (ws.drewN nd).heap[gb717]? = _) 1 (.int .u64 0) rfl)
      have BSn := Aside0.mk (zkf (p := ⟨gb717, 1, none⟩) (zkq BS : (ws.drewN nd).heap[gs]? = _) hgs.symm (.int .u64 0))
      have BK718n := Aside0.mk (zkf (p := ⟨gb717, 1, none⟩) (zkq BK718 : (ws.drewN nd).heap[gb718]? = _) NB718_717.out (.int .u64 0))
      have HBn : Aside0 (Below w.heap.size w ((ws.drewN nd).setCell ⟨gb717, 1, none⟩ (.int .u64 0))) := ⟨below_set (pw_below_drewN HB.out _) GW717.out⟩
      clear BK717 BS BK718 HB
      generalize ((ws.drewN nd).setCell ⟨gb717, 1, none⟩ (.int .u64 0)) = ws2 at BK717n BSn BK718n HBn ⊢
      have BK717 := BK717n
      have BS := BSn
      have BK718 := BK718n
      have HB := HBn
      clear BK717n BSn BK718n HBn
      rw [rounds_succ]
      have q0 := zc0 BK717
      have q1 := zc1 BK717
      have q2 := zc2 BK717
      have q3 := zc0 BS
      have q4 := zc1 BS
      have q5 := zfz BK717
      go_wp2_with ((with_reducible refine gtc 24 rfl ?_); refine zgL 39 Try.func24 (pattern_Class.calls k a0_2 c2 _ A31.out) (h := ?_); rintro wq ⟨nd, rfl⟩)
      clear q0 q1 q2 q3 q4 q5
      have BK717n := Aside0.mk (zkq BK717 : (ws2.drewN nd).heap[gb717]? = _)
      have BSn := Aside0.mk (zkq BS : (ws2.drewN nd).heap[gs]? = _)
      have BK718n := Aside0.mk (zkq BK718 : (ws2.drewN nd).heap[gb718]? = _)
      have HBn : Aside0 (Below w.heap.size w (ws2.drewN nd)) := ⟨pw_below_drewN HB.out _⟩
      clear BK717 BS BK718 HB
      generalize (ws2.drewN nd) = ws3 at BK717n BSn BK718n HBn ⊢
      have BK717 := BK717n
      have BS := BSn
      have BK718 := BK718n
      have HB := HBn
      clear BK717n BSn BK718n HBn
      rw [rounds_succ]
      have q0 := zc0 BK717
      have q1 := zc1 BK717
      have q2 := zc2 BK717
      have q3 := zc0 BS
      have q4 := zc1 BS
      have q5 := zfz BK717
      have q6 := zc0 BK718
      have q7 := zc1 BK718
      have q8 := zc2 BK718
      have q9 := zfz BK718
      go_wp2
      refine bodyPost_ret (results_cell_row rfl _ _ gb718 43 #[.bool false, .int .u64 0, .int .u64 a0_2] (0, 0) _ rfl (blk_put (cs := #[.bool false, .int .u64 0, .int .u64 0]) (blk_put (cs := #[.bool false, .int .u64 0, .int .u64 0]) (blk_put (zkq BK718) 0 _ rfl) 1 _ rfl) 2 _ rfl) Try.underlying43 rfl (by kernel_rfl)) rfl ?_
      exact ⟨by first | rfl | simp [z1, z2], zaB⟩
     by_cases z2 : c2 = 0
     ·have d1 : (c1 == 0) = false := beq_eq_false_iff_ne.mpr z1
      have d2 : (c2 == 0) = true := beq_iff_eq.mpr z2
      have q0 := zc0 BK717
      have q1 := zc1 BK717
      have q2 := zc2 BK717
      have q3 := zc0 BS
      have q4 := zc1 BS
      have q5 := zfz BK717
      go_wp2_with ((with_reducible refine gtc 24 rfl ?_); refine zgL 39 Try.func24 (pattern_Class.calls k a0_1 c1 _ A30.out) (h := ?_); rintro wq ⟨nd, rfl⟩)
      clear q0 q1 q2 q3 q4 q5
      have BK717n := Aside0.mk (zkq BK717 : (ws.drewN nd).heap[gb717]? = _)
      have BSn := Aside0.mk (zkq BS : (ws.drewN nd).heap[gs]? = _)
      have BK718n := Aside0.mk (zkq BK718 : (ws.drewN nd).heap[gb718]? = _)
      have HBn : Aside0 (Below w.heap.size w (ws.drewN nd)) := ⟨pw_below_drewN HB.out _⟩
      clear BK717 BS BK718 HB
      generalize (ws.drewN nd) = ws2 at BK717n BSn BK718n HBn ⊢
      have BK717 := BK717n
      have BS := BSn
      have BK718 := BK718n
      have HB := HBn
      clear BK717n BSn BK718n HBn
      rw [rounds_succ]
      have q0 := zc0 BK717
      have q1 := zc1 BK717
      have q2 := zc2 BK717
      have q3 := zc0 BS
      have q4 := zc1 BS
      have q5 := zfz BK717
      go_wp2_with ((with_reducible refine gtc 24 rfl ?_); refine zgL 39 Try.func24 (pattern_Class.calls k a0_2 c2 _ A31.out) (h := ?_); rintro wq ⟨nd, rfl⟩)
      clear q0 q1 q2 q3 q4 q5
      have BK717n := Aside0.mk (blk_put (cs := #[.bool false, .int .u64 a0_1, .int .u64 a0_2]) (cs' := #[.bool false, .int .u64 a0_1, .int .u64 0]) (zkq BK717 : (ws2.drewN nd).heap[gb717]? = _) 2 (.int .u64 0) rfl)
      have BSn := Aside0.mk (zkf (p := ⟨gb717, 2, none⟩) (zkq BS : (ws2.drewN nd).heap[gs]? = _) hgs.symm (.int .u64 0))
      have BK718n := Aside0.mk (zkf (p := ⟨gb717, 2, none⟩) (zkq BK718 : (ws2.drewN nd).heap[gb718]? = _) NB718_717.out (.int .u64 0))
      have HBn : Aside0 (Below w.heap.size w ((ws2.drewN nd).setCell ⟨gb717, 2, none⟩ (.int .u64 0))) := ⟨below_set (pw_below_drewN HB.out _) GW717.out⟩
      clear BK717 BS BK718 HB
      generalize ((ws2.drewN nd).setCell ⟨gb717, 2, none⟩ (.int .u64 0)) = ws3 at BK717n BSn BK718n HBn ⊢
      have BK717 := BK717n
      have BS := BSn
      have BK718 := BK718n
      have HB := HBn
      clear BK717n BSn BK718n HBn
      rw [rounds_succ]
      have q0 := zc0 BK717
      have q1 := zc1 BK717
      have q2 := zc2 BK717
      have q3 := zc0 BS
      have q4 := zc1 BS
      have q5 := zfz BK717
      have q6 := zc0 BK718
      have q7 := zc1 BK718
      have q8 := zc2 BK718
      have q9 := zfz BK718
      go_wp2
      refine bodyPost_ret (results_cell_row rfl _ _ gb718 43 #[.bool false, .int .u64 a0_1, .int .u64 0] (0, 0) _ rfl (blk_put (cs := #[.bool false, .int .u64 a0_1, .int .u64 0]) (blk_put (cs := #[.bool false, .int .u64 0, .int .u64 0]) (blk_put (zkq BK718) 0 _ rfl) 1 _ rfl) 2 _ rfl) Try.underlying43 rfl (by kernel_rfl)) rfl ?_
      exact ⟨by first | rfl | simp [z1, z2], zaB⟩
     have d1 : (c1 == 0) = false := beq_eq_false_iff_ne.mpr z1
     have d2 : (c2 == 0) = false := beq_eq_false_iff_ne.mpr z2
     have q0 := zc0 BK717
     have q1 := zc1 BK717
     have q2 := zc2 BK717
     have q3 := zc0 BS
     have q4 := zc1 BS
     have q5 := zfz BK717
     go_wp2_with ((with_reducible refine gtc 24 rfl ?_); refine zgL 39 Try.func24 (pattern_Class.calls k a0_1 c1 _ A30.out) (h := ?_); rintro wq ⟨nd, rfl⟩)
     clear q0 q1 q2 q3 q4 q5
     have BK717n := Aside0.mk (zkq BK717 : (ws.drewN nd).heap[gb717]? = _)
     have BSn := Aside0.mk (zkq BS : (ws.drewN nd).heap[gs]? = _)
     have BK718n := Aside0.mk (zkq BK718 : (ws.drewN nd).heap[gb718]? = _)
     have HBn : Aside0 (Below w.heap.size w (ws.drewN nd)) := ⟨pw_below_drewN HB.out _⟩
     clear BK717 BS BK718 HB
     generalize (ws.drewN nd) = ws2 at BK717n BSn BK718n HBn ⊢
     have BK717 := BK717n
     have BS := BSn
     have BK718 := BK718n
     have HB := HBn
     clear BK717n BSn BK718n HBn
     rw [rounds_succ]
     have q0 := zc0 BK717
     have q1 := zc1 BK717
     have q2 := zc2 BK717
     have q3 := zc0 BS
     have q4 := zc1 BS
     have q5 := zfz BK717
     go_wp2_with ((with_reducible refine gtc 24 rfl ?_); refine zgL 39 Try.func24 (pattern_Class.calls k a0_2 c2 _ A31.out) (h := ?_); rintro wq ⟨nd, rfl⟩)
     clear q0 q1 q2 q3 q4 q5
     have BK717n := Aside0.mk (zkq BK717 : (ws2.drewN nd).heap[gb717]? = _)
     have BSn := Aside0.mk (zkq BS : (ws2.drewN nd).heap[gs]? = _)
     have BK718n := Aside0.mk (zkq BK718 : (ws2.drewN nd).heap[gb718]? = _)
     have HBn : Aside0 (Below w.heap.size w (ws2.drewN nd)) := ⟨pw_below_drewN HB.out _⟩
     clear BK717 BS BK718 HB
     generalize (ws2.drewN nd) = ws3 at BK717n BSn BK718n HBn ⊢
     have BK717 := BK717n
     have BS := BSn
     have BK718 := BK718n
     have HB := HBn
     clear BK717n BSn BK718n HBn
     rw [rounds_succ]
     have q0 := zc0 BK717
     have q1 := zc1 BK717
     have q2 := zc2 BK717
     have q3 := zc0 BS
     have q4 := zc1 BS
     have q5 := zfz BK717
     have q6 := zc0 BK718
     have q7 := zc1 BK718
     have q8 := zc2 BK718
     have q9 := zfz BK718
     go_wp2
     refine bodyPost_ret (results_cell_row rfl _ _ gb718 43 #[.bool false, .int .u64 a0_1, .int .u64 a0_2] (0, 0) _ rfl (blk_put (cs := #[.bool false, .int .u64 a0_1, .int .u64 0]) (blk_put (cs := #[.bool false, .int .u64 0, .int .u64 0]) (blk_put (zkq BK718) 0 _ rfl) 1 _ rfl) 2 _ rfl) Try.underlying43 rfl (by kernel_rfl)) rfl ?_
     exact ⟨by first | rfl | simp [z1, z2], zaB⟩
theorem span_norm.calls (k : Nat) (a0_0 : Bool) (a0_1 : Int) (a0_2 : Int) (r1 : Bool) (r2 : Int) (r3 : Int) (w : World) (h : span_norm.f k a0_0 a0_1 a0_2 = some (r1, r2, r3)) :
    Calls Try.prog 112 #[.agg #[.bool a0_0, .int .u64 a0_1, .int .u64 a0_2]] w fun e w' => e = .returned (.agg #[.bool r1, .int .u64 r2, .int .u64 r3]) ∧ Below w.heap.size w w' := by
  have hu_ := Try.underlying43
  have HB := Aside0.mk (Below.refl w.heap.size w)
  have H : (if a0_0 = true then ((span_none.f).bind fun bt719 => (some (bt719.1, bt719.2.1, bt719.2.2))) else ((span_atMost.f k a0_1 a0_2).bind fun t722 => (if t722 = true then ((span_inf.f k).bind fun t723 => (if a0_1 = t723 then ((span_none.f).bind fun bt724 => (some (bt724.1, bt724.2.1, bt724.2.2))) else ((span_ninf.f k).bind fun t727 => (if a0_2 = t727 then ((span_none.f).bind fun bt728 => (some (bt728.1, bt728.2.1, bt728.2.2))) else ((pattern_Class.f k a0_1).bind fun c1 => ((pattern_Class.f k a0_2).bind fun c2 => (some (a0_0, (if c1 = 0 then 0 else a0_1), (if c2 = 0 then 0 else a0_2))))))))) else ((span_none.f).bind fun bt731 => (some (bt731.1, bt731.2.1, bt731.2.2)))))) = some (r1, r2, r3) := h
  clear h
  by_cases c2 : a0_0 = true
  · subst c2
    replace H := zit H
    obtain ⟨⟨t719, t720, t721⟩, A3, H⟩ := zbs H
    try dsimp only at H
    simp only [Option.some.injEq, Prod.mk.injEq] at H
    obtain ⟨rfl, rfl, rfl⟩ := H
    go_enter Try.func112, Try.ntmps112
    go_wp2_with (first | ((with_reducible refine gtd 1 rfl ?_); refine zbx 1 #[.bool true, .int .u64 a0_1, .int .u64 a0_2] 43 (h := ?_); intro gb717 hg w4 hbox hb; have GW717 := zkZ hg (zaB (p := Below w.heap.size w _)); replace HB := Aside0.mk (below_step zaB hb); have BK717 := Aside0.mk (hbox); clear hb hbox hg) | ((with_reducible refine gtd 2 rfl ?_); refine zbx 2 #[.bool false, .int .u64 0, .int .u64 0] 43 (h := ?_); intro gb718 hg w5 hbox hb; have GW718 := zkz HB hg; have NB717_718 := zkl BK717 hg; have NB718_717 := zkr BK717 hg; replace BK717 := zkb BK717 hb; replace HB := zkB HB hb; have BK718 := Aside0.mk (hbox); clear hb hbox hg; obtain ⟨_, _⟩ := zsy NB717_718; obtain ⟨z7_0, z7_1, z7_2, f7_0, f7_1, f7_2⟩ := zq3 BK717) | (go_at_call 118; (with_reducible refine (span_none.calls  t719 t720 t721 _ A3.out).mono ?_); rintro e w8 ⟨rfl, hb⟩; replace BK717 := zkb BK717 hb; replace BK718 := zkb BK718 hb; replace HB := zkB HB hb; (try clear hb); obtain ⟨z9_0, z9_1, z9_2, f9_0, f9_1, f9_2⟩ := zq3 BK718))
    repeat (go_quiet (first | ((with_reducible refine gtd 1 rfl ?_); refine zbx 1 #[.bool true, .int .u64 a0_1, .int .u64 a0_2] 43 (h := ?_); intro gb717 hg w4 hbox hb; have GW717 := zkZ hg (zaB (p := Below w.heap.size w _)); replace HB := Aside0.mk (below_step zaB hb); have BK717 := Aside0.mk (hbox); clear hb hbox hg) | ((with_reducible refine gtd 2 rfl ?_); refine zbx 2 #[.bool false, .int .u64 0, .int .u64 0] 43 (h := ?_); intro gb718 hg w5 hbox hb; have GW718 := zkz HB hg; have NB717_718 := zkl BK717 hg; have NB718_717 := zkr BK717 hg; replace BK717 := zkb BK717 hb; replace HB := zkB HB hb; have BK718 := Aside0.mk (hbox); clear hb hbox hg; obtain ⟨_, _⟩ := zsy NB717_718; obtain ⟨z7_0, z7_1, z7_2, f7_0, f7_1, f7_2⟩ := zq3 BK717) | (go_at_call 118; (with_reducible refine (span_none.calls  t719 t720 t721 _ A3.out).mono ?_); rintro e w8 ⟨rfl, hb⟩; replace BK717 := zkb BK717 hb; replace BK718 := zkb BK718 hb; replace HB := zkB HB hb; (try clear hb); obtain ⟨z9_0, z9_1, z9_2, f9_0, f9_1, f9_2⟩ := zq3 BK718)); try go_wp2_with (first | ((with_reducible refine gtd 1 rfl ?_); refine zbx 1 #[.bool true, .int .u64 a0_1, .int .u64 a0_2] 43 (h := ?_); intro gb717 hg w4 hbox hb; have GW717 := zkZ hg (zaB (p := Below w.heap.size w _)); replace HB := Aside0.mk (below_step zaB hb); have BK717 := Aside0.mk (hbox); clear hb hbox hg) | ((with_reducible refine gtd 2 rfl ?_); refine zbx 2 #[.bool false, .int .u64 0, .int .u64 0] 43 (h := ?_); intro gb718 hg w5 hbox hb; have GW718 := zkz HB hg; have NB717_718 := zkl BK717 hg; have NB718_717 := zkr BK717 hg; replace BK717 := zkb BK717 hb; replace HB := zkB HB hb; have BK718 := Aside0.mk (hbox); clear hb hbox hg; obtain ⟨_, _⟩ := zsy NB717_718; obtain ⟨z7_0, z7_1, z7_2, f7_0, f7_1, f7_2⟩ := zq3 BK717) | (go_at_call 118; (with_reducible refine (span_none.calls  t719 t720 t721 _ A3.out).mono ?_); rintro e w8 ⟨rfl, hb⟩; replace BK717 := zkb BK717 hb; replace BK718 := zkb BK718 hb; replace HB := zkB HB hb; (try clear hb); obtain ⟨z9_0, z9_1, z9_2, f9_0, f9_1, f9_2⟩ := zq3 BK718)))
    refine bodyPost_ret (results_cell_row rfl _ _ gb718 43 #[.bool t719, .int .u64 t720, .int .u64 t721] (0, 0) _ rfl (blk_put (cs := #[.bool t719, .int .u64 t720, .int .u64 0]) (blk_put (cs := #[.bool t719, .int .u64 0, .int .u64 0]) (blk_put (zkq BK718) 0 _ rfl) 1 _ rfl) 2 _ rfl) Try.underlying43 rfl (by kernel_rfl)) rfl ?_
    exact ⟨zaE, zaB⟩
  · replace c2 := Bool.eq_false_iff.mpr c2
    subst c2
    replace H := zif H
    obtain ⟨t722, A10, H⟩ := zbs H
    try dsimp only at H
    by_cases c11 : t722 = true
    · subst c11
      replace H := zit H
      obtain ⟨t723, A12, H⟩ := zbs H
      try dsimp only at H
      by_cases c13 : a0_1 = t723
      · rw [if_pos c13] at H
        have c13b0 : (a0_1 == t723) = true := beq_iff_eq.mpr c13
        have c13b1 : (a0_1 != t723) = false := bne_eq_false_iff_eq.mpr c13
        clear c13
        obtain ⟨⟨t724, t725, t726⟩, A14, H⟩ := zbs H
        try dsimp only at H
        simp only [Option.some.injEq, Prod.mk.injEq] at H
        obtain ⟨rfl, rfl, rfl⟩ := H
        go_enter Try.func112, Try.ntmps112
        go_wp2_with (first | ((with_reducible refine gtd 1 rfl ?_); refine zbx 1 #[.bool false, .int .u64 a0_1, .int .u64 a0_2] 43 (h := ?_); intro gb717 hg w15 hbox hb; have GW717 := zkZ hg (zaB (p := Below w.heap.size w _)); replace HB := Aside0.mk (below_step zaB hb); have BK717 := Aside0.mk (hbox); clear hb hbox hg) | ((with_reducible refine gtd 2 rfl ?_); refine zbx 2 #[.bool false, .int .u64 0, .int .u64 0] 43 (h := ?_); intro gb718 hg w16 hbox hb; have GW718 := zkz HB hg; have NB717_718 := zkl BK717 hg; have NB718_717 := zkr BK717 hg; replace BK717 := zkb BK717 hb; replace HB := zkB HB hb; have BK718 := Aside0.mk (hbox); clear hb hbox hg; obtain ⟨_, _⟩ := zsy NB717_718; obtain ⟨z18_0, z18_1, z18_2, f18_0, f18_1, f18_2⟩ := zq3 BK717) | (go_at_call 117; (with_reducible refine (span_atMost.calls k a0_1 a0_2 true _ A10.out).mono ?_); rintro e w' ⟨rfl, ⟨nd, rfl⟩⟩; (try first | exact ⟨rfl, _, World.drewN_drewN _ _ _⟩ | exact ⟨rfl, _, Eq.trans (World.drewN_drewN _ _ _) (congrArg (World.drewN _) (Nat.add_assoc _ _ _))⟩)) | (go_at_call 114; (with_reducible refine (span_inf.calls k  t723 _ A12.out).mono ?_); rintro e w' ⟨rfl, ⟨nd, rfl⟩⟩; (try first | exact ⟨rfl, _, World.drewN_drewN _ _ _⟩ | exact ⟨rfl, _, Eq.trans (World.drewN_drewN _ _ _) (congrArg (World.drewN _) (Nat.add_assoc _ _ _))⟩)) | (go_at_call 118; (with_reducible refine (span_none.calls  t724 t725 t726 _ A14.out).mono ?_); rintro e w19 ⟨rfl, hb⟩; replace BK717 := zkb BK717 hb; replace BK718 := zkb BK718 hb; replace HB := zkB HB hb; (try clear hb); obtain ⟨z20_0, z20_1, z20_2, f20_0, f20_1, f20_2⟩ := zq3 BK718))
        repeat (go_quiet (first | ((with_reducible refine gtd 1 rfl ?_); refine zbx 1 #[.bool false, .int .u64 a0_1, .int .u64 a0_2] 43 (h := ?_); intro gb717 hg w15 hbox hb; have GW717 := zkZ hg (zaB (p := Below w.heap.size w _)); replace HB := Aside0.mk (below_step zaB hb); have BK717 := Aside0.mk (hbox); clear hb hbox hg) | ((with_reducible refine gtd 2 rfl ?_); refine zbx 2 #[.bool false, .int .u64 0, .int .u64 0] 43 (h := ?_); intro gb718 hg w16 hbox hb; have GW718 := zkz HB hg; have NB717_718 := zkl BK717 hg; have NB718_717 := zkr BK717 hg; replace BK717 := zkb BK717 hb; replace HB := zkB HB hb; have BK718 := Aside0.mk (hbox); clear hb hbox hg; obtain ⟨_, _⟩ := zsy NB717_718; obtain ⟨z18_0, z18_1, z18_2, f18_0, f18_1, f18_2⟩ := zq3 BK717) | (go_at_call 117; (with_reducible refine (span_atMost.calls k a0_1 a0_2 true _ A10.out).mono ?_); rintro e w' ⟨rfl, ⟨nd, rfl⟩⟩; (try first | exact ⟨rfl, _, World.drewN_drewN _ _ _⟩ | exact ⟨rfl, _, Eq.trans (World.drewN_drewN _ _ _) (congrArg (World.drewN _) (Nat.add_assoc _ _ _))⟩)) | (go_at_call 114; (with_reducible refine (span_inf.calls k  t723 _ A12.out).mono ?_); rintro e w' ⟨rfl, ⟨nd, rfl⟩⟩; (try first | exact ⟨rfl, _, World.drewN_drewN _ _ _⟩ | exact ⟨rfl, _, Eq.trans (World.drewN_drewN _ _ _) (congrArg (World.drewN _) (Nat.add_assoc _ _ _))⟩)) | (go_at_call 118; (with_reducible refine (span_none.calls  t724 t725 t726 _ A14.out).mono ?_); rintro e w19 ⟨rfl, hb⟩; replace BK717 := zkb BK717 hb; replace BK718 := zkb BK718 hb; replace HB := zkB HB hb; (try clear hb); obtain ⟨z20_0, z20_1, z20_2, f20_0, f20_1, f20_2⟩ := zq3 BK718)); try go_wp2_with (first | ((with_reducible refine gtd 1 rfl ?_); refine zbx 1 #[.bool false, .int .u64 a0_1, .int .u64 a0_2] 43 (h := ?_); intro gb717 hg w15 hbox hb; have GW717 := zkZ hg (zaB (p := Below w.heap.size w _)); replace HB := Aside0.mk (below_step zaB hb); have BK717 := Aside0.mk (hbox); clear hb hbox hg) | ((with_reducible refine gtd 2 rfl ?_); refine zbx 2 #[.bool false, .int .u64 0, .int .u64 0] 43 (h := ?_); intro gb718 hg w16 hbox hb; have GW718 := zkz HB hg; have NB717_718 := zkl BK717 hg; have NB718_717 := zkr BK717 hg; replace BK717 := zkb BK717 hb; replace HB := zkB HB hb; have BK718 := Aside0.mk (hbox); clear hb hbox hg; obtain ⟨_, _⟩ := zsy NB717_718; obtain ⟨z18_0, z18_1, z18_2, f18_0, f18_1, f18_2⟩ := zq3 BK717) | (go_at_call 117; (with_reducible refine (span_atMost.calls k a0_1 a0_2 true _ A10.out).mono ?_); rintro e w' ⟨rfl, ⟨nd, rfl⟩⟩; (try first | exact ⟨rfl, _, World.drewN_drewN _ _ _⟩ | exact ⟨rfl, _, Eq.trans (World.drewN_drewN _ _ _) (congrArg (World.drewN _) (Nat.add_assoc _ _ _))⟩)) | (go_at_call 114; (with_reducible refine (span_inf.calls k  t723 _ A12.out).mono ?_); rintro e w' ⟨rfl, ⟨nd, rfl⟩⟩; (try first | exact ⟨rfl, _, World.drewN_drewN _ _ _⟩ | exact ⟨rfl, _, Eq.trans (World.drewN_drewN _ _ _) (congrArg (World.drewN _) (Nat.add_assoc _ _ _))⟩)) | (go_at_call 118; (with_reducible refine (span_none.calls  t724 t725 t726 _ A14.out).mono ?_); rintro e w19 ⟨rfl, hb⟩; replace BK717 := zkb BK717 hb; replace BK718 := zkb BK718 hb; replace HB := zkB HB hb; (try clear hb); obtain ⟨z20_0, z20_1, z20_2, f20_0, f20_1, f20_2⟩ := zq3 BK718)))
        refine bodyPost_ret (results_cell_row rfl _ _ gb718 43 #[.bool t724, .int .u64 t725, .int .u64 t726] (0, 0) _ rfl (blk_put (cs := #[.bool t724, .int .u64 t725, .int .u64 0]) (blk_put (cs := #[.bool t724, .int .u64 0, .int .u64 0]) (blk_put (zkq BK718) 0 _ rfl) 1 _ rfl) 2 _ rfl) Try.underlying43 rfl (by kernel_rfl)) rfl ?_
        exact ⟨zaE, zaB⟩
      · rw [if_neg c13] at H
        have c13b0 : (a0_1 == t723) = false := beq_eq_false_iff_ne.mpr c13
        have c13b1 : (a0_1 != t723) = true := bne_iff_ne.mpr c13
        obtain ⟨t727, A21, H⟩ := zbs H
        try dsimp only at H
        by_cases c22 : a0_2 = t727
        · rw [if_pos c22] at H
          have c22b0 : (a0_2 == t727) = true := beq_iff_eq.mpr c22
          have c22b1 : (a0_2 != t727) = false := bne_eq_false_iff_eq.mpr c22
          clear c22
          obtain ⟨⟨t728, t729, t730⟩, A23, H⟩ := zbs H
          try dsimp only at H
          simp only [Option.some.injEq, Prod.mk.injEq] at H
          obtain ⟨rfl, rfl, rfl⟩ := H
          go_enter Try.func112, Try.ntmps112
          go_wp2_with (first | ((with_reducible refine gtd 1 rfl ?_); refine zbx 1 #[.bool false, .int .u64 a0_1, .int .u64 a0_2] 43 (h := ?_); intro gb717 hg w24 hbox hb; have GW717 := zkZ hg (zaB (p := Below w.heap.size w _)); replace HB := Aside0.mk (below_step zaB hb); have BK717 := Aside0.mk (hbox); clear hb hbox hg) | ((with_reducible refine gtd 2 rfl ?_); refine zbx 2 #[.bool false, .int .u64 0, .int .u64 0] 43 (h := ?_); intro gb718 hg w25 hbox hb; have GW718 := zkz HB hg; have NB717_718 := zkl BK717 hg; have NB718_717 := zkr BK717 hg; replace BK717 := zkb BK717 hb; replace HB := zkB HB hb; have BK718 := Aside0.mk (hbox); clear hb hbox hg; obtain ⟨_, _⟩ := zsy NB717_718; obtain ⟨z27_0, z27_1, z27_2, f27_0, f27_1, f27_2⟩ := zq3 BK717) | (go_at_call 117; (with_reducible refine (span_atMost.calls k a0_1 a0_2 true _ A10.out).mono ?_); rintro e w' ⟨rfl, ⟨nd, rfl⟩⟩; (try first | exact ⟨rfl, _, World.drewN_drewN _ _ _⟩ | exact ⟨rfl, _, Eq.trans (World.drewN_drewN _ _ _) (congrArg (World.drewN _) (Nat.add_assoc _ _ _))⟩)) | (go_at_call 114; (with_reducible refine (span_inf.calls k  t723 _ A12.out).mono ?_); rintro e w' ⟨rfl, ⟨nd, rfl⟩⟩; (try first | exact ⟨rfl, _, World.drewN_drewN _ _ _⟩ | exact ⟨rfl, _, Eq.trans (World.drewN_drewN _ _ _) (congrArg (World.drewN _) (Nat.add_assoc _ _ _))⟩)) | (go_at_call 113; (with_reducible refine (span_ninf.calls k  t727 _ A21.out).mono ?_); rintro e w' ⟨rfl, ⟨nd, rfl⟩⟩; (try first | exact ⟨rfl, _, World.drewN_drewN _ _ _⟩ | exact ⟨rfl, _, Eq.trans (World.drewN_drewN _ _ _) (congrArg (World.drewN _) (Nat.add_assoc _ _ _))⟩)) | (go_at_call 118; (with_reducible refine (span_none.calls  t728 t729 t730 _ A23.out).mono ?_); rintro e w28 ⟨rfl, hb⟩; replace BK717 := zkb BK717 hb; replace BK718 := zkb BK718 hb; replace HB := zkB HB hb; (try clear hb); obtain ⟨z29_0, z29_1, z29_2, f29_0, f29_1, f29_2⟩ := zq3 BK718))
          repeat (go_quiet (first | ((with_reducible refine gtd 1 rfl ?_); refine zbx 1 #[.bool false, .int .u64 a0_1, .int .u64 a0_2] 43 (h := ?_); intro gb717 hg w24 hbox hb; have GW717 := zkZ hg (zaB (p := Below w.heap.size w _)); replace HB := Aside0.mk (below_step zaB hb); have BK717 := Aside0.mk (hbox); clear hb hbox hg) | ((with_reducible refine gtd 2 rfl ?_); refine zbx 2 #[.bool false, .int .u64 0, .int .u64 0] 43 (h := ?_); intro gb718 hg w25 hbox hb; have GW718 := zkz HB hg; have NB717_718 := zkl BK717 hg; have NB718_717 := zkr BK717 hg; replace BK717 := zkb BK717 hb; replace HB := zkB HB hb; have BK718 := Aside0.mk (hbox); clear hb hbox hg; obtain ⟨_, _⟩ := zsy NB717_718; obtain ⟨z27_0, z27_1, z27_2, f27_0, f27_1, f27_2⟩ := zq3 BK717) | (go_at_call 117; (with_reducible refine (span_atMost.calls k a0_1 a0_2 true _ A10.out).mono ?_); rintro e w' ⟨rfl, ⟨nd, rfl⟩⟩; (try first | exact ⟨rfl, _, World.drewN_drewN _ _ _⟩ | exact ⟨rfl, _, Eq.trans (World.drewN_drewN _ _ _) (congrArg (World.drewN _) (Nat.add_assoc _ _ _))⟩)) | (go_at_call 114; (with_reducible refine (span_inf.calls k  t723 _ A12.out).mono ?_); rintro e w' ⟨rfl, ⟨nd, rfl⟩⟩; (try first | exact ⟨rfl, _, World.drewN_drewN _ _ _⟩ | exact ⟨rfl, _, Eq.trans (World.drewN_drewN _ _ _) (congrArg (World.drewN _) (Nat.add_assoc _ _ _))⟩)) | (go_at_call 113; (with_reducible refine (span_ninf.calls k  t727 _ A21.out).mono ?_); rintro e w' ⟨rfl, ⟨nd, rfl⟩⟩; (try first | exact ⟨rfl, _, World.drewN_drewN _ _ _⟩ | exact ⟨rfl, _, Eq.trans (World.drewN_drewN _ _ _) (congrArg (World.drewN _) (Nat.add_assoc _ _ _))⟩)) | (go_at_call 118; (with_reducible refine (span_none.calls  t728 t729 t730 _ A23.out).mono ?_); rintro e w28 ⟨rfl, hb⟩; replace BK717 := zkb BK717 hb; replace BK718 := zkb BK718 hb; replace HB := zkB HB hb; (try clear hb); obtain ⟨z29_0, z29_1, z29_2, f29_0, f29_1, f29_2⟩ := zq3 BK718)); try go_wp2_with (first | ((with_reducible refine gtd 1 rfl ?_); refine zbx 1 #[.bool false, .int .u64 a0_1, .int .u64 a0_2] 43 (h := ?_); intro gb717 hg w24 hbox hb; have GW717 := zkZ hg (zaB (p := Below w.heap.size w _)); replace HB := Aside0.mk (below_step zaB hb); have BK717 := Aside0.mk (hbox); clear hb hbox hg) | ((with_reducible refine gtd 2 rfl ?_); refine zbx 2 #[.bool false, .int .u64 0, .int .u64 0] 43 (h := ?_); intro gb718 hg w25 hbox hb; have GW718 := zkz HB hg; have NB717_718 := zkl BK717 hg; have NB718_717 := zkr BK717 hg; replace BK717 := zkb BK717 hb; replace HB := zkB HB hb; have BK718 := Aside0.mk (hbox); clear hb hbox hg; obtain ⟨_, _⟩ := zsy NB717_718; obtain ⟨z27_0, z27_1, z27_2, f27_0, f27_1, f27_2⟩ := zq3 BK717) | (go_at_call 117; (with_reducible refine (span_atMost.calls k a0_1 a0_2 true _ A10.out).mono ?_); rintro e w' ⟨rfl, ⟨nd, rfl⟩⟩; (try first | exact ⟨rfl, _, World.drewN_drewN _ _ _⟩ | exact ⟨rfl, _, Eq.trans (World.drewN_drewN _ _ _) (congrArg (World.drewN _) (Nat.add_assoc _ _ _))⟩)) | (go_at_call 114; (with_reducible refine (span_inf.calls k  t723 _ A12.out).mono ?_); rintro e w' ⟨rfl, ⟨nd, rfl⟩⟩; (try first | exact ⟨rfl, _, World.drewN_drewN _ _ _⟩ | exact ⟨rfl, _, Eq.trans (World.drewN_drewN _ _ _) (congrArg (World.drewN _) (Nat.add_assoc _ _ _))⟩)) | (go_at_call 113; (with_reducible refine (span_ninf.calls k  t727 _ A21.out).mono ?_); rintro e w' ⟨rfl, ⟨nd, rfl⟩⟩; (try first | exact ⟨rfl, _, World.drewN_drewN _ _ _⟩ | exact ⟨rfl, _, Eq.trans (World.drewN_drewN _ _ _) (congrArg (World.drewN _) (Nat.add_assoc _ _ _))⟩)) | (go_at_call 118; (with_reducible refine (span_none.calls  t728 t729 t730 _ A23.out).mono ?_); rintro e w28 ⟨rfl, hb⟩; replace BK717 := zkb BK717 hb; replace BK718 := zkb BK718 hb; replace HB := zkB HB hb; (try clear hb); obtain ⟨z29_0, z29_1, z29_2, f29_0, f29_1, f29_2⟩ := zq3 BK718)))
          refine bodyPost_ret (results_cell_row rfl _ _ gb718 43 #[.bool t728, .int .u64 t729, .int .u64 t730] (0, 0) _ rfl (blk_put (cs := #[.bool t728, .int .u64 t729, .int .u64 0]) (blk_put (cs := #[.bool t728, .int .u64 0, .int .u64 0]) (blk_put (zkq BK718) 0 _ rfl) 1 _ rfl) 2 _ rfl) Try.underlying43 rfl (by kernel_rfl)) rfl ?_
          exact ⟨zaE, zaB⟩
        · rw [if_neg c22] at H
          have c22b0 : (a0_2 == t727) = false := beq_eq_false_iff_ne.mpr c22
          have c22b1 : (a0_2 != t727) = true := bne_iff_ne.mpr c22
          replace H := Option.bind_eq_some_iff.mp H
          obtain ⟨c1, A30, H⟩ := H
          replace H := Option.bind_eq_some_iff.mp H
          obtain ⟨c2, A31, H⟩ := H
          simp only [Option.some.injEq, Prod.mk.injEq] at H
          obtain ⟨rfl, rfl, rfl⟩ := H
          exact span_norm.loop k a0_1 a0_2 c1 c2 t723 t727 w A10 A12 c13b0 c13b1 A21 c22b0 c22b1 ⟨A30⟩ ⟨A31⟩
    · replace c11 := Bool.eq_false_iff.mpr c11
      subst c11
      replace H := zif H
      obtain ⟨⟨t731, t732, t733⟩, A35, H⟩ := zbs H
      try dsimp only at H
      simp only [Option.some.injEq, Prod.mk.injEq] at H
      obtain ⟨rfl, rfl, rfl⟩ := H
      go_enter Try.func112, Try.ntmps112
      go_wp2_with (first | ((with_reducible refine gtd 1 rfl ?_); refine zbx 1 #[.bool false, .int .u64 a0_1, .int .u64 a0_2] 43 (h := ?_); intro gb717 hg w36 hbox hb; have GW717 := zkZ hg (zaB (p := Below w.heap.size w _)); replace HB := Aside0.mk (below_step zaB hb); have BK717 := Aside0.mk (hbox); clear hb hbox hg) | ((with_reducible refine gtd 2 rfl ?_); refine zbx 2 #[.bool false, .int .u64 0, .int .u64 0] 43 (h := ?_); intro gb718 hg w37 hbox hb; have GW718 := zkz HB hg; have NB717_718 := zkl BK717 hg; have NB718_717 := zkr BK717 hg; replace BK717 := zkb BK717 hb; replace HB := zkB HB hb; have BK718 := Aside0.mk (hbox); clear hb hbox hg; obtain ⟨_, _⟩ := zsy NB717_718; obtain ⟨z39_0, z39_1, z39_2, f39_0, f39_1, f39_2⟩ := zq3 BK717) | (go_at_call 117; (with_reducible refine (span_atMost.calls k a0_1 a0_2 false _ A10.out).mono ?_); rintro e w' ⟨rfl, ⟨nd, rfl⟩⟩; (try first | exact ⟨rfl, _, World.drewN_drewN _ _ _⟩ | exact ⟨rfl, _, Eq.trans (World.drewN_drewN _ _ _) (congrArg (World.drewN _) (Nat.add_assoc _ _ _))⟩)) | (go_at_call 118; (with_reducible refine (span_none.calls  t731 t732 t733 _ A35.out).mono ?_); rintro e w40 ⟨rfl, hb⟩; replace BK717 := zkb BK717 hb; replace BK718 := zkb BK718 hb; replace HB := zkB HB hb; (try clear hb); obtain ⟨z41_0, z41_1, z41_2, f41_0, f41_1, f41_2⟩ := zq3 BK718))
      repeat (go_quiet (first | ((with_reducible refine gtd 1 rfl ?_); refine zbx 1 #[.bool false, .int .u64 a0_1, .int .u64 a0_2] 43 (h := ?_); intro gb717 hg w36 hbox hb; have GW717 := zkZ hg (zaB (p := Below w.heap.size w _)); replace HB := Aside0.mk (below_step zaB hb); have BK717 := Aside0.mk (hbox); clear hb hbox hg) | ((with_reducible refine gtd 2 rfl ?_); refine zbx 2 #[.bool false, .int .u64 0, .int .u64 0] 43 (h := ?_); intro gb718 hg w37 hbox hb; have GW718 := zkz HB hg; have NB717_718 := zkl BK717 hg; have NB718_717 := zkr BK717 hg; replace BK717 := zkb BK717 hb; replace HB := zkB HB hb; have BK718 := Aside0.mk (hbox); clear hb hbox hg; obtain ⟨_, _⟩ := zsy NB717_718; obtain ⟨z39_0, z39_1, z39_2, f39_0, f39_1, f39_2⟩ := zq3 BK717) | (go_at_call 117; (with_reducible refine (span_atMost.calls k a0_1 a0_2 false _ A10.out).mono ?_); rintro e w' ⟨rfl, ⟨nd, rfl⟩⟩; (try first | exact ⟨rfl, _, World.drewN_drewN _ _ _⟩ | exact ⟨rfl, _, Eq.trans (World.drewN_drewN _ _ _) (congrArg (World.drewN _) (Nat.add_assoc _ _ _))⟩)) | (go_at_call 118; (with_reducible refine (span_none.calls  t731 t732 t733 _ A35.out).mono ?_); rintro e w40 ⟨rfl, hb⟩; replace BK717 := zkb BK717 hb; replace BK718 := zkb BK718 hb; replace HB := zkB HB hb; (try clear hb); obtain ⟨z41_0, z41_1, z41_2, f41_0, f41_1, f41_2⟩ := zq3 BK718)); try go_wp2_with (first | ((with_reducible refine gtd 1 rfl ?_); refine zbx 1 #[.bool false, .int .u64 a0_1, .int .u64 a0_2] 43 (h := ?_); intro gb717 hg w36 hbox hb; have GW717 := zkZ hg (zaB (p := Below w.heap.size w _)); replace HB := Aside0.mk (below_step zaB hb); have BK717 := Aside0.mk (hbox); clear hb hbox hg) | ((with_reducible refine gtd 2 rfl ?_); refine zbx 2 #[.bool false, .int .u64 0, .int .u64 0] 43 (h := ?_); intro gb718 hg w37 hbox hb; have GW718 := zkz HB hg; have NB717_718 := zkl BK717 hg; have NB718_717 := zkr BK717 hg; replace BK717 := zkb BK717 hb; replace HB := zkB HB hb; have BK718 := Aside0.mk (hbox); clear hb hbox hg; obtain ⟨_, _⟩ := zsy NB717_718; obtain ⟨z39_0, z39_1, z39_2, f39_0, f39_1, f39_2⟩ := zq3 BK717) | (go_at_call 117; (with_reducible refine (span_atMost.calls k a0_1 a0_2 false _ A10.out).mono ?_); rintro e w' ⟨rfl, ⟨nd, rfl⟩⟩; (try first | exact ⟨rfl, _, World.drewN_drewN _ _ _⟩ | exact ⟨rfl, _, Eq.trans (World.drewN_drewN _ _ _) (congrArg (World.drewN _) (Nat.add_assoc _ _ _))⟩)) | (go_at_call 118; (with_reducible refine (span_none.calls  t731 t732 t733 _ A35.out).mono ?_); rintro e w40 ⟨rfl, hb⟩; replace BK717 := zkb BK717 hb; replace BK718 := zkb BK718 hb; replace HB := zkB HB hb; (try clear hb); obtain ⟨z41_0, z41_1, z41_2, f41_0, f41_1, f41_2⟩ := zq3 BK718)))
      refine bodyPost_ret (results_cell_row rfl _ _ gb718 43 #[.bool t731, .int .u64 t732, .int .u64 t733] (0, 0) _ rfl (blk_put (cs := #[.bool t731, .int .u64 t732, .int .u64 0]) (blk_put (cs := #[.bool t731, .int .u64 0, .int .u64 0]) (blk_put (zkq BK718) 0 _ rfl) 1 _ rfl) 2 _ rfl) Try.underlying43 rfl (by kernel_rfl)) rfl ?_
      exact ⟨zaE, zaB⟩
theorem span_Inside.calls (k : Nat) (a0_0 : Bool) (a0_1 : Int) (a0_2 : Int) (a1_0 : Bool) (a1_1 : Int) (a1_2 : Int) (r : Bool) (w : World) (h : span_Inside.f k a0_0 a0_1 a0_2 a1_0 a1_1 a1_2 = some r) :
  Calls Try.prog 43 #[.agg #[.bool a0_0, .int .u64 a0_1, .int .u64 a0_2], .agg #[.bool a1_0, .int .u64 a1_1, .int .u64 a1_2]] w fun e w' => e = .returned (.bool r) ∧ Below w.heap.size w w' := by
 have hu43 := Try.underlying43
 have HB := Aside0.mk (Below.refl w.heap.size w)
 have H : ((span_norm.f k a0_0 a0_1 a0_2).bind fun bt733 => ((span_norm.f k a1_0 a1_1 a1_2).bind fun bt736 => (if bt733.1 = true then (some true) else (if bt736.1 = true then (some false) else ((span_atMost.f k bt736.2.1 bt733.2.1).bind fun t739 => (if t739 = true then ((span_atMost.f k bt733.2.2 bt736.2.2).bind fun t740 => (some t740)) else (some false))))))) = some r := h
 clear h
 obtain ⟨⟨t733, t734, t735⟩, A3, H⟩ := zbs H
 try dsimp only at H
 obtain ⟨⟨t736, t737, t738⟩, A4, H⟩ := zbs H
 try dsimp only at H
 by_cases c5 : t733 = true
 ·subst c5
  replace H := zit H
  obtain rfl := Option.some.inj H
  go_enter Try.func43, Try.ntmps43
  try go_wp2_with (first | ((with_reducible refine gtd 2 rfl ?_); refine zbx 2 #[.bool a0_0, .int .u64 a0_1, .int .u64 a0_2] 43 (h := ?_); intro gb731 hg w6 hbox hb; have GW731 := zkZ hg (zaB (p := Below w.heap.size w _)); replace HB := Aside0.mk (below_step zaB hb); have BK731 := Aside0.mk (hbox); clear hb hbox hg) | ((with_reducible refine gtd 3 rfl ?_); refine zbx 3 #[.bool a1_0, .int .u64 a1_1, .int .u64 a1_2] 43 (h := ?_); intro gb732 hg w7 hbox hb; have GW732 := zkz HB hg; have NB731_732 := zkl BK731 hg; have NB732_731 := zkr BK731 hg; replace BK731 := zkb BK731 hb; replace HB := zkB HB hb; have BK732 := Aside0.mk (hbox); clear hb hbox hg))
  replace BK731 := Aside0.mk (blk_drew BK731.out)
  replace BK732 := Aside0.mk (blk_drew BK732.out)
  replace HB := Aside0.mk (below_drew1 HB.out)
  refine start_ (n := 6) (S := fun w' => w'.cell? ⟨gb731, 0, none⟩ = some (.bool a0_0) ∧ w'.cell? ⟨gb731, 1, none⟩ = some (.int .u64 a0_1) ∧ w'.cell? ⟨gb731, 2, none⟩ = some (.int .u64 a0_2) ∧ w'.cell? ⟨gb732, 0, none⟩ = some (.bool a1_0) ∧ w'.cell? ⟨gb732, 1, none⟩ = some (.int .u64 a1_1) ∧ w'.cell? ⟨gb732, 2, none⟩ = some (.int .u64 a1_2)) (ds := [4, 5]) #[false, false, false, false, false, false] (by kernel_rfl) rfl rfl (zk3 BK731 (ze3 BK732)) (fun hHeld => ?_)
  generalize w7.drew = w8 at BK731 BK732 HB hHeld ⊢
  refine take_ (i := 0) (N := some 5) (v := ?_) (a' := ?_) #[true, false, false, false, false, false] rfl rfl (by kernel_rfl) (fun _ _ _ h => h) (Or.inl ⟨by rfl, ?_⟩) hHeld ?_ ?_
  rotate_left
  ·rintro w' ⟨s0, s1, s2, s3, s4, s5⟩
   go_simp
   with_reducible rfl
  rotate_left
  ·simp only [Act.put, List.setIfInBounds_toArray, List.set_cons_zero, List.set_cons_succ, i64_w, i32_w]
   rfl
  refine take_ (i := 2) (N := some 7) (v := ?_) (a' := ?_) #[true, false, true, false, false, false] rfl rfl (by kernel_rfl) (fun _ _ _ h => h) (Or.inl ⟨by rfl, ?_⟩) hHeld ?_ ?_
  rotate_left
  ·rintro w' ⟨s0, s1, s2, s3, s4, s5⟩
   go_simp
   with_reducible rfl
  rotate_left
  ·simp only [Act.put, List.setIfInBounds_toArray, List.set_cons_zero, List.set_cons_succ, i64_w, i32_w]
   rfl
  refine one_ (i := 1) (N := some 6) #[true, true, true, false, false, false] rfl rfl (by kernel_rfl) (by decide) (fun K hK => ?_)
  refine zgA Try.func112 (span_norm.calls k a0_0 a0_1 a0_2 true t734 t735 _ A3.out) (h := ?_)
  rintro w9 hb
  replace BK731 := zkb BK731 hb
  replace BK732 := zkb BK732 hb
  replace HB := zkB HB hb
  (try clear hb)
  refine hK.out _ _ (zk3 BK731 (ze3 BK732)) (fun hHeld => ?_)
  clear hK K
  refine znA 6 (h := ?_)
  refine one_ (i := 3) (N := some 8) #[true, true, true, true, false, false] rfl rfl (by kernel_rfl) (by decide) (fun K hK => ?_)
  refine zgA Try.func112 (span_norm.calls k a1_0 a1_1 a1_2 t736 t737 t738 _ A4.out) (h := ?_)
  rintro w10 hb
  replace BK731 := zkb BK731 hb
  replace BK732 := zkb BK732 hb
  replace HB := zkB HB hb
  (try clear hb)
  refine hK.out _ _ (zk3 BK731 (ze3 BK732)) (fun hHeld => ?_)
  clear hK K
  refine znA 8 (h := ?_)
  refine last_ (i := 4) (N := none) #[true, true, true, true, true, false] rfl rfl (by kernel_rfl) (by decide) (fun K hK => ?_)
  have hs11 := zc0 BK731
  have hfs11 := blk_frozen BK731.out 0
  obtain ⟨_, _⟩ := zsy NB732_731
  have hs12 := zc1 BK731
  have hfs12 := blk_frozen BK731.out 1
  obtain ⟨_, _⟩ := zsy NB732_731
  have hs13 := zc2 BK731
  have hfs13 := blk_frozen BK731.out 2
  obtain ⟨_, _⟩ := zsy NB732_731
  refine skip_ (w1 := ?_) (by rfl) rfl ?_ ?_
  rotate_left
  ·go_simp
   rfl
  refine hK.out _ _ ?_
  clear hK K
  refine last_ (i := 5) (N := none) #[true, true, true, true, true, true] rfl rfl (by kernel_rfl) (by decide) (fun K hK => ?_)
  have hs14 := zc0 BK732
  have hfs14 := blk_frozen BK732.out 0
  obtain ⟨_, _⟩ := zsy NB731_732
  have hs15 := zc1 BK732
  have hfs15 := blk_frozen BK732.out 1
  obtain ⟨_, _⟩ := zsy NB731_732
  have hs16 := zc2 BK732
  have hfs16 := blk_frozen BK732.out 2
  obtain ⟨_, _⟩ := zsy NB731_732
  refine skip_ (w1 := ?_) (by rfl) rfl ?_ ?_
  rotate_left
  ·go_simp
   rfl
  refine hK.out _ _ ?_
  clear hK K
  refine done_ (by kernel_rfl) ?_
  obtain ⟨_, _⟩ := zsy NB731_732
  obtain ⟨_, _, _, _, _, _⟩ := zq3 BK731
  try go_wp2
  go_ret
  exact ⟨zaE, zaB⟩
 replace c5 := Bool.eq_false_iff.mpr c5
 subst c5
 replace H := zif H
 by_cases c19 : t736 = true
 ·subst c19
  replace H := zit H
  obtain rfl := Option.some.inj H
  go_enter Try.func43, Try.ntmps43
  try go_wp2_with (first | ((with_reducible refine gtd 2 rfl ?_); refine zbx 2 #[.bool a0_0, .int .u64 a0_1, .int .u64 a0_2] 43 (h := ?_); intro gb731 hg w20 hbox hb; have GW731 := zkZ hg (zaB (p := Below w.heap.size w _)); replace HB := Aside0.mk (below_step zaB hb); have BK731 := Aside0.mk (hbox); clear hb hbox hg) | ((with_reducible refine gtd 3 rfl ?_); refine zbx 3 #[.bool a1_0, .int .u64 a1_1, .int .u64 a1_2] 43 (h := ?_); intro gb732 hg w21 hbox hb; have GW732 := zkz HB hg; have NB731_732 := zkl BK731 hg; have NB732_731 := zkr BK731 hg; replace BK731 := zkb BK731 hb; replace HB := zkB HB hb; have BK732 := Aside0.mk (hbox); clear hb hbox hg))
  replace BK731 := Aside0.mk (blk_drew BK731.out)
  replace BK732 := Aside0.mk (blk_drew BK732.out)
  replace HB := Aside0.mk (below_drew1 HB.out)
  refine start_ (n := 6) (S := fun w' => w'.cell? ⟨gb731, 0, none⟩ = some (.bool a0_0) ∧ w'.cell? ⟨gb731, 1, none⟩ = some (.int .u64 a0_1) ∧ w'.cell? ⟨gb731, 2, none⟩ = some (.int .u64 a0_2) ∧ w'.cell? ⟨gb732, 0, none⟩ = some (.bool a1_0) ∧ w'.cell? ⟨gb732, 1, none⟩ = some (.int .u64 a1_1) ∧ w'.cell? ⟨gb732, 2, none⟩ = some (.int .u64 a1_2)) (ds := [4, 5]) #[false, false, false, false, false, false] (by kernel_rfl) rfl rfl (zk3 BK731 (ze3 BK732)) (fun hHeld => ?_)
  generalize w21.drew = w22 at BK731 BK732 HB hHeld ⊢
  refine take_ (i := 0) (N := some 5) (v := ?_) (a' := ?_) #[true, false, false, false, false, false] rfl rfl (by kernel_rfl) (fun _ _ _ h => h) (Or.inl ⟨by rfl, ?_⟩) hHeld ?_ ?_
  rotate_left
  ·rintro w' ⟨s0, s1, s2, s3, s4, s5⟩
   go_simp
   with_reducible rfl
  rotate_left
  ·simp only [Act.put, List.setIfInBounds_toArray, List.set_cons_zero, List.set_cons_succ, i64_w, i32_w]
   rfl
  refine take_ (i := 2) (N := some 7) (v := ?_) (a' := ?_) #[true, false, true, false, false, false] rfl rfl (by kernel_rfl) (fun _ _ _ h => h) (Or.inl ⟨by rfl, ?_⟩) hHeld ?_ ?_
  rotate_left
  ·rintro w' ⟨s0, s1, s2, s3, s4, s5⟩
   go_simp
   with_reducible rfl
  rotate_left
  ·simp only [Act.put, List.setIfInBounds_toArray, List.set_cons_zero, List.set_cons_succ, i64_w, i32_w]
   rfl
  refine one_ (i := 1) (N := some 6) #[true, true, true, false, false, false] rfl rfl (by kernel_rfl) (by decide) (fun K hK => ?_)
  refine zgA Try.func112 (span_norm.calls k a0_0 a0_1 a0_2 false t734 t735 _ A3.out) (h := ?_)
  rintro w23 hb
  replace BK731 := zkb BK731 hb
  replace BK732 := zkb BK732 hb
  replace HB := zkB HB hb
  (try clear hb)
  refine hK.out _ _ (zk3 BK731 (ze3 BK732)) (fun hHeld => ?_)
  clear hK K
  refine znA 6 (h := ?_)
  refine one_ (i := 3) (N := some 8) #[true, true, true, true, false, false] rfl rfl (by kernel_rfl) (by decide) (fun K hK => ?_)
  refine zgA Try.func112 (span_norm.calls k a1_0 a1_1 a1_2 true t737 t738 _ A4.out) (h := ?_)
  rintro w24 hb
  replace BK731 := zkb BK731 hb
  replace BK732 := zkb BK732 hb
  replace HB := zkB HB hb
  (try clear hb)
  refine hK.out _ _ (zk3 BK731 (ze3 BK732)) (fun hHeld => ?_)
  clear hK K
  refine znA 8 (h := ?_)
  refine last_ (i := 4) (N := none) #[true, true, true, true, true, false] rfl rfl (by kernel_rfl) (by decide) (fun K hK => ?_)
  have hs25 := zc0 BK731
  have hfs25 := blk_frozen BK731.out 0
  obtain ⟨_, _⟩ := zsy NB732_731
  have hs26 := zc1 BK731
  have hfs26 := blk_frozen BK731.out 1
  obtain ⟨_, _⟩ := zsy NB732_731
  have hs27 := zc2 BK731
  have hfs27 := blk_frozen BK731.out 2
  obtain ⟨_, _⟩ := zsy NB732_731
  refine skip_ (w1 := ?_) (by rfl) rfl ?_ ?_
  rotate_left
  ·go_simp
   rfl
  refine hK.out _ _ ?_
  clear hK K
  refine last_ (i := 5) (N := none) #[true, true, true, true, true, true] rfl rfl (by kernel_rfl) (by decide) (fun K hK => ?_)
  have hs28 := zc0 BK732
  have hfs28 := blk_frozen BK732.out 0
  obtain ⟨_, _⟩ := zsy NB731_732
  have hs29 := zc1 BK732
  have hfs29 := blk_frozen BK732.out 1
  obtain ⟨_, _⟩ := zsy NB731_732
  have hs30 := zc2 BK732
  have hfs30 := blk_frozen BK732.out 2
  obtain ⟨_, _⟩ := zsy NB731_732
  refine skip_ (w1 := ?_) (by rfl) rfl ?_ ?_
  rotate_left
  ·go_simp
   rfl
  refine hK.out _ _ ?_
  clear hK K
  refine done_ (by kernel_rfl) ?_
  obtain ⟨_, _⟩ := zsy NB731_732
  obtain ⟨_, _, _, _, _, _⟩ := zq3 BK731
  obtain ⟨_, _, _, _, _, _⟩ := zq3 BK732
  try go_wp2
  go_ret
  exact ⟨zaE, zaB⟩
 replace c19 := Bool.eq_false_iff.mpr c19
 subst c19
 replace H := zif H
 obtain ⟨t739, A34, H⟩ := zbs H
 try dsimp only at H
 by_cases c35 : t739 = true
 ·subst c35
  replace H := zit H
  obtain ⟨t740, A36, H⟩ := zbs H
  try dsimp only at H
  obtain rfl := Option.some.inj H
  go_enter Try.func43, Try.ntmps43
  try go_wp2_with (first | ((with_reducible refine gtd 2 rfl ?_); refine zbx 2 #[.bool a0_0, .int .u64 a0_1, .int .u64 a0_2] 43 (h := ?_); intro gb731 hg w37 hbox hb; have GW731 := zkZ hg (zaB (p := Below w.heap.size w _)); replace HB := Aside0.mk (below_step zaB hb); have BK731 := Aside0.mk (hbox); clear hb hbox hg) | ((with_reducible refine gtd 3 rfl ?_); refine zbx 3 #[.bool a1_0, .int .u64 a1_1, .int .u64 a1_2] 43 (h := ?_); intro gb732 hg w38 hbox hb; have GW732 := zkz HB hg; have NB731_732 := zkl BK731 hg; have NB732_731 := zkr BK731 hg; replace BK731 := zkb BK731 hb; replace HB := zkB HB hb; have BK732 := Aside0.mk (hbox); clear hb hbox hg))
  replace BK731 := Aside0.mk (blk_drew BK731.out)
  replace BK732 := Aside0.mk (blk_drew BK732.out)
  replace HB := Aside0.mk (below_drew1 HB.out)
  refine start_ (n := 6) (S := fun w' => w'.cell? ⟨gb731, 0, none⟩ = some (.bool a0_0) ∧ w'.cell? ⟨gb731, 1, none⟩ = some (.int .u64 a0_1) ∧ w'.cell? ⟨gb731, 2, none⟩ = some (.int .u64 a0_2) ∧ w'.cell? ⟨gb732, 0, none⟩ = some (.bool a1_0) ∧ w'.cell? ⟨gb732, 1, none⟩ = some (.int .u64 a1_1) ∧ w'.cell? ⟨gb732, 2, none⟩ = some (.int .u64 a1_2)) (ds := [4, 5]) #[false, false, false, false, false, false] (by kernel_rfl) rfl rfl (zk3 BK731 (ze3 BK732)) (fun hHeld => ?_)
  generalize w38.drew = w39 at BK731 BK732 HB hHeld ⊢
  refine take_ (i := 0) (N := some 5) (v := ?_) (a' := ?_) #[true, false, false, false, false, false] rfl rfl (by kernel_rfl) (fun _ _ _ h => h) (Or.inl ⟨by rfl, ?_⟩) hHeld ?_ ?_
  rotate_left
  ·rintro w' ⟨s0, s1, s2, s3, s4, s5⟩
   go_simp
   with_reducible rfl
  rotate_left
  ·simp only [Act.put, List.setIfInBounds_toArray, List.set_cons_zero, List.set_cons_succ, i64_w, i32_w]
   rfl
  refine take_ (i := 2) (N := some 7) (v := ?_) (a' := ?_) #[true, false, true, false, false, false] rfl rfl (by kernel_rfl) (fun _ _ _ h => h) (Or.inl ⟨by rfl, ?_⟩) hHeld ?_ ?_
  rotate_left
  ·rintro w' ⟨s0, s1, s2, s3, s4, s5⟩
   go_simp
   with_reducible rfl
  rotate_left
  ·simp only [Act.put, List.setIfInBounds_toArray, List.set_cons_zero, List.set_cons_succ, i64_w, i32_w]
   rfl
  refine one_ (i := 1) (N := some 6) #[true, true, true, false, false, false] rfl rfl (by kernel_rfl) (by decide) (fun K hK => ?_)
  refine zgA Try.func112 (span_norm.calls k a0_0 a0_1 a0_2 false t734 t735 _ A3.out) (h := ?_)
  rintro w40 hb
  replace BK731 := zkb BK731 hb
  replace BK732 := zkb BK732 hb
  replace HB := zkB HB hb
  (try clear hb)
  refine hK.out _ _ (zk3 BK731 (ze3 BK732)) (fun hHeld => ?_)
  clear hK K
  refine znA 6 (h := ?_)
  refine one_ (i := 3) (N := some 8) #[true, true, true, true, false, false] rfl rfl (by kernel_rfl) (by decide) (fun K hK => ?_)
  refine zgA Try.func112 (span_norm.calls k a1_0 a1_1 a1_2 false t737 t738 _ A4.out) (h := ?_)
  rintro w41 hb
  replace BK731 := zkb BK731 hb
  replace BK732 := zkb BK732 hb
  replace HB := zkB HB hb
  (try clear hb)
  refine hK.out _ _ (zk3 BK731 (ze3 BK732)) (fun hHeld => ?_)
  clear hK K
  refine znA 8 (h := ?_)
  refine last_ (i := 4) (N := none) #[true, true, true, true, true, false] rfl rfl (by kernel_rfl) (by decide) (fun K hK => ?_)
  have hs42 := zc0 BK731
  have hfs42 := blk_frozen BK731.out 0
  obtain ⟨_, _⟩ := zsy NB732_731
  have hs43 := zc1 BK731
  have hfs43 := blk_frozen BK731.out 1
  obtain ⟨_, _⟩ := zsy NB732_731
  have hs44 := zc2 BK731
  have hfs44 := blk_frozen BK731.out 2
  obtain ⟨_, _⟩ := zsy NB732_731
  refine skip_ (w1 := ?_) (by rfl) rfl ?_ ?_
  rotate_left
  ·go_simp
   rfl
  refine hK.out _ _ ?_
  clear hK K
  refine last_ (i := 5) (N := none) #[true, true, true, true, true, true] rfl rfl (by kernel_rfl) (by decide) (fun K hK => ?_)
  have hs45 := zc0 BK732
  have hfs45 := blk_frozen BK732.out 0
  obtain ⟨_, _⟩ := zsy NB731_732
  have hs46 := zc1 BK732
  have hfs46 := blk_frozen BK732.out 1
  obtain ⟨_, _⟩ := zsy NB731_732
  have hs47 := zc2 BK732
  have hfs47 := blk_frozen BK732.out 2
  obtain ⟨_, _⟩ := zsy NB731_732
  refine skip_ (w1 := ?_) (by rfl) rfl ?_ ?_
  rotate_left
  ·go_simp
   rfl
  refine hK.out _ _ ?_
  clear hK K
  refine done_ (by kernel_rfl) ?_
  obtain ⟨_, _⟩ := zsy NB731_732
  obtain ⟨_, _, _, _, _, _⟩ := zq3 BK731
  obtain ⟨_, _, _, _, _, _⟩ := zq3 BK732
  try go_wp2_with (first | (go_at_call 117; (with_reducible refine (span_atMost.calls k t737 t734 true _ A34.out).mono ?_); rintro e w' ⟨rfl, ⟨nd, rfl⟩⟩) | (go_at_call 117; (with_reducible refine (span_atMost.calls k t735 t738 t740 _ A36.out).mono ?_); rintro e w' ⟨rfl, ⟨nd, rfl⟩⟩))
  go_ret
  exact ⟨zaE, zaB⟩
 replace c35 := Bool.eq_false_iff.mpr c35
 subst c35
 replace H := zif H
 obtain rfl := Option.some.inj H
 go_enter Try.func43, Try.ntmps43
 try go_wp2_with (first | ((with_reducible refine gtd 2 rfl ?_); refine zbx 2 #[.bool a0_0, .int .u64 a0_1, .int .u64 a0_2] 43 (h := ?_); intro gb731 hg w51 hbox hb; have GW731 := zkZ hg (zaB (p := Below w.heap.size w _)); replace HB := Aside0.mk (below_step zaB hb); have BK731 := Aside0.mk (hbox); clear hb hbox hg) | ((with_reducible refine gtd 3 rfl ?_); refine zbx 3 #[.bool a1_0, .int .u64 a1_1, .int .u64 a1_2] 43 (h := ?_); intro gb732 hg w52 hbox hb; have GW732 := zkz HB hg; have NB731_732 := zkl BK731 hg; have NB732_731 := zkr BK731 hg; replace BK731 := zkb BK731 hb; replace HB := zkB HB hb; have BK732 := Aside0.mk (hbox); clear hb hbox hg))
 replace BK731 := Aside0.mk (blk_drew BK731.out)
 replace BK732 := Aside0.mk (blk_drew BK732.out)
 replace HB := Aside0.mk (below_drew1 HB.out)
 refine start_ (n := 6) (S := fun w' => w'.cell? ⟨gb731, 0, none⟩ = some (.bool a0_0) ∧ w'.cell? ⟨gb731, 1, none⟩ = some (.int .u64 a0_1) ∧ w'.cell? ⟨gb731, 2, none⟩ = some (.int .u64 a0_2) ∧ w'.cell? ⟨gb732, 0, none⟩ = some (.bool a1_0) ∧ w'.cell? ⟨gb732, 1, none⟩ = some (.int .u64 a1_1) ∧ w'.cell? ⟨gb732, 2, none⟩ = some (.int .u64 a1_2)) (ds := [4, 5]) #[false, false, false, false, false, false] (by kernel_rfl) rfl rfl (zk3 BK731 (ze3 BK732)) (fun hHeld => ?_)
 generalize w52.drew = w53 at BK731 BK732 HB hHeld ⊢
 refine take_ (i := 0) (N := some 5) (v := ?_) (a' := ?_) #[true, false, false, false, false, false] rfl rfl (by kernel_rfl) (fun _ _ _ h => h) (Or.inl ⟨by rfl, ?_⟩) hHeld ?_ ?_
 rotate_left
 ·rintro w' ⟨s0, s1, s2, s3, s4, s5⟩
  go_simp
  with_reducible rfl
 rotate_left
 ·simp only [Act.put, List.setIfInBounds_toArray, List.set_cons_zero, List.set_cons_succ, i64_w, i32_w]
  rfl
 refine take_ (i := 2) (N := some 7) (v := ?_) (a' := ?_) #[true, false, true, false, false, false] rfl rfl (by kernel_rfl) (fun _ _ _ h => h) (Or.inl ⟨by rfl, ?_⟩) hHeld ?_ ?_
 rotate_left
 ·rintro w' ⟨s0, s1, s2, s3, s4, s5⟩
  go_simp
  with_reducible rfl
 rotate_left
 ·simp only [Act.put, List.setIfInBounds_toArray, List.set_cons_zero, List.set_cons_succ, i64_w, i32_w]
  rfl
 refine one_ (i := 1) (N := some 6) #[true, true, true, false, false, false] rfl rfl (by kernel_rfl) (by decide) (fun K hK => ?_)
 refine zgA Try.func112 (span_norm.calls k a0_0 a0_1 a0_2 false t734 t735 _ A3.out) (h := ?_)
 rintro w54 hb
 replace BK731 := zkb BK731 hb
 replace BK732 := zkb BK732 hb
 replace HB := zkB HB hb
 (try clear hb)
 refine hK.out _ _ (zk3 BK731 (ze3 BK732)) (fun hHeld => ?_)
 clear hK K
 refine znA 6 (h := ?_)
 refine one_ (i := 3) (N := some 8) #[true, true, true, true, false, false] rfl rfl (by kernel_rfl) (by decide) (fun K hK => ?_)
 refine zgA Try.func112 (span_norm.calls k a1_0 a1_1 a1_2 false t737 t738 _ A4.out) (h := ?_)
 rintro w55 hb
 replace BK731 := zkb BK731 hb
 replace BK732 := zkb BK732 hb
 replace HB := zkB HB hb
 (try clear hb)
 refine hK.out _ _ (zk3 BK731 (ze3 BK732)) (fun hHeld => ?_)
 clear hK K
 refine znA 8 (h := ?_)
 refine last_ (i := 4) (N := none) #[true, true, true, true, true, false] rfl rfl (by kernel_rfl) (by decide) (fun K hK => ?_)
 have hs56 := zc0 BK731
 have hfs56 := blk_frozen BK731.out 0
 obtain ⟨_, _⟩ := zsy NB732_731
 have hs57 := zc1 BK731
 have hfs57 := blk_frozen BK731.out 1
 obtain ⟨_, _⟩ := zsy NB732_731
 have hs58 := zc2 BK731
 have hfs58 := blk_frozen BK731.out 2
 obtain ⟨_, _⟩ := zsy NB732_731
 refine skip_ (w1 := ?_) (by rfl) rfl ?_ ?_
 rotate_left
 ·go_simp
  rfl
 refine hK.out _ _ ?_
 clear hK K
 refine last_ (i := 5) (N := none) #[true, true, true, true, true, true] rfl rfl (by kernel_rfl) (by decide) (fun K hK => ?_)
 have hs59 := zc0 BK732
 have hfs59 := blk_frozen BK732.out 0
 obtain ⟨_, _⟩ := zsy NB731_732
 have hs60 := zc1 BK732
 have hfs60 := blk_frozen BK732.out 1
 obtain ⟨_, _⟩ := zsy NB731_732
 have hs61 := zc2 BK732
 have hfs61 := blk_frozen BK732.out 2
 obtain ⟨_, _⟩ := zsy NB731_732
 refine skip_ (w1 := ?_) (by rfl) rfl ?_ ?_
 rotate_left
 ·go_simp
  rfl
 refine hK.out _ _ ?_
 clear hK K
 refine done_ (by kernel_rfl) ?_
 obtain ⟨_, _⟩ := zsy NB731_732
 obtain ⟨_, _, _, _, _, _⟩ := zq3 BK731
 obtain ⟨_, _, _, _, _, _⟩ := zq3 BK732
 try go_wp2_with (first | (go_at_call 117; (with_reducible refine (span_atMost.calls k t737 t734 false _ A34.out).mono ?_); rintro e w' ⟨rfl, ⟨nd, rfl⟩⟩))
 go_ret
 exact ⟨zaE, zaB⟩
theorem span_Make.calls (k : Nat) (a0 : Int) (a1 : Int) (r1 : Bool) (r2 : Int) (r3 : Int) (w : World) (h : span_Make.f k a0 a1 = some (r1, r2, r3)) :
  Calls Try.prog 37 #[.int .u64 a0, .int .u64 a1] w fun e w' => e = .returned (.agg #[.bool r1, .int .u64 r2, .int .u64 r3]) ∧ Below w.heap.size w w' := by
 have hu43 := Try.underlying43
 have HB := Aside0.mk (Below.refl w.heap.size w)
 have H : ((span_norm.f k false a0 a1).bind fun bt718 => (some (bt718.1, bt718.2.1, bt718.2.2))) = some (r1, r2, r3) := h
 clear h
 obtain ⟨⟨t718, t719, t720⟩, A3, H⟩ := zbs H
 try dsimp only at H
 simp only [Option.some.injEq, Prod.mk.injEq] at H
 obtain ⟨rfl, rfl, rfl⟩ := H
 go_enter Try.func37, Try.ntmps37
 go_wp2_with (first | ((with_reducible refine gtd 4 rfl ?_); refine zbx 4 #[.bool false, .int .u64 0, .int .u64 0] 43 (h := ?_); intro gb717 hg w4 hbox hb; have GW717 := zkZ hg (zaB (p := Below w.heap.size w _)); replace HB := Aside0.mk (below_step zaB hb); have BK717 := Aside0.mk (hbox); clear hb hbox hg) | ((with_reducible refine gtc 112 rfl ?_); refine zgL 8 Try.func112 (span_norm.calls k false a0 a1 t718 t719 t720 _ A3.out) (h := ?_); rintro w5 hb; replace BK717 := zkb BK717 hb; replace HB := zkB HB hb; (try clear hb); obtain ⟨_, _, _, _, _, _⟩ := zq3 BK717))
 refine bodyPost_ret (results_cell_row rfl _ _ gb717 43 #[.bool t718, .int .u64 t719, .int .u64 t720] (0, 0) _ rfl (blk_put (cs := #[.bool t718, .int .u64 t719, .int .u64 0]) (blk_put (cs := #[.bool t718, .int .u64 0, .int .u64 0]) (blk_put (zkq BK717) 0 _ rfl) 1 _ rfl) 2 _ rfl) Try.underlying43 rfl (by kernel_rfl)) rfl ?_
 exact ⟨zaE, zaB⟩
theorem span_Point.calls (k : Nat) (a0 : Int) (r1 : Bool) (r2 : Int) (r3 : Int) (w : World) (h : span_Point.f k a0 = some (r1, r2, r3)) :
  Calls Try.prog 39 #[.int .u64 a0] w fun e w' => e = .returned (.agg #[.bool r1, .int .u64 r2, .int .u64 r3]) ∧ Below w.heap.size w w' := by
 have hu43 := Try.underlying43
 have HB := Aside0.mk (Below.refl w.heap.size w)
 have H : ((span_Make.f k a0 a0).bind fun bt722 => (some (bt722.1, bt722.2.1, bt722.2.2))) = some (r1, r2, r3) := h
 clear h
 obtain ⟨⟨t722, t723, t724⟩, A2, H⟩ := zbs H
 try dsimp only at H
 simp only [Option.some.injEq, Prod.mk.injEq] at H
 obtain ⟨rfl, rfl, rfl⟩ := H
 go_enter Try.func39, Try.ntmps39
 go_wp2_with (first | ((with_reducible refine gtd 2 rfl ?_); refine zbx 2 #[.bool false, .int .u64 0, .int .u64 0] 43 (h := ?_); intro gb721 hg w3 hbox hb; have GW721 := zkZ hg (zaB (p := Below w.heap.size w _)); replace HB := Aside0.mk (below_step zaB hb); have BK721 := Aside0.mk (hbox); clear hb hbox hg) | ((with_reducible refine gtc 37 rfl ?_); refine zgL 5 Try.func37 (span_Make.calls k a0 a0 t722 t723 t724 _ A2.out) (h := ?_); rintro w4 hb; replace BK721 := zkb BK721 hb; replace HB := zkB HB hb; (try clear hb); obtain ⟨_, _, _, _, _, _⟩ := zq3 BK721))
 refine bodyPost_ret (results_cell_row rfl _ _ gb721 43 #[.bool t722, .int .u64 t723, .int .u64 t724] (0, 0) _ rfl (blk_put (cs := #[.bool t722, .int .u64 t723, .int .u64 0]) (blk_put (cs := #[.bool t722, .int .u64 0, .int .u64 0]) (blk_put (zkq BK721) 0 _ rfl) 1 _ rfl) 2 _ rfl) Try.underlying43 rfl (by kernel_rfl)) rfl ?_
 exact ⟨zaE, zaB⟩
theorem span_All.calls (k : Nat)  (r1 : Bool) (r2 : Int) (r3 : Int) (w : World) (h : span_All.f k  = some (r1, r2, r3)) :
  Calls Try.prog 40 #[] w fun e w' => e = .returned (.agg #[.bool r1, .int .u64 r2, .int .u64 r3]) ∧ Below w.heap.size w w' := by
 have hu43 := Try.underlying43
 have HB := Aside0.mk (Below.refl w.heap.size w)
 have H : ((span_ninf.f k).bind fun t726 => ((span_inf.f k).bind fun t727 => ((span_Make.f k t726 t727).bind fun bt728 => (some (bt728.1, bt728.2.1, bt728.2.2))))) = some (r1, r2, r3) := h
 clear h
 obtain ⟨t726, A1, H⟩ := zbs H
 try dsimp only at H
 obtain ⟨t727, A2, H⟩ := zbs H
 try dsimp only at H
 obtain ⟨⟨t728, t729, t730⟩, A3, H⟩ := zbs H
 try dsimp only at H
 simp only [Option.some.injEq, Prod.mk.injEq] at H
 obtain ⟨rfl, rfl, rfl⟩ := H
 go_enter Try.func40, Try.ntmps40
 go_wp2_with (first | ((with_reducible refine gtd 0 rfl ?_); refine zbx 0 #[.bool false, .int .u64 0, .int .u64 0] 43 (h := ?_); intro gb725 hg w4 hbox hb; have GW725 := zkZ hg (zaB (p := Below w.heap.size w _)); replace HB := Aside0.mk (below_step zaB hb); have BK725 := Aside0.mk (hbox); clear hb hbox hg) | ((with_reducible refine gtc 113 rfl ?_); refine zgL 1 Try.func113 (span_ninf.calls k  t726 _ A1.out) (h := ?_); rintro w' ⟨nd, rfl⟩; (try (rw [drewN_self w4]; generalize hq_ : World.drewN w4 _ = w4; have n0_ : Aside0 (w4.heap[gb725]? = some (.cells #[.bool false, .int .u64 0, .int .u64 0] 43 (0, 0))) := ⟨by rw [← hq_]; exact (zkq BK725)⟩; have n1_ : Aside0 (Below w.heap.size w w4) := ⟨by rw [← hq_]; exact zaB⟩; clear BK725 HB hq_; have BK725 := n0_; have HB := n1_; clear n0_ n1_))) | ((with_reducible refine gtc 114 rfl ?_); refine zgL 2 Try.func114 (span_inf.calls k  t727 _ A2.out) (h := ?_); rintro w' ⟨nd, rfl⟩; (try (rw [drewN_self w4]; generalize hq_ : World.drewN w4 _ = w4; have n0_ : Aside0 (w4.heap[gb725]? = some (.cells #[.bool false, .int .u64 0, .int .u64 0] 43 (0, 0))) := ⟨by rw [← hq_]; exact (zkq BK725)⟩; have n1_ : Aside0 (Below w.heap.size w w4) := ⟨by rw [← hq_]; exact zaB⟩; clear BK725 HB hq_; have BK725 := n0_; have HB := n1_; clear n0_ n1_))) | ((with_reducible refine gtc 37 rfl ?_); refine zgL 3 Try.func37 (span_Make.calls k t726 t727 t728 t729 t730 _ A3.out) (h := ?_); rintro w5 hb; replace BK725 := zkb BK725 hb; replace HB := zkB HB hb; (try clear hb); obtain ⟨_, _, _, _, _, _⟩ := zq3 BK725))
 refine bodyPost_ret (results_cell_row rfl _ _ gb725 43 #[.bool t728, .int .u64 t729, .int .u64 t730] (0, 0) _ rfl (blk_put (cs := #[.bool t728, .int .u64 t729, .int .u64 0]) (blk_put (cs := #[.bool t728, .int .u64 0, .int .u64 0]) (blk_put (zkq BK725) 0 _ rfl) 1 _ rfl) 2 _ rfl) Try.underlying43 rfl (by kernel_rfl)) rfl ?_
 exact ⟨zaE, zaB⟩
def span_Has.T1 : Bool × List (List Nat × List Nat) := (true, [([], []), ([0], [0]), ([1], [1]), ([2, 1], [2]), ([3], [3]), ([4, 3, 3], [3, 4]), ([5, 3], [3, 5]), ([6, 3], [3, 6]), ([3, 7], [3, 7]), ([8, 5], [8]), ([9], [9]), ([10, 9, 9], [9, 10]), ([9], [9]), ([11, 12, 11, 9], [9, 11, 12]), ([9, 13], [9, 13]), ([14, 13, 0, 1, 2, 3, 4, 5, 6, 7, 8, 9, 10, 11, 12, 13, 14], [14])])
def span_Has.B1 : List Nat := [0, 1, 3, 7, 15, 31, 63, 127, 255, 511, 1023, 2047, 1023, 8191, 16383, 32767]
theorem span_Has.tab1 : rtab .any (opsOf Try.f41 1) = span_Has.T1 := by kernel_rfl
theorem span_Has.bits1 : waitsOk span_Has.T1.2 span_Has.B1 = true := by kernel_rfl
theorem span_Has.calls (k : Nat) (a0_0 : Bool) (a0_1 : Int) (a0_2 : Int) (a1 : Int) (r : Bool) (w : World) (h : span_Has.f k a0_0 a0_1 a0_2 a1 = some r) :
  Calls Try.prog 41 #[.agg #[.bool a0_0, .int .u64 a0_1, .int .u64 a0_2], .int .u64 a1] w fun e w' => e = .returned (.bool r) ∧ Below w.heap.size w w' := by
 have hu43 := Try.underlying43
 have hfd0_ : ∀ (b : Bool) (x y : Int) (w : World), (Instr.field 43 (.agg #[.bool b, .int .u64 x, .int .u64 y]) 0).run Try.prog w = .ok (.bool b) w := fun _ _ _ _ => by kernel_rfl
 have hfd1_ : ∀ (b : Bool) (x y : Int) (w : World), (Instr.field 43 (.agg #[.bool b, .int .u64 x, .int .u64 y]) 1).run Try.prog w = .ok (.int .u64 x) w := fun _ _ _ _ => by kernel_rfl
 have hfd2_ : ∀ (b : Bool) (x y : Int) (w : World), (Instr.field 43 (.agg #[.bool b, .int .u64 x, .int .u64 y]) 2).run Try.prog w = .ok (.int .u64 y) w := fun _ _ _ _ => by kernel_rfl
 have HB := Aside0.mk (Below.refl w.heap.size w)
 have H : ((pattern_Class.f k a1).bind fun t742 => (if t742 = 3 then (some false) else ((span_Point.f k a1).bind fun bt743 => (if bt743.1 = true then (some false) else ((span_Point.f k a1).bind fun bt746 => ((span_Inside.f k bt746.1 bt746.2.1 bt746.2.2 a0_0 a0_1 a0_2).bind fun t749 => (some t749))))))) = some r := h
 clear h
 obtain ⟨t742, A3, H⟩ := zbs H
 try dsimp only at H
 by_cases c4 : t742 = 3
 ·rw [if_pos c4] at H
  have c4b0 : (t742 == 3) = true := beq_iff_eq.mpr c4
  have c4b1 : (t742 != 3) = false := bne_eq_false_iff_eq.mpr c4
  clear c4
  obtain rfl := Option.some.inj H
  go_enter Try.func41, Try.ntmps41
  try go_wp2_with (first | ((with_reducible refine gtd 2 rfl ?_); refine zbx 2 #[.bool a0_0, .int .u64 a0_1, .int .u64 a0_2] 43 (h := ?_); intro gb741 hg w5 hbox hb; have GW741 := zkZ hg (zaB (p := Below w.heap.size w _)); replace HB := Aside0.mk (below_step zaB hb); have BK741 := Aside0.mk (hbox); clear hb hbox hg))
  replace BK741 := Aside0.mk (blk_drew BK741.out)
  replace HB := Aside0.mk (below_drew1 HB.out)
  refine start_ (n := 16) (S := fun w' => True) (ds := []) #[false, false, false, false, false, false, false, false, false, false, false, false, false, false, false, false] (by kernel_rfl) rfl rfl trivial (fun hHeld => ?_); refine with_tabW span_Has.tab1 span_Has.bits1 (fun HT_ HW_ => ?_)
  generalize w5.drew = w6 at BK741 HB hHeld ⊢
  refine zpA 0 5 (h := ?_)
  refine zoA 1 6 (h := fun K hK => ?_)
  refine zgA Try.func24 (pattern_Class.calls k a1 t742 _ A3.out) (h := ?_)
  rintro w' ⟨nd, rfl⟩
  refine hK.out _ _ trivial (fun hHeld => ?_)
  clear hK K
  refine znA 6 (h := ?_)
  refine zpA 2 7 (h := ?_)
  refine zpA 3 8 (h := ?_)
  refine zpU 4 9 (h := ?_)
  refine zpU 5 10 (h := ?_)
  refine zpU 6 11 (h := ?_)
  refine zpU 7 12 (h := ?_)
  refine zpA 8 13 (h := ?_)
  refine zpA 9 14 (h := ?_)
  refine zpU 10 15 (h := ?_)
  refine zpU 11 16 (h := ?_)
  refine zpU 12 17 (h := ?_)
  refine zpU 13 18 (h := ?_)
  refine zpA 14 19 (h := ?_)
  refine zpA 15 4 (h := ?_)
  refine done_ (done_of HT_.out (by kernel_rfl)) ?_
  try go_wp2
  go_ret
  exact ⟨zaE, zaB⟩
 rw [if_neg c4] at H
 have c4b0 : (t742 == 3) = false := beq_eq_false_iff_ne.mpr c4
 have c4b1 : (t742 != 3) = true := bne_iff_ne.mpr c4
 obtain ⟨⟨t743, t744, t745⟩, A7, H⟩ := zbs H
 try dsimp only at H
 by_cases c8 : t743 = true
 ·subst c8
  replace H := zit H
  obtain rfl := Option.some.inj H
  go_enter Try.func41, Try.ntmps41
  try go_wp2_with (first | ((with_reducible refine gtd 2 rfl ?_); refine zbx 2 #[.bool a0_0, .int .u64 a0_1, .int .u64 a0_2] 43 (h := ?_); intro gb741 hg w9 hbox hb; have GW741 := zkZ hg (zaB (p := Below w.heap.size w _)); replace HB := Aside0.mk (below_step zaB hb); have BK741 := Aside0.mk (hbox); clear hb hbox hg))
  replace BK741 := Aside0.mk (blk_drew BK741.out)
  replace HB := Aside0.mk (below_drew1 HB.out)
  refine start_ (n := 16) (S := fun w' => True) (ds := []) #[false, false, false, false, false, false, false, false, false, false, false, false, false, false, false, false] (by kernel_rfl) rfl rfl trivial (fun hHeld => ?_); refine with_tabW span_Has.tab1 span_Has.bits1 (fun HT_ HW_ => ?_)
  generalize w9.drew = w10 at BK741 HB hHeld ⊢
  refine zpA 0 5 (h := ?_)
  refine zoA 1 6 (h := fun K hK => ?_)
  refine zgA Try.func24 (pattern_Class.calls k a1 t742 _ A3.out) (h := ?_)
  rintro w' ⟨nd, rfl⟩
  refine hK.out _ _ trivial (fun hHeld => ?_)
  clear hK K
  refine znA 6 (h := ?_)
  refine zpA 2 7 (h := ?_)
  refine zpA 3 8 (h := ?_)
  refine zpA 4 9 (h := ?_)
  refine zoA 5 10 (h := fun K hK => ?_)
  refine zgA Try.func39 (span_Point.calls k a1 true t744 t745 _ A7.out) (h := ?_)
  rintro w11 hb
  replace BK741 := zkb BK741 hb
  replace HB := zkB HB hb
  (try clear hb)
  refine hK.out _ _ trivial (fun hHeld => ?_)
  clear hK K
  refine znA 10 (h := ?_)
  refine zpA 6 11 (h := ?_)
  refine zpA 7 12 (h := ?_)
  refine zpA 8 13 (h := ?_)
  refine zpA 9 14 (h := ?_)
  refine zpU 10 15 (h := ?_)
  refine zpU 11 16 (h := ?_)
  refine zpU 12 17 (h := ?_)
  refine zpU 13 18 (h := ?_)
  refine zpA 14 19 (h := ?_)
  refine zpA 15 4 (h := ?_)
  refine done_ (done_of HT_.out (by kernel_rfl)) ?_
  try go_wp2
  go_ret
  exact ⟨zaE, zaB⟩
 replace c8 := Bool.eq_false_iff.mpr c8
 subst c8
 replace H := zif H
 obtain ⟨⟨t746, t747, t748⟩, A12, H⟩ := zbs H
 try dsimp only at H
 obtain ⟨t749, A13, H⟩ := zbs H
 try dsimp only at H
 obtain rfl := Option.some.inj H
 go_enter Try.func41, Try.ntmps41
 try go_wp2_with (first | ((with_reducible refine gtd 2 rfl ?_); refine zbx 2 #[.bool a0_0, .int .u64 a0_1, .int .u64 a0_2] 43 (h := ?_); intro gb741 hg w14 hbox hb; have GW741 := zkZ hg (zaB (p := Below w.heap.size w _)); replace HB := Aside0.mk (below_step zaB hb); have BK741 := Aside0.mk (hbox); clear hb hbox hg))
 replace BK741 := Aside0.mk (blk_drew BK741.out)
 replace HB := Aside0.mk (below_drew1 HB.out)
 refine start_ (n := 16) (S := fun w' => w'.cell? ⟨gb741, 0, none⟩ = some (.bool a0_0) ∧ w'.cell? ⟨gb741, 1, none⟩ = some (.int .u64 a0_1) ∧ w'.cell? ⟨gb741, 2, none⟩ = some (.int .u64 a0_2)) (ds := []) #[false, false, false, false, false, false, false, false, false, false, false, false, false, false, false, false] (by kernel_rfl) rfl rfl (ze3 BK741) (fun hHeld => ?_); refine with_tabW span_Has.tab1 span_Has.bits1 (fun HT_ HW_ => ?_)
 generalize w14.drew = w15 at BK741 HB hHeld ⊢
 refine zpA 0 5 (h := ?_)
 refine zoA 1 6 (h := fun K hK => ?_)
 refine zgA Try.func24 (pattern_Class.calls k a1 t742 _ A3.out) (h := ?_)
 rintro w' ⟨nd, rfl⟩
 refine hK.out _ _ (ze3 BK741) (fun hHeld => ?_)
 clear hK K
 refine znA 6 (h := ?_)
 refine zpA 2 7 (h := ?_)
 refine zpA 3 8 (h := ?_)
 refine zpA 4 9 (h := ?_)
 refine zoA 5 10 (h := fun K hK => ?_)
 refine zgA Try.func39 (span_Point.calls k a1 false t744 t745 _ A7.out) (h := ?_)
 rintro w16 hb
 replace BK741 := zkb BK741 hb
 replace HB := zkB HB hb
 (try clear hb)
 refine hK.out _ _ (ze3 BK741) (fun hHeld => ?_)
 clear hK K
 refine znA 10 (h := ?_)
 refine zpA 6 11 (h := ?_)
 refine zpA 7 12 (h := ?_)
 refine zpA 8 13 (h := ?_)
 refine zpA 9 14 (h := ?_)
 refine zpA 10 15 (h := ?_)
 refine ztA 12 17 (h := ?_)
 refine zoA 11 16 (h := fun K hK => ?_)
 refine zgA Try.func39 (span_Point.calls k a1 t746 t747 t748 _ A12.out) (h := ?_)
 rintro w17 hb
 replace BK741 := zkb BK741 hb
 replace HB := zkB HB hb
 (try clear hb)
 refine hK.out _ _ (ze3 BK741) (fun hHeld => ?_)
 clear hK K
 refine znA 16 (h := ?_)
 refine zoA 13 18 (h := fun K hK => ?_)
 refine zgA Try.func43 (span_Inside.calls k t746 t747 t748 a0_0 a0_1 a0_2 t749 _ A13.out) (h := ?_)
 rintro w18 hb
 replace BK741 := zkb BK741 hb
 replace HB := zkB HB hb
 (try clear hb)
 refine hK.out _ _ (ze3 BK741) (fun hHeld => ?_)
 clear hK K
 refine znA 18 (h := ?_)
 refine zpA 14 19 (h := ?_)
 refine zpA 15 4 (h := ?_)
 refine done_ (done_of HT_.out (by kernel_rfl)) ?_
 try go_wp2
 go_ret
 exact ⟨zaE, zaB⟩
theorem pattern_Less.calls (k : Nat) (a0 : Int) (a1 : Int) (r : Bool) (w : World) (h : pattern_Less.f k a0 a1 = some r) :
  Calls Try.prog 34 #[.int .u64 a0, .int .u64 a1] w fun e w' => e = .returned (.bool r) ∧ Drawn0 w w' := by
 have H : ((pattern_Cmp.f k a0 a1).bind fun bt685 => (if bt685.2 = true then (some (decide (bt685.1 < 0))) else (some false))) = some r := h
 clear h
 obtain ⟨⟨t685, t686⟩, A3, H⟩ := zbs H
 try dsimp only at H
 by_cases c4 : t686 = true
 ·subst c4
  replace H := zit H
  obtain rfl := Option.some.inj H
  go_enter Try.func34, Try.ntmps34
  go_wp2_with (first | ((with_reducible refine gtc 33 rfl ?_); refine zgL 10 Try.func33 (pattern_Cmp.calls k a0 a1 t685 true _ A3.out) (h := ?_); rintro w' ⟨nd, rfl⟩))
  go_ret
  exact ⟨by first | rfl | (simp; done) | (simp [*]; done), by repeat (first | exact Drawn0.refl _ | apply Drawn0.step)⟩
 replace c4 := Bool.eq_false_iff.mpr c4
 subst c4
 replace H := zif H
 obtain rfl := Option.some.inj H
 go_enter Try.func34, Try.ntmps34
 go_wp2_with (first | ((with_reducible refine gtc 33 rfl ?_); refine zgL 10 Try.func33 (pattern_Cmp.calls k a0 a1 t685 false _ A3.out) (h := ?_); rintro w' ⟨nd, rfl⟩))
 go_ret
 exact ⟨by first | rfl | (simp; done) | (simp [*]; done), by repeat (first | exact Drawn0.refl _ | apply Drawn0.step)⟩
theorem pattern_best.two (fv : Nat) (fn : Func) (hf : Try.prog.funcs[fv]? = some fn) (hn : (fn.name == "runtime.NumGoroutine") = false) (hbd : fn.body.isSome = true) (k : Nat) (x y : Int) (ad : Addr) (c : Nat) (b1 b2 : Bool) (w : World)
  (h0 : w.cell? ad = some (.int .u64 x)) (h1 : w.cell? (ad.add 1) = some (.int .u64 y)) (A1 : Aside0 (pattern_nan.f k x = some false)) (A2 : Aside0 (pattern_nan.f k y = some false))
  (L1 : ∀ w, Calls Try.prog fv #[.int .u64 x, .int .u64 x] w (fun e w' => e = .returned (.bool b1) ∧ Drawn0 w w')) (L2 : ∀ w, Calls Try.prog fv #[.int .u64 y, .int .u64 x] w (fun e w' => e = .returned (.bool b2) ∧ Drawn0 w w')) :
  Calls Try.prog 165 #[.slice (some ad) 2 c, .func (.func fv) #[] #[]] w (fun e w' => e = .returned (.int .u64 (if b2 = true then y else x)) ∧ Drawn0 w w') := by
 have z1 : w.cell? ⟨ad.block, ad.off + 1, none⟩ = some (.int .u64 y) := h1
 cases b1 <;> cases b2
 all_goals
  go_enter Try.func165, Try.ntmps165
  go_wp2
  refine wp_loop_rounds 3 ?_
  rw [rounds_succ]
  go_wp2_with (first | ((with_reducible refine gtc 109 rfl ?_); refine zgL 22 Try.func109 (pattern_nan.calls k x false _ A1.out) (h := ?_); rintro wq ⟨nd, rfl⟩) | (refine zgV (some 27) (.tmp 24) hf (L1 _) rfl rfl rfl hn hbd (h := ?_); rintro wq ⟨ne, rfl⟩))
  rw [rounds_succ]
  go_wp2_with (first | ((with_reducible refine gtc 109 rfl ?_); refine zgL 22 Try.func109 (pattern_nan.calls k y false _ A2.out) (h := ?_); rintro wq ⟨nd2, rfl⟩) | (refine zgV (some 27) (.tmp 24) hf (L2 _) rfl rfl rfl hn hbd (h := ?_); rintro wq ⟨ne2, rfl⟩))
  rw [rounds_succ]
  go_wp2
  go_ret
  exact ⟨zaE, by repeat (first | exact Drawn0.refl _ | apply Drawn0.step)⟩
theorem pattern_Min.calls (k : Nat) (A0 : Option Addr) (c0 : Nat) (l0 : List Int) (r : Int) (w : World) (hr0 : Kd.C (Kd.int .u64) w A0 l0.length l0) (hc0 : l0.length ≤ c0) (h : pattern_Min.f k l0 = some r) :
  Calls Try.prog 119 #[.slice A0 l0.length c0] w fun e w' => e = .returned (.int .u64 r) ∧ Below w.heap.size w w' := by
 match l0, h with
 | [], h => cases h
 | [x], h => cases h
 | x :: y :: z :: l, h => cases h
 | [x, y], h =>
  have h : ((pattern_nan.f k x).bind fun t => if t = true then none else (pattern_Less.f k x x).bind fun _ => (pattern_nan.f k y).bind fun u => if u = true then none else (pattern_Less.f k y x).bind fun b => some (if b = true then y else x)) = some r := h
  obtain ⟨t, A1, h⟩ := zbs h
  try dsimp only at h
  cases t
  ·rw [if_neg (by decide)] at h
   obtain ⟨b1, B1, h⟩ := zbs h
   obtain ⟨u, A2, h⟩ := zbs h
   cases u
   ·rw [if_neg (by decide)] at h
    obtain ⟨b2, B2, h⟩ := zbs h
    obtain rfl := Option.some.inj h
    replace B1 := B1.out
    replace B2 := B2.out
    obtain ⟨ad, rfl, x0⟩ := Kd.at_int hr0 0 (by decide) (by simp)
    obtain ⟨ad2, e2, x1⟩ := Kd.at_int hr0 1 (by decide) (by simp)
    obtain rfl := Option.some.inj e2
    have x0 : w.cell? ad = some (.int .u64 x) := by have e : ad.add (0 : Int).toNat = ad := rfl; rw [e] at x0; exact x0
    have x1 : w.cell? (ad.add 1) = some (.int .u64 y) := x1
    have T := pattern_best.two 34 _ Try.func34 (by kernel_rfl) rfl k x y ad c0 b1 b2 w x0 x1 A1 A2 (fun w => pattern_Less.calls k x x b1 w B1) (fun w => pattern_Less.calls k y x b2 w B2)
    generalize (if b2 = true then y else x) = v at T ⊢
    clear hr0 x0 x1 A1 A2 B1 B2 hc0
    go_enter Try.func119, Try.ntmps119
    go_wp2_with ((with_reducible refine gtc 165 rfl ?_); refine zgL 4 Try.func165 T (h := ?_); rintro wq ⟨nd, rfl⟩)
    go_ret
    exact ⟨rfl, pw_below_drewN (Below.refl _ _) _⟩
   rw [if_pos rfl] at h; cases h
  rw [if_pos rfl] at h; cases h
theorem pattern_Max.one (k : Nat) (x y : Int) (b : Bool) (w : World) (h : pattern_Less.f k y x = some b) :
  Calls Try.prog 166 #[.int .u64 x, .int .u64 y] w fun e w' => e = .returned (.bool b) ∧ Drawn0 w w' := by
 go_enter Try.func166, Try.ntmps166
 go_wp2_with ((with_reducible refine gtc 34 rfl ?_); refine zgL 7 Try.func34 (pattern_Less.calls k y x b _ h) (h := ?_); rintro wq ⟨nd, rfl⟩)
 go_ret
 exact ⟨rfl, by repeat (first | exact Drawn0.refl _ | apply Drawn0.step)⟩
theorem pattern_Max.calls (k : Nat) (A0 : Option Addr) (c0 : Nat) (l0 : List Int) (r : Int) (w : World) (hr0 : Kd.C (Kd.int .u64) w A0 l0.length l0) (hc0 : l0.length ≤ c0) (h : pattern_Max.f k l0 = some r) :
  Calls Try.prog 120 #[.slice A0 l0.length c0] w fun e w' => e = .returned (.int .u64 r) ∧ Below w.heap.size w w' := by
 match l0, h with
 | [], h => cases h
 | [x], h => cases h
 | x :: y :: z :: l, h => cases h
 | [x, y], h =>
  have h : ((pattern_nan.f k x).bind fun t => if t = true then none else (pattern_Less.f k x x).bind fun _ => (pattern_nan.f k y).bind fun u => if u = true then none else (pattern_Less.f k x y).bind fun b => some (if b = true then y else x)) = some r := h
  obtain ⟨t, A1, h⟩ := zbs h
  try dsimp only at h
  cases t
  ·rw [if_neg (by decide)] at h
   obtain ⟨b1, B1, h⟩ := zbs h
   obtain ⟨u, A2, h⟩ := zbs h
   cases u
   ·rw [if_neg (by decide)] at h
    obtain ⟨b2, B2, h⟩ := zbs h
    obtain rfl := Option.some.inj h
    replace B1 := B1.out
    replace B2 := B2.out
    obtain ⟨ad, rfl, x0⟩ := Kd.at_int hr0 0 (by decide) (by simp)
    obtain ⟨ad2, e2, x1⟩ := Kd.at_int hr0 1 (by decide) (by simp)
    obtain rfl := Option.some.inj e2
    have x0 : w.cell? ad = some (.int .u64 x) := by have e : ad.add (0 : Int).toNat = ad := rfl; rw [e] at x0; exact x0
    have x1 : w.cell? (ad.add 1) = some (.int .u64 y) := x1
    have T := pattern_best.two 166 _ Try.func166 (by kernel_rfl) rfl k x y ad c0 b1 b2 w x0 x1 A1 A2 (fun w => pattern_Max.one k x x b1 w B1) (fun w => pattern_Max.one k y x b2 w B2)
    generalize (if b2 = true then y else x) = v at T ⊢
    clear hr0 x0 x1 A1 A2 B1 B2 hc0
    go_enter Try.func120, Try.ntmps120
    go_wp2_with ((with_reducible refine gtc 165 rfl ?_); refine zgL 4 Try.func165 T (h := ?_); rintro wq ⟨nd, rfl⟩)
    go_ret
    exact ⟨rfl, pw_below_drewN (Below.refl _ _) _⟩
   rw [if_pos rfl] at h; cases h
  rw [if_pos rfl] at h; cases h
def span_Join.T6 : Bool × List (List Nat × List Nat) := (true, [([], []), ([0], [0]), ([], []), ([2], [2]), ([1, 3], [1, 3]), ([4], [4]), ([], []), ([6], [6]), ([], []), ([8], [8]), ([7, 9], [7, 9]), ([10, 5], [10]), ([5, 11, 11], [5, 11]), ([12, 12, 0, 1, 2, 3, 4, 5, 6, 7, 8, 9, 10, 11, 12], [12])])
def span_Join.B6 : List Nat := [0, 1, 0, 4, 15, 31, 0, 64, 0, 256, 960, 2047, 4095, 8191]
theorem span_Join.tab6 : rtab .any (opsOf Try.f45 6) = span_Join.T6 := by kernel_rfl
theorem span_Join.bits6 : waitsOk span_Join.T6.2 span_Join.B6 = true := by kernel_rfl
theorem span_Join.calls (k : Nat) (A0 : Option Addr) (c0 : Nat) (l0 : List (S43)) (r1 : Bool) (r2 : Int) (r3 : Int) (w : World) (hr0 : Kd.C k43 w A0 l0.length l0) (hc0 : l0.length ≤ c0) (h : span_Join.f k l0 = some (r1, r2, r3)) :
  Calls Try.prog 45 #[.slice A0 l0.length c0] w fun e w' => e = .returned (.agg #[.bool r1, .int .u64 r2, .int .u64 r3]) ∧ Below w.heap.size w w' := by
 have hu43 := Try.underlying43
 have HR0 := Aside0.mk hr0
 have HC0 := Aside0.mk hc0
 clear hr0 hc0
 have HB := Aside0.mk (Below.refl w.heap.size w)
 have H : ((span_none.f).bind fun bt751 => (span_Join.l0 k l0 (l0.length : Int) 0 bt751.1 bt751.2.1 bt751.2.2)) = some (r1, r2, r3) := h
 clear h
 obtain ⟨⟨t751, t752, t753⟩, A2, H⟩ := zbs H
 try dsimp only at H
 have H' := Aside0.mk H
 clear H
 go_enter Try.func45, Try.ntmps45
 go_wp2_with (first | ((with_reducible refine gtd 2 rfl ?_); refine zbx 2 #[.bool false, .int .u64 0, .int .u64 0] 43 (h := ?_); intro gb750 hg w3 hbox hb; have GW750 := zkZ hg (zaB (p := Below w.heap.size w _)); replace HB := Aside0.mk (below_step zaB hb); have BK750 := Aside0.mk (hbox); clear hb hbox hg) | ((with_reducible refine gtc 118 rfl ?_); refine zgL 6 Try.func118 (span_none.calls  t751 t752 t753 _ A2.out) (h := ?_); rintro w4 hb; replace BK750 := zkb BK750 hb; replace HB := zkB HB hb; (try clear hb)) | ((with_reducible refine gtd 3 rfl ?_); refine zbx 3 #[.bool false, .int .u64 0, .int .u64 0] 43 (h := ?_); intro gb754 hg w5 hbox hb; have GW754 := zkz HB hg; have NB750_754 := zkl BK750 hg; have NB754_750 := zkr BK750 hg; replace BK750 := zkb BK750 hb; replace HB := zkB HB hb; have BK754 := Aside0.mk (hbox); clear hb hbox hg; obtain ⟨_, _⟩ := zsy NB754_750; obtain ⟨z7_0, z7_1, z7_2, f7_0, f7_1, f7_2⟩ := zq3 BK754))
 (try simp only [Act.put, List.setIfInBounds_toArray, List.set_cons_zero, List.set_cons_succ])
 go_loopg [9] k (fun kq v9 w' => ∃ (x9_1 : Int) (x755000_1 : Bool) (x755001_1 : Int) (x755002_1 : Int), v9 = .int .i64 x9_1 ∧ Aside0 (span_Join.l0 kq l0 (l0.length : Int) x9_1 x755000_1 x755001_1 x755002_1 = some (r1, r2, r3)) ∧ Aside0 (kq ≤ k) ∧ Aside0 (w'.heap[gb750]? = some (.cells #[.bool false, .int .u64 0, .int .u64 0] 43 (0, 0))) ∧ Aside0 (w'.heap[gb754]? = some (.cells #[.bool x755000_1, .int .u64 x755001_1, .int .u64 x755002_1] 43 (0, 0))) ∧ Aside0 (Below w.heap.size w w'))
 case atStart => exact ⟨(0), (t751), (t752), (t753), zrl, H', ⟨Nat.le_refl _⟩, ⟨(zkf (zkf (zkf (zkq BK750) NB750_754.out _) NB750_754.out _) NB750_754.out _)⟩, ⟨(blk_put (cs := #[.bool t751, .int .u64 t752, .int .u64 0]) (blk_put (cs := #[.bool t751, .int .u64 0, .int .u64 0]) (blk_put (zkq BK754) 0 _ rfl) 1 _ rfl) 2 _ rfl)⟩, ⟨zaB⟩⟩
 case round =>
  clear H'
  try clear c1
  try clear p2
  try clear c4
  try clear c6
  try clear z7_0 z7_1 z7_2 f7_0 f7_1 f7_2
  obtain ⟨x9_1, x755000_1, x755001_1, x755002_1, rfl, HA, HK1, BK750, BK754, HB⟩ := hrel
  cases gk with
  | zero => exact absurd HA.out (by simp [span_Join.l0])
  | succ k1 =>
   have H := HA.out
   clear HA
   simp only [span_Join.l0] at H
   by_cases c8 : x9_1 < (l0.length : Int)
   ·rw [if_pos c8] at H
    have c8b0 : decide (x9_1 < (l0.length : Int)) = true := decide_eq_true c8
    clear c8
    by_cases c9 : 0 ≤ x9_1
    ·rw [if_pos c9] at H
     have c9b0 : decide (0 ≤ x9_1) = true := decide_eq_true c9
     clear c9
     by_cases c10 : x9_1 < (l0.length : Int)
     ·rw [if_pos c10] at H
      have c10b0 : decide (x9_1 < (l0.length : Int)) = true := decide_eq_true c10
      clear c10
      obtain ⟨⟨t757, t758, t759⟩, A11, H⟩ := zbs H
      try dsimp only at H
      by_cases c12 : t757 = true
      ·subst c12
       replace H := zit H
       have H' := Aside0.mk H
       clear H
       have p755 : 0 ≤ (x9_1 : Int) := of_decide_eq_true (by first | (with_reducible assumption) | assumption)
       have q755 : x9_1 < (l0.length : Int) := of_decide_eq_true (by first | (with_reducible assumption) | assumption)
       obtain ⟨ad755, e755, hx755_0, hx755_1, hx755_2⟩ := at_T43 HR0.out x9_1 p755 q755
       cases e755
       replace hx755_0 := (HB.out.cell (World.block_lt_of_cell? w _ hx755_0)).trans hx755_0
       replace hx755_1 := (HB.out.cell (World.block_lt_of_cell? w _ hx755_1)).trans hx755_1
       replace hx755_2 := (HB.out.cell (World.block_lt_of_cell? w _ hx755_2)).trans hx755_2
       replace p755 := eq_true p755
       replace q755 := eq_true q755
       go_wp2_with (first | ((with_reducible refine gtd 5 rfl ?_); refine zbx 5 #[.bool false, .int .u64 0, .int .u64 0] 43 (h := ?_); intro gb756 hg w13 hbox hb; have GW756 := zkz HB hg; have NB750_756 := zkl BK750 hg; have NB756_750 := zkr BK750 hg; have NB754_756 := zkl BK754 hg; have NB756_754 := zkr BK754 hg; replace BK750 := zkb BK750 hb; replace BK754 := zkb BK754 hb; replace HB := zkB HB hb; have BK756 := Aside0.mk (hbox); clear hb hbox hg; obtain ⟨_, _, _, _⟩ := zs2 NB756_750 NB756_754; obtain ⟨_, _, _, _, _, _⟩ := zq3 BK756) | ((with_reducible refine gtc 112 rfl ?_); refine zgL 14 Try.func112 (span_norm.calls k1 ((rd_T43 l0 x9_1).f0) ((rd_T43 l0 x9_1).f1) ((rd_T43 l0 x9_1).f2) true t758 t759 _ A11.out) (h := ?_); rintro w17 hb; replace BK750 := Aside0.mk (blk_below (zkf (zkf (zkf BK750.out NB750_756.out _) NB750_756.out _) NB750_756.out _) hb); replace BK754 := Aside0.mk (blk_below (zkf (zkf (zkf BK754.out NB754_756.out _) NB754_756.out _) NB754_756.out _) hb); replace BK756 := Aside0.mk (blk_below (o := .cells #[.bool ((rd_T43 l0 x9_1).f0), .int .u64 ((rd_T43 l0 x9_1).f1), .int .u64 ((rd_T43 l0 x9_1).f2)] 43 (0, 0)) (blk_put (cs := #[.bool ((rd_T43 l0 x9_1).f0), .int .u64 ((rd_T43 l0 x9_1).f1), .int .u64 0]) (blk_put (cs := #[.bool ((rd_T43 l0 x9_1).f0), .int .u64 0, .int .u64 0]) (blk_put BK756.out 0 _ rfl) 1 _ rfl) 2 _ rfl) hb); replace HB := Aside0.mk (below_step (below_set (below_set (below_set HB.out GW756.out) GW756.out) GW756.out) hb); (try clear hb); have z18_0 : w17.cell? ⟨gb756, 0, none⟩ = some (.bool ((rd_T43 l0 x9_1).f0)) := (blk_cell BK756.out 0).trans rfl; have z18_1 : w17.cell? ⟨gb756, 1, none⟩ = some (.int .u64 ((rd_T43 l0 x9_1).f1)) := (blk_cell BK756.out 1).trans rfl; have z18_2 : w17.cell? ⟨gb756, 2, none⟩ = some (.int .u64 ((rd_T43 l0 x9_1).f2)) := (blk_cell BK756.out 2).trans rfl; have f18_0 := blk_frozen BK756.out 0; have f18_1 := blk_frozen BK756.out 1; have f18_2 := blk_frozen BK756.out 2))
       go_roundg k1
       case measure => have := HK1.out; omega
       case rel => exact ⟨(wrap64 (x9_1 + 1)), (x755000_1), (x755001_1), (x755002_1), zrl, H', ⟨by have := HK1.out; omega⟩, ⟨(zkf (zkf (zkf (zkq BK750) NB750_756.out _) NB750_756.out _) NB750_756.out _)⟩, ⟨(zkf (zkf (zkf (zkq BK754) NB754_756.out _) NB754_756.out _) NB754_756.out _)⟩, ⟨zaB⟩⟩
      replace c12 := Bool.eq_false_iff.mpr c12
      subst c12
      replace H := zif H
      by_cases c19 : x755000_1 = true
      ·subst c19
       replace H := zit H
       have H' := Aside0.mk H
       clear H
       have p755 : 0 ≤ (x9_1 : Int) := of_decide_eq_true (by first | (with_reducible assumption) | assumption)
       have q755 : x9_1 < (l0.length : Int) := of_decide_eq_true (by first | (with_reducible assumption) | assumption)
       obtain ⟨ad755, e755, hx755_0, hx755_1, hx755_2⟩ := at_T43 HR0.out x9_1 p755 q755
       cases e755
       replace hx755_0 := (HB.out.cell (World.block_lt_of_cell? w _ hx755_0)).trans hx755_0
       replace hx755_1 := (HB.out.cell (World.block_lt_of_cell? w _ hx755_1)).trans hx755_1
       replace hx755_2 := (HB.out.cell (World.block_lt_of_cell? w _ hx755_2)).trans hx755_2
       replace p755 := eq_true p755
       replace q755 := eq_true q755
       go_wp2_with (first | ((with_reducible refine gtd 5 rfl ?_); refine zbx 5 #[.bool false, .int .u64 0, .int .u64 0] 43 (h := ?_); intro gb756 hg w20 hbox hb; have GW756 := zkz HB hg; have NB750_756 := zkl BK750 hg; have NB756_750 := zkr BK750 hg; have NB754_756 := zkl BK754 hg; have NB756_754 := zkr BK754 hg; replace BK750 := zkb BK750 hb; replace BK754 := zkb BK754 hb; replace HB := zkB HB hb; have BK756 := Aside0.mk (hbox); clear hb hbox hg; obtain ⟨_, _, _, _⟩ := zs2 NB756_750 NB756_754; obtain ⟨_, _, _, _, _, _⟩ := zq3 BK756) | ((with_reducible refine gtc 112 rfl ?_); refine zgL 14 Try.func112 (span_norm.calls k1 ((rd_T43 l0 x9_1).f0) ((rd_T43 l0 x9_1).f1) ((rd_T43 l0 x9_1).f2) false t758 t759 _ A11.out) (h := ?_); rintro w24 hb; replace BK750 := Aside0.mk (blk_below (zkf (zkf (zkf BK750.out NB750_756.out _) NB750_756.out _) NB750_756.out _) hb); replace BK754 := Aside0.mk (blk_below (zkf (zkf (zkf BK754.out NB754_756.out _) NB754_756.out _) NB754_756.out _) hb); replace BK756 := Aside0.mk (blk_below (o := .cells #[.bool ((rd_T43 l0 x9_1).f0), .int .u64 ((rd_T43 l0 x9_1).f1), .int .u64 ((rd_T43 l0 x9_1).f2)] 43 (0, 0)) (blk_put (cs := #[.bool ((rd_T43 l0 x9_1).f0), .int .u64 ((rd_T43 l0 x9_1).f1), .int .u64 0]) (blk_put (cs := #[.bool ((rd_T43 l0 x9_1).f0), .int .u64 0, .int .u64 0]) (blk_put BK756.out 0 _ rfl) 1 _ rfl) 2 _ rfl) hb); replace HB := Aside0.mk (below_step (below_set (below_set (below_set HB.out GW756.out) GW756.out) GW756.out) hb); (try clear hb); have z25_0 : w24.cell? ⟨gb756, 0, none⟩ = some (.bool ((rd_T43 l0 x9_1).f0)) := (blk_cell BK756.out 0).trans rfl; have z25_1 : w24.cell? ⟨gb756, 1, none⟩ = some (.int .u64 ((rd_T43 l0 x9_1).f1)) := (blk_cell BK756.out 1).trans rfl; have z25_2 : w24.cell? ⟨gb756, 2, none⟩ = some (.int .u64 ((rd_T43 l0 x9_1).f2)) := (blk_cell BK756.out 2).trans rfl; have f25_0 := blk_frozen BK756.out 0; have f25_1 := blk_frozen BK756.out 1; have f25_2 := blk_frozen BK756.out 2; obtain ⟨_, _⟩ := zsy NB754_750; obtain ⟨_, _, _, _, _, _⟩ := zq3 BK754))
       go_roundg k1
       case measure => have := HK1.out; omega
       case rel => exact ⟨(wrap64 (x9_1 + 1)), (false), (t758), (t759), zrl, H', ⟨by have := HK1.out; omega⟩, ⟨(zkf (zkf (zkf (zkf (zkf (zkf (zkq BK750) NB750_756.out _) NB750_756.out _) NB750_756.out _) NB750_754.out _) NB750_754.out _) NB750_754.out _)⟩, ⟨(blk_put (cs := #[.bool false, .int .u64 t758, .int .u64 x755002_1]) (blk_put (cs := #[.bool false, .int .u64 x755001_1, .int .u64 x755002_1]) (blk_put (zkf (zkf (zkf (zkq BK754) NB754_756.out _) NB754_756.out _) NB754_756.out _) 0 _ rfl) 1 _ rfl) 2 _ rfl)⟩, ⟨zaB⟩⟩
      replace c19 := Bool.eq_false_iff.mpr c19
      subst c19
      replace H := zif H
      obtain ⟨y760, hy760⟩ : ∃ y_ : List Int, y_ = (([x755001_1, t758] : List Int)) := ⟨_, rfl⟩
      replace H : ((pattern_Min.f k1 y760).bind fun t763 => ((pattern_Max.f k1 (([x755002_1, t759] : List Int))).bind fun t767 => ((span_Make.f k1 t763 t767).bind fun bt768 => (span_Join.l0 k1 l0 (l0.length : Int) (wrap64 (x9_1 + 1)) bt768.1 bt768.2.1 bt768.2.2)))) = some (r1, r2, r3) := by first | (rw [hy760]; with_reducible exact H) | (have H2_ := (Option.bind_some _ _).symm.trans H; rw [hy760]; with_reducible exact H2_) | (have H2_ := (Option.bind_some _ _).symm.trans H; with_reducible exact H2_) | with_reducible exact H | (rw [hy760]; exact H) | exact H
      have Ny760 := Aside0.mk hy760
      clear hy760
      obtain ⟨t763, A28, H⟩ := zbs H
      try dsimp only at H
      obtain ⟨y764, hy764⟩ : ∃ y_ : List Int, y_ = (([x755002_1, t759] : List Int)) := ⟨_, rfl⟩
      replace H : ((pattern_Max.f k1 y764).bind fun t767 => ((span_Make.f k1 t763 t767).bind fun bt768 => (span_Join.l0 k1 l0 (l0.length : Int) (wrap64 (x9_1 + 1)) bt768.1 bt768.2.1 bt768.2.2))) = some (r1, r2, r3) := by first | (rw [hy764]; with_reducible exact H) | (have H2_ := (Option.bind_some _ _).symm.trans H; rw [hy764]; with_reducible exact H2_) | (have H2_ := (Option.bind_some _ _).symm.trans H; with_reducible exact H2_) | with_reducible exact H | (rw [hy764]; exact H) | exact H
      have Ny764 := Aside0.mk hy764
      clear hy764
      obtain ⟨t767, A29, H⟩ := zbs H
      try dsimp only at H
      obtain ⟨⟨t768, t769, t770⟩, A30, H⟩ := zbs H
      try dsimp only at H
      have H' := Aside0.mk H
      clear H
      have p755 : 0 ≤ (x9_1 : Int) := of_decide_eq_true (by first | (with_reducible assumption) | assumption)
      have q755 : x9_1 < (l0.length : Int) := of_decide_eq_true (by first | (with_reducible assumption) | assumption)
      obtain ⟨ad755, e755, hx755_0, hx755_1, hx755_2⟩ := at_T43 HR0.out x9_1 p755 q755
      cases e755
      replace hx755_0 := (HB.out.cell (World.block_lt_of_cell? w _ hx755_0)).trans hx755_0
      replace hx755_1 := (HB.out.cell (World.block_lt_of_cell? w _ hx755_1)).trans hx755_1
      replace hx755_2 := (HB.out.cell (World.block_lt_of_cell? w _ hx755_2)).trans hx755_2
      replace p755 := eq_true p755
      replace q755 := eq_true q755
      try go_wp2_with (first | ((with_reducible refine gtd 5 rfl ?_); refine zbx 5 #[.bool false, .int .u64 0, .int .u64 0] 43 (h := ?_); intro gb756 hg w31 hbox hb; have GW756 := zkz HB hg; have NB750_756 := zkl BK750 hg; have NB756_750 := zkr BK750 hg; have NB754_756 := zkl BK754 hg; have NB756_754 := zkr BK754 hg; replace BK750 := zkb BK750 hb; replace BK754 := zkb BK754 hb; replace HB := zkB HB hb; have BK756 := Aside0.mk (hbox); clear hb hbox hg; obtain ⟨_, _, _, _⟩ := zs2 NB756_750 NB756_754; obtain ⟨_, _, _, _, _, _⟩ := zq3 BK756) | ((with_reducible refine gtc 112 rfl ?_); refine zgL 14 Try.func112 (span_norm.calls k1 ((rd_T43 l0 x9_1).f0) ((rd_T43 l0 x9_1).f1) ((rd_T43 l0 x9_1).f2) false t758 t759 _ A11.out) (h := ?_); rintro w35 hb; replace BK750 := Aside0.mk (blk_below (zkf (zkf (zkf BK750.out NB750_756.out _) NB750_756.out _) NB750_756.out _) hb); replace BK754 := Aside0.mk (blk_below (zkf (zkf (zkf BK754.out NB754_756.out _) NB754_756.out _) NB754_756.out _) hb); replace BK756 := Aside0.mk (blk_below (o := .cells #[.bool ((rd_T43 l0 x9_1).f0), .int .u64 ((rd_T43 l0 x9_1).f1), .int .u64 ((rd_T43 l0 x9_1).f2)] 43 (0, 0)) (blk_put (cs := #[.bool ((rd_T43 l0 x9_1).f0), .int .u64 ((rd_T43 l0 x9_1).f1), .int .u64 0]) (blk_put (cs := #[.bool ((rd_T43 l0 x9_1).f0), .int .u64 0, .int .u64 0]) (blk_put BK756.out 0 _ rfl) 1 _ rfl) 2 _ rfl) hb); replace HB := Aside0.mk (below_step (below_set (below_set (below_set HB.out GW756.out) GW756.out) GW756.out) hb); (try clear hb); have z36_0 : w35.cell? ⟨gb756, 0, none⟩ = some (.bool ((rd_T43 l0 x9_1).f0)) := (blk_cell BK756.out 0).trans rfl; have z36_1 : w35.cell? ⟨gb756, 1, none⟩ = some (.int .u64 ((rd_T43 l0 x9_1).f1)) := (blk_cell BK756.out 1).trans rfl; have z36_2 : w35.cell? ⟨gb756, 2, none⟩ = some (.int .u64 ((rd_T43 l0 x9_1).f2)) := (blk_cell BK756.out 2).trans rfl; have f36_0 := blk_frozen BK756.out 0; have f36_1 := blk_frozen BK756.out 1; have f36_2 := blk_frozen BK756.out 2; obtain ⟨_, _⟩ := zsy NB754_750; obtain ⟨_, _, _, _, _, _⟩ := zq3 BK754))
      generalize hW_ : (((w35.setCell ⟨gb756, 0, none⟩ (.bool false)).setCell ⟨gb756, 1, none⟩ (.int .u64 t758)).setCell ⟨gb756, 2, none⟩ (.int .u64 t759)) = w39
      replace BK750 := zkg hW_ (zkf (zkf (zkf BK750.out NB750_756.out _) NB750_756.out _) NB750_756.out _)
      replace BK754 := zkg hW_ (zkf (zkf (zkf BK754.out NB754_756.out _) NB754_756.out _) NB754_756.out _)
      replace BK756 := zkg hW_ (ob := .cells #[.bool false, .int .u64 t758, .int .u64 t759] 43 (0, 0)) (blk_put (cs := #[.bool false, .int .u64 t758, .int .u64 ((rd_T43 l0 x9_1).f2)]) (blk_put (cs := #[.bool false, .int .u64 ((rd_T43 l0 x9_1).f1), .int .u64 ((rd_T43 l0 x9_1).f2)]) (blk_put BK756.out 0 _ rfl) 1 _ rfl) 2 _ rfl)
      replace HB := zkG hW_ (below_set (below_set (below_set HB.out GW756.out) GW756.out) GW756.out)
      clear hW_
      replace BK750 := Aside0.mk (blk_drew BK750.out)
      replace BK754 := Aside0.mk (blk_drew BK754.out)
      replace BK756 := Aside0.mk (blk_drew BK756.out)
      replace HB := Aside0.mk (below_drew1 HB.out)
      refine start_ (n := 14) (S := fun w' => w'.cell? ⟨gb754, 0, none⟩ = some (.bool false) ∧ w'.cell? ⟨gb754, 1, none⟩ = some (.int .u64 x755001_1) ∧ w'.cell? ⟨gb754, 2, none⟩ = some (.int .u64 x755002_1) ∧ w'.cell? ⟨gb756, 0, none⟩ = some (.bool false) ∧ w'.cell? ⟨gb756, 1, none⟩ = some (.int .u64 t758) ∧ w'.cell? ⟨gb756, 2, none⟩ = some (.int .u64 t759)) (ds := [13]) #[false, false, false, false, false, false, false, false, false, false, false, false, false, false] (by kernel_rfl) rfl rfl (zk3 BK754 (ze3 BK756)) (fun hHeld => ?_); refine with_tabW span_Join.tab6 span_Join.bits6 (fun HT_ HW_ => ?_)
      generalize w39.drew = w40 at BK750 BK754 BK756 HB hHeld ⊢
      refine zpA 0 15 (h := ?_)
      refine zpA 2 17 (h := ?_)
      refine zpA 6 21 (h := ?_)
      refine zpA 8 23 (h := ?_)
      refine ztA 1 16 (h := ?_)
      refine ztA 3 18 (h := ?_)
      refine ztA 7 22 (h := ?_)
      refine ztA 9 24 (h := ?_)
      refine join_ (σ := Value × Value) 3 #[true, true, true, true, true, true, true, true, true, true, true, false, false, false] (fun s_ => [(19, s_.1), (20, .int .u64 t763), (25, s_.2)]) (fun s_ w' => (w'.cell? ⟨gb754, 0, none⟩ = some (.bool false) ∧ w'.cell? ⟨gb754, 1, none⟩ = some (.int .u64 x755001_1) ∧ w'.cell? ⟨gb754, 2, none⟩ = some (.int .u64 x755002_1) ∧ w'.cell? ⟨gb756, 0, none⟩ = some (.bool false) ∧ w'.cell? ⟨gb756, 1, none⟩ = some (.int .u64 t758) ∧ w'.cell? ⟨gb756, 2, none⟩ = some (.int .u64 t759)) ∧ (Kd.R (Kd.int .u64) 23 w' w.heap.size (fun k_ => some k_ ≠ (s_.2 : Value).ownBlock) s_.1 y760) ∧ (Kd.R (Kd.int .u64) 23 w' w.heap.size (fun k_ => some k_ ≠ (s_.1 : Value).ownBlock) s_.2 y764) ∧ (w'.heap[gb750]? = some (.cells #[.bool false, .int .u64 0, .int .u64 0] 43 (0, 0))) ∧ (w'.heap[gb754]? = some (.cells #[.bool false, .int .u64 x755001_1, .int .u64 x755002_1] 43 (0, 0))) ∧ (w'.heap[gb756]? = some (.cells #[.bool false, .int .u64 t758, .int .u64 t759] 43 (0, 0))) ∧ (Below w.heap.size w w')) ?_ ?_
      rotate_left
      ·intro hCont
       refine two_ (i := 4) (j := 10) (Ni := some 19) (Nj := some 25) #[true, true, true, true, true, false, true, true, true, true, false, false, false, false] #[true, true, true, true, false, false, true, true, true, true, true, false, false, false] rfl rfl rfl rfl (two_of HT_.out (by kernel_rfl)) (by decide) (by decide) (fun K hK => ?_) (fun K hK => ?_)
       ·skip
        refine Kd.R_lit_step (Kd.int .u64) _ 23 ?hg (N := 19) ?hd (xs := ([x755001_1, t758] : List Int)) (inner := [.int .u64 x755001_1, .int .u64 t758]) (ok := fun _ => True) (okp := fun _ => True) ?hr ?hp (fun _ hk => hk) trivial (Below.refl _ _) (Nat.le_refl _) (by simp) ?_; (case hd => rfl); (case hg => rfl); (case hr => first | (go_simp; done) | (go_simp; rfl)); (case hp => exact (Reps.one (show Kd.M (Kd.int .u64) _ _ _ x755001_1 [.int .u64 x755001_1] from rfl) (Reps.one (show Kd.M (Kd.int .u64) _ _ _ t758 [.int .u64 t758] from rfl) (Reps.none _ _))))
        intro v761 w41 ho42 hb hg_ hnew_
        clear hg_ hnew_
        (first | rw [← Ny760.out] at ho42 | (simp only [Int.reduceToNat] at ho42; rw [← Ny760.out] at ho42))
        have HO762 := Aside0.mk (Kd.R_lower ho42 (below_size zaB))
        replace BK750 := zkb BK750 hb
        replace BK754 := zkb BK754 hb
        replace BK756 := zkb BK756 hb
        replace HB := zkB HB hb
        clear hb ho42
        obtain ⟨Ao43, co43, eo43⟩ := Kd.R_slice HO762.out
        (first | subst eo43 | (injection eo43 with f1_ f2_ f3_; have f4_ := f1_.symm; have f5_ := f3_.symm; clear f1_ f2_ f3_; subst f4_; subst f5_))
        refine hK.out _ _ (zk3 BK754 (ze3 BK756)) (fun hHeld => ?_)
        clear hK K
        refine znA 19 (h := ?_)
        refine two_ (i := 5) (j := 10) (Ni := some 20) (Nj := some 25) #[true, true, true, true, true, true, true, true, true, true, false, false, false, false] #[true, true, true, true, true, false, true, true, true, true, true, false, false, false] rfl rfl rfl rfl (two_of HT_.out (by kernel_rfl)) (by decide) (by decide) (fun K hK => ?_) (fun K hK => ?_)
        ·skip
         refine goes_ Try.func119 (by kernel_rfl) rfl #[.slice Ao43 y760.length co43] (by rfl) rfl rfl (by (try simp only [List.map_toArray, List.map_cons, List.map_nil]); first | done | rfl | (simp only [List.length_drop, List.length_take]; rfl)) ?_
         with_reducible refine (pattern_Min.calls k1 _ _ y760 t763 _ ?side1 ?side2 A28.out).mono ?_
         (case side1 => repeat (first | exact (Kd.R_reads' HO762.out).2.2 | (with_reducible refine Kd.C_alloc ?_ _) | (with_reducible refine Kd.C_drewN ?_ _) | (with_reducible refine Kd.C_drew ?_)))
         (case side2 => exact (Kd.R_reads' HO762.out).2.1)
         rintro e w44 ⟨rfl, hb⟩
         refine ⟨_, rfl, ?_⟩
         replace HO762 := Aside0.mk (Kd.R_below (by (with_reducible repeat (first | apply Kd.R_alloc | apply Kd.R_drewN | apply Kd.R_drew)); exact HO762.out) hb)
         replace BK750 := zkb BK750 hb
         replace BK754 := zkb BK754 hb
         replace BK756 := zkb BK756 hb
         replace HB := zkB HB hb
         (try clear hb)
         refine hK.out _ _ (zk3 BK754 (ze3 BK756)) (fun hHeld => ?_)
         clear hK K
         refine znA 20 (h := ?_)
         refine zoA 10 25 (h := fun K hK => ?_)
         refine Kd.R_lit_step (Kd.int .u64) _ 23 ?hg (N := 25) ?hd (xs := ([x755002_1, t759] : List Int)) (inner := [.int .u64 x755002_1, .int .u64 t759]) (ok := fun _ => True) (okp := fun _ => True) ?hr ?hp (fun _ hk => hk) trivial (Below.refl _ _) (Nat.le_refl _) (by simp) ?_; (case hd => rfl); (case hg => rfl); (case hr => first | (go_simp; done) | (go_simp; rfl)); (case hp => exact (Reps.one (show Kd.M (Kd.int .u64) _ _ _ x755002_1 [.int .u64 x755002_1] from rfl) (Reps.one (show Kd.M (Kd.int .u64) _ _ _ t759 [.int .u64 t759] from rfl) (Reps.none _ _))))
         intro v765 w45 ho46 hb hg_ hnew_
         clear hg_ hnew_
         (first | rw [← Ny764.out] at ho46 | (simp only [Int.reduceToNat] at ho46; rw [← Ny764.out] at ho46))
         have HO766 := Aside0.mk (Kd.R_lower (Kd.R_new' ho46 (Kd.R_lt (by (with_reducible repeat (first | apply Kd.R_alloc | apply Kd.R_drewN | apply Kd.R_drew)); exact HO762.out))) (below_size zaB))
         replace HO762 := Aside0.mk (Kd.R_elder' (by (with_reducible repeat (first | apply Kd.R_alloc | apply Kd.R_drewN | apply Kd.R_drew)); exact HO762.out) (Kd.R_base ho46) hb)
         replace BK750 := zkb BK750 hb
         replace BK754 := zkb BK754 hb
         replace BK756 := zkb BK756 hb
         replace HB := zkB HB hb
         clear hb ho46
         refine hK.out _ _ (zk3 BK754 (ze3 BK756)) (fun hHeld => ?_)
         clear hK K
         refine znA 25 (h := ?_)
         exact norm_ (by simp only [putAll, Act.put, List.setIfInBounds_toArray, List.set_cons_zero, List.set_cons_succ]) (hCont (.slice Ao43 y760.length co43, v765) _ ⟨hHeld, (by (with_reducible repeat (first | apply Kd.R_alloc | apply Kd.R_drewN | apply Kd.R_drew)); exact Kd.R_mono HO762.out (fun _ hk => hk.2)), (by (with_reducible repeat (first | apply Kd.R_alloc | apply Kd.R_drewN | apply Kd.R_drew)); exact Kd.R_mono HO766.out (fun _ hk => hk.2)), (zkq BK750), (zkq BK754), (zkq BK756), zaB⟩)
        skip
        refine Kd.R_lit_step (Kd.int .u64) _ 23 ?hg (N := 25) ?hd (xs := ([x755002_1, t759] : List Int)) (inner := [.int .u64 x755002_1, .int .u64 t759]) (ok := fun _ => True) (okp := fun _ => True) ?hr ?hp (fun _ hk => hk) trivial (Below.refl _ _) (Nat.le_refl _) (by simp) ?_; (case hd => rfl); (case hg => rfl); (case hr => first | (go_simp; done) | (go_simp; rfl)); (case hp => exact (Reps.one (show Kd.M (Kd.int .u64) _ _ _ x755002_1 [.int .u64 x755002_1] from rfl) (Reps.one (show Kd.M (Kd.int .u64) _ _ _ t759 [.int .u64 t759] from rfl) (Reps.none _ _))))
        intro v765 w43 ho44 hb hg_ hnew_
        clear hg_ hnew_
        (first | rw [← Ny764.out] at ho44 | (simp only [Int.reduceToNat] at ho44; rw [← Ny764.out] at ho44))
        have HO766 := Aside0.mk (Kd.R_lower (Kd.R_new' ho44 (Kd.R_lt (by (with_reducible repeat (first | apply Kd.R_alloc | apply Kd.R_drewN | apply Kd.R_drew)); exact HO762.out))) (below_size zaB))
        replace HO762 := Aside0.mk (Kd.R_elder' (by (with_reducible repeat (first | apply Kd.R_alloc | apply Kd.R_drewN | apply Kd.R_drew)); exact HO762.out) (Kd.R_base ho44) hb)
        replace BK750 := zkb BK750 hb
        replace BK754 := zkb BK754 hb
        replace BK756 := zkb BK756 hb
        replace HB := zkB HB hb
        clear hb ho44
        obtain ⟨Ao45, co45, eo45⟩ := Kd.R_slice HO762.out
        (first | subst eo45 | (injection eo45 with f1_ f2_ f3_; have f4_ := f1_.symm; have f5_ := f3_.symm; clear f1_ f2_ f3_; subst f4_; subst f5_))
        refine hK.out _ _ (zk3 BK754 (ze3 BK756)) (fun hHeld => ?_)
        clear hK K
        refine znA 25 (h := ?_)
        refine zoA 5 20 (h := fun K hK => ?_)
        refine goes_ Try.func119 (by kernel_rfl) rfl #[.slice Ao45 y760.length co45] (by rfl) rfl rfl (by (try simp only [List.map_toArray, List.map_cons, List.map_nil]); first | done | rfl | (simp only [List.length_drop, List.length_take]; rfl)) ?_
        with_reducible refine (pattern_Min.calls k1 _ _ y760 t763 _ ?side1 ?side2 A28.out).mono ?_
        (case side1 => repeat (first | exact (Kd.R_reads' HO762.out).2.2 | (with_reducible refine Kd.C_alloc ?_ _) | (with_reducible refine Kd.C_drewN ?_ _) | (with_reducible refine Kd.C_drew ?_)))
        (case side2 => exact (Kd.R_reads' HO762.out).2.1)
        rintro e w46 ⟨rfl, hb⟩
        refine ⟨_, rfl, ?_⟩
        replace HO762 := Aside0.mk (Kd.R_below (by (with_reducible repeat (first | apply Kd.R_alloc | apply Kd.R_drewN | apply Kd.R_drew)); exact HO762.out) hb)
        replace HO766 := Aside0.mk (Kd.R_below (by (with_reducible repeat (first | apply Kd.R_alloc | apply Kd.R_drewN | apply Kd.R_drew)); exact HO766.out) hb)
        replace BK750 := zkb BK750 hb
        replace BK754 := zkb BK754 hb
        replace BK756 := zkb BK756 hb
        replace HB := zkB HB hb
        (try clear hb)
        refine hK.out _ _ (zk3 BK754 (ze3 BK756)) (fun hHeld => ?_)
        clear hK K
        refine znA 20 (h := ?_)
        exact norm_ (by simp only [putAll, Act.put, List.setIfInBounds_toArray, List.set_cons_zero, List.set_cons_succ]) (hCont (.slice Ao45 y760.length co45, v765) _ ⟨hHeld, (by (with_reducible repeat (first | apply Kd.R_alloc | apply Kd.R_drewN | apply Kd.R_drew)); exact Kd.R_mono HO762.out (fun _ hk => hk.2)), (by (with_reducible repeat (first | apply Kd.R_alloc | apply Kd.R_drewN | apply Kd.R_drew)); exact Kd.R_mono HO766.out (fun _ hk => hk.2)), (zkq BK750), (zkq BK754), (zkq BK756), zaB⟩)
       skip
       refine Kd.R_lit_step (Kd.int .u64) _ 23 ?hg (N := 25) ?hd (xs := ([x755002_1, t759] : List Int)) (inner := [.int .u64 x755002_1, .int .u64 t759]) (ok := fun _ => True) (okp := fun _ => True) ?hr ?hp (fun _ hk => hk) trivial (Below.refl _ _) (Nat.le_refl _) (by simp) ?_; (case hd => rfl); (case hg => rfl); (case hr => first | (go_simp; done) | (go_simp; rfl)); (case hp => exact (Reps.one (show Kd.M (Kd.int .u64) _ _ _ x755002_1 [.int .u64 x755002_1] from rfl) (Reps.one (show Kd.M (Kd.int .u64) _ _ _ t759 [.int .u64 t759] from rfl) (Reps.none _ _))))
       intro v765 w41 ho42 hb hg_ hnew_
       clear hg_ hnew_
       (first | rw [← Ny764.out] at ho42 | (simp only [Int.reduceToNat] at ho42; rw [← Ny764.out] at ho42))
       have HO766 := Aside0.mk (Kd.R_lower ho42 (below_size zaB))
       replace BK750 := zkb BK750 hb
       replace BK754 := zkb BK754 hb
       replace BK756 := zkb BK756 hb
       replace HB := zkB HB hb
       clear hb ho42
       refine hK.out _ _ (zk3 BK754 (ze3 BK756)) (fun hHeld => ?_)
       clear hK K
       refine znA 25 (h := ?_)
       refine zoA 4 19 (h := fun K hK => ?_)
       refine Kd.R_lit_step (Kd.int .u64) _ 23 ?hg (N := 19) ?hd (xs := ([x755001_1, t758] : List Int)) (inner := [.int .u64 x755001_1, .int .u64 t758]) (ok := fun _ => True) (okp := fun _ => True) ?hr ?hp (fun _ hk => hk) trivial (Below.refl _ _) (Nat.le_refl _) (by simp) ?_; (case hd => rfl); (case hg => rfl); (case hr => first | (go_simp; done) | (go_simp; rfl)); (case hp => exact (Reps.one (show Kd.M (Kd.int .u64) _ _ _ x755001_1 [.int .u64 x755001_1] from rfl) (Reps.one (show Kd.M (Kd.int .u64) _ _ _ t758 [.int .u64 t758] from rfl) (Reps.none _ _))))
       intro v761 w43 ho44 hb hg_ hnew_
       clear hg_ hnew_
       (first | rw [← Ny760.out] at ho44 | (simp only [Int.reduceToNat] at ho44; rw [← Ny760.out] at ho44))
       have HO762 := Aside0.mk (Kd.R_lower (Kd.R_new' ho44 (Kd.R_lt (by (with_reducible repeat (first | apply Kd.R_alloc | apply Kd.R_drewN | apply Kd.R_drew)); exact HO766.out))) (below_size zaB))
       replace HO766 := Aside0.mk (Kd.R_elder' (by (with_reducible repeat (first | apply Kd.R_alloc | apply Kd.R_drewN | apply Kd.R_drew)); exact HO766.out) (Kd.R_base ho44) hb)
       replace BK750 := zkb BK750 hb
       replace BK754 := zkb BK754 hb
       replace BK756 := zkb BK756 hb
       replace HB := zkB HB hb
       clear hb ho44
       obtain ⟨Ao45, co45, eo45⟩ := Kd.R_slice HO762.out
       (first | subst eo45 | (injection eo45 with f1_ f2_ f3_; have f4_ := f1_.symm; have f5_ := f3_.symm; clear f1_ f2_ f3_; subst f4_; subst f5_))
       refine hK.out _ _ (zk3 BK754 (ze3 BK756)) (fun hHeld => ?_)
       clear hK K
       refine znA 19 (h := ?_)
       refine zoA 5 20 (h := fun K hK => ?_)
       refine goes_ Try.func119 (by kernel_rfl) rfl #[.slice Ao45 y760.length co45] (by rfl) rfl rfl (by (try simp only [List.map_toArray, List.map_cons, List.map_nil]); first | done | rfl | (simp only [List.length_drop, List.length_take]; rfl)) ?_
       with_reducible refine (pattern_Min.calls k1 _ _ y760 t763 _ ?side1 ?side2 A28.out).mono ?_
       (case side1 => repeat (first | exact (Kd.R_reads' HO762.out).2.2 | (with_reducible refine Kd.C_alloc ?_ _) | (with_reducible refine Kd.C_drewN ?_ _) | (with_reducible refine Kd.C_drew ?_)))
       (case side2 => exact (Kd.R_reads' HO762.out).2.1)
       rintro e w46 ⟨rfl, hb⟩
       refine ⟨_, rfl, ?_⟩
       replace HO766 := Aside0.mk (Kd.R_below (by (with_reducible repeat (first | apply Kd.R_alloc | apply Kd.R_drewN | apply Kd.R_drew)); exact HO766.out) hb)
       replace HO762 := Aside0.mk (Kd.R_below (by (with_reducible repeat (first | apply Kd.R_alloc | apply Kd.R_drewN | apply Kd.R_drew)); exact HO762.out) hb)
       replace BK750 := zkb BK750 hb
       replace BK754 := zkb BK754 hb
       replace BK756 := zkb BK756 hb
       replace HB := zkB HB hb
       (try clear hb)
       refine hK.out _ _ (zk3 BK754 (ze3 BK756)) (fun hHeld => ?_)
       clear hK K
       refine znA 20 (h := ?_)
       exact norm_ (by simp only [putAll, Act.put, List.setIfInBounds_toArray, List.set_cons_zero, List.set_cons_succ]) (hCont (.slice Ao45 y760.length co45, v765) _ ⟨hHeld, (by (with_reducible repeat (first | apply Kd.R_alloc | apply Kd.R_drewN | apply Kd.R_drew)); exact Kd.R_mono HO762.out (fun _ hk => hk.2)), (by (with_reducible repeat (first | apply Kd.R_alloc | apply Kd.R_drewN | apply Kd.R_drew)); exact Kd.R_mono HO766.out (fun _ hk => hk.2)), (zkq BK750), (zkq BK754), (zkq BK756), zaB⟩)
      rintro ⟨v761, v765⟩ w47 ⟨hS_, h0_, h1_, h2_, h3_, h4_, h5_⟩
      have n0_ : Aside0 (Kd.R (Kd.int .u64) 23 w47 w.heap.size (fun k_ => some k_ ≠ (v765 : Value).ownBlock) v761 y760) := ⟨h0_⟩
      have n1_ : Aside0 (Kd.R (Kd.int .u64) 23 w47 w.heap.size (fun k_ => some k_ ≠ (v761 : Value).ownBlock) v765 y764) := ⟨h1_⟩
      have n2_ : Aside0 (w47.heap[gb750]? = some (.cells #[.bool false, .int .u64 0, .int .u64 0] 43 (0, 0))) := ⟨h2_⟩
      have n3_ : Aside0 (w47.heap[gb754]? = some (.cells #[.bool false, .int .u64 x755001_1, .int .u64 x755002_1] 43 (0, 0))) := ⟨h3_⟩
      have n4_ : Aside0 (w47.heap[gb756]? = some (.cells #[.bool false, .int .u64 t758, .int .u64 t759] 43 (0, 0))) := ⟨h4_⟩
      have n5_ : Aside0 (Below w.heap.size w w47) := ⟨h5_⟩
      clear BK750
      clear BK754
      clear BK756
      clear HB
      clear h0_ h1_ h2_ h3_ h4_ h5_
      have HO762 := n0_
      have HO766 := n1_
      have BK750 := n2_
      have BK754 := n3_
      have BK756 := n4_
      have HB := n5_
      clear n0_ n1_ n2_ n3_ n4_ n5_
      have hHeld : w47.cell? ⟨gb754, 0, none⟩ = some (.bool false) ∧ w47.cell? ⟨gb754, 1, none⟩ = some (.int .u64 x755001_1) ∧ w47.cell? ⟨gb754, 2, none⟩ = some (.int .u64 x755002_1) ∧ w47.cell? ⟨gb756, 0, none⟩ = some (.bool false) ∧ w47.cell? ⟨gb756, 1, none⟩ = some (.int .u64 t758) ∧ w47.cell? ⟨gb756, 2, none⟩ = some (.int .u64 t759) := hS_
      obtain ⟨Ao48, co48, eo48⟩ := Kd.R_slice HO766.out
      (first | subst eo48 | (injection eo48 with f1_ f2_ f3_; have f4_ := f1_.symm; have f5_ := f3_.symm; clear f1_ f2_ f3_; subst f4_; subst f5_))
      refine norm_ (a' := ?_) ?_ ?_
      rotate_left
      ·simp only [putAll, Act.put, List.setIfInBounds_toArray, List.set_cons_zero, List.set_cons_succ]
       rfl
      refine zoA 11 26 (h := fun K hK => ?_)
      refine goes_ Try.func120 (by kernel_rfl) rfl #[.slice Ao48 y764.length co48] (by rfl) rfl rfl (by (try simp only [List.map_toArray, List.map_cons, List.map_nil]); first | done | rfl | (simp only [List.length_drop, List.length_take]; rfl)) ?_
      with_reducible refine (pattern_Max.calls k1 _ _ y764 t767 _ ?side1 ?side2 A29.out).mono ?_
      (case side1 => repeat (first | exact (Kd.R_reads' HO766.out).2.2 | (with_reducible refine Kd.C_alloc ?_ _) | (with_reducible refine Kd.C_drewN ?_ _) | (with_reducible refine Kd.C_drew ?_)))
      (case side2 => exact (Kd.R_reads' HO766.out).2.1)
      rintro e w49 ⟨rfl, hb⟩
      refine ⟨_, rfl, ?_⟩
      replace HO762 := Aside0.mk (Kd.R_below (by (with_reducible repeat (first | apply Kd.R_alloc | apply Kd.R_drewN | apply Kd.R_drew)); exact HO762.out) hb)
      replace HO766 := Aside0.mk (Kd.R_below (by (with_reducible repeat (first | apply Kd.R_alloc | apply Kd.R_drewN | apply Kd.R_drew)); exact HO766.out) hb)
      replace BK750 := zkb BK750 hb
      replace BK754 := zkb BK754 hb
      replace BK756 := zkb BK756 hb
      replace HB := zkB HB hb
      (try clear hb)
      refine hK.out _ _ (zk3 BK754 (ze3 BK756)) (fun hHeld => ?_)
      clear hK K
      refine znA 26 (h := ?_)
      refine zoA 12 27 (h := fun K hK => ?_)
      refine zgA Try.func37 (span_Make.calls k1 t763 t767 t768 t769 t770 _ A30.out) (h := ?_)
      rintro w50 hb
      replace HO762 := Aside0.mk (Kd.R_below (by (with_reducible repeat (first | apply Kd.R_alloc | apply Kd.R_drewN | apply Kd.R_drew)); exact HO762.out) hb)
      replace HO766 := Aside0.mk (Kd.R_below (by (with_reducible repeat (first | apply Kd.R_alloc | apply Kd.R_drewN | apply Kd.R_drew)); exact HO766.out) hb)
      replace BK750 := zkb BK750 hb
      replace BK754 := zkb BK754 hb
      replace BK756 := zkb BK756 hb
      replace HB := zkB HB hb
      (try clear hb)
      refine hK.out _ _ (zk3 BK754 (ze3 BK756)) (fun hHeld => ?_)
      clear hK K
      refine znA 27 (h := ?_)
      refine last_ (i := 13) (N := none) #[true, true, true, true, true, true, true, true, true, true, true, true, true, true] rfl rfl (one_of HT_.out (by kernel_rfl)) (by decide) (fun K hK => ?_)
      have hs51 := zc0 BK754
      have hfs51 := blk_frozen BK754.out 0
      obtain ⟨_, _, _, _⟩ := zs2 NB750_754 NB756_754
      have hs52 := zc1 BK754
      have hfs52 := blk_frozen BK754.out 1
      obtain ⟨_, _, _, _⟩ := zs2 NB750_754 NB756_754
      have hs53 := zc2 BK754
      have hfs53 := blk_frozen BK754.out 2
      obtain ⟨_, _, _, _⟩ := zs2 NB750_754 NB756_754
      refine skip_ (w1 := ?_) (by rfl) rfl ?_ ?_
      rotate_left
      ·go_simp
       rfl
      refine hK.out _ _ ?_
      clear hK K
      refine done_ (done_of HT_.out (by kernel_rfl)) ?_
      try go_wp2
      go_roundg k1
      case measure => have := HK1.out; omega
      case rel => exact ⟨(wrap64 (x9_1 + 1)), (t768), (t769), (t770), zrl, H', ⟨by have := HK1.out; omega⟩, ⟨(zkf (zkf (zkf (zkq BK750) NB750_754.out _) NB750_754.out _) NB750_754.out _)⟩, ⟨(blk_put (cs := #[.bool t768, .int .u64 t769, .int .u64 x755002_1]) (blk_put (cs := #[.bool t768, .int .u64 x755001_1, .int .u64 x755002_1]) (blk_put (zkq BK754) 0 _ rfl) 1 _ rfl) 2 _ rfl)⟩, ⟨zaB⟩⟩
     rw [if_neg c10] at H
     exact absurd H (by simp)
    rw [if_neg c9] at H
    exact absurd H (by simp)
   rw [if_neg c8] at H
   have c8b0 : decide (x9_1 < (l0.length : Int)) = false := decide_eq_false c8
   clear c8
   simp only [Option.some.injEq, Prod.mk.injEq] at H
   obtain ⟨rfl, rfl, rfl⟩ := H
   obtain ⟨_, _⟩ := zsy NB754_750
   obtain ⟨_, _, _, _, _, _⟩ := zq3 BK754
   obtain ⟨_, _, _, _, _, _⟩ := zq3 BK750
   go_wp2
   refine bodyPost_ret (results_cell_row rfl _ _ gb750 43 #[.bool x755000_1, .int .u64 x755001_1, .int .u64 x755002_1] (0, 0) _ rfl (blk_put (cs := #[.bool x755000_1, .int .u64 x755001_1, .int .u64 0]) (blk_put (cs := #[.bool x755000_1, .int .u64 0, .int .u64 0]) (blk_put (zkq BK750) 0 _ rfl) 1 _ rfl) 2 _ rfl) Try.underlying43 rfl (by kernel_rfl)) rfl ?_
   exact ⟨zaE, zaB⟩
end Go.Proofs.Ytmadjhmecfbcmaa.F
end
