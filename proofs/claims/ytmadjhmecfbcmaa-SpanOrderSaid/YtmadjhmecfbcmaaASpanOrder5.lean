/- The walk of the law SpanOrder and what it computes, part 5 of 6: no conditions. -/
import Derived.Test.YtmadjhmecfbcmaaASpanOrder4
import Derived.Laws.Externs
import Derived.Shelf.Spec.BitsCarry
set_option linter.unusedVariables false
set_option linter.unusedSimpArgs false
section
namespace Go.Proofs.Ytmadjhmecfbcmaa.F
open Go.RowKit Go.Proofs.YtmadjhmecfbcmaaW.PrintWords Go.Proofs.YtmadjhmecfbcmaaW.PrintLast Go.Proofs.YtmadjhmecfbcmaaW.PrintMore
attribute [local go_sem] max2_int min2_int max_two min_two max_three min_three max_four min_four
set_option linter.unusedVariables false
set_option linter.unusedSimpArgs false
set_option maxHeartbeats 8000000
set_option maxRecDepth 100000
attribute [local go_sem high] eqA43
def flyballlaw16_works.T6 : Bool × List (List Nat × List Nat) := (true, [([], []), ([], []), ([0, 1], [0, 1]), ([2, 1], [2]), ([3], [3]), ([3, 3], [3]), ([4, 5, 3], [3, 4, 5]), ([3, 6], [3, 6]), ([7, 5], [7]), ([8], [8]), ([8, 8], [8]), ([9, 10, 8], [8, 9, 10]), ([8, 11], [8, 11]), ([12, 10], [12]), ([13], [13]), ([13, 13], [13]), ([15, 15, 13], [13, 15]), ([14, 16, 13], [13, 14, 16]), ([13, 17], [13, 17]), ([18, 16], [18]), ([19], [19]), ([19, 19], [19]), ([20, 21, 19], [19, 20, 21]), ([19, 22], [19, 22]), ([23, 21], [23]), ([24], [24]), ([24, 24], [24]), ([25, 26, 24], [24, 25, 26]), ([24, 27], [24, 27]), ([28, 26], [28]), ([29, 29], [29]), ([30, 29], [29, 30]), ([29, 31], [29, 31]), ([32, 30], [32]), ([33], [33]), ([34, 33, 33], [33, 34]), ([33, 35], [33, 35]), ([36, 35], [36]), ([37], [37]), ([37, 37], [37]), ([38, 39, 39, 37], [37, 38, 39]), ([37, 40], [37, 40]), ([41, 40], [41]), ([42], [42]), ([42], [42]), ([43, 44, 42], [42, 43, 44]), ([45, 42, 42], [42, 45]), ([46, 42], [42]), ([46, 47, 42], [42, 46, 47]), ([42, 48], [42, 48]), ([49, 47], [49]), ([50], [50]), ([50], [50]), ([51, 52, 50, 50], [50, 51, 52]), ([53, 50], [50]), ([53, 54, 50], [50, 53, 54]), ([50, 55], [50, 55]), ([56, 54], [56]), ([57], [57]), ([58, 57, 57], [57, 58]), ([59, 59, 57], [57, 59]), ([60, 57], [57, 60]), ([57, 61], [57, 61]), ([62, 60], [62]), ([63, 63], [63]), ([64, 64, 63], [63, 64]), ([65, 63], [63]), ([65, 66, 63], [63, 65, 66]), ([63, 67], [63, 67]), ([68, 66, 0, 1, 2, 3, 4, 5, 6, 7, 8, 9, 10, 11, 12, 13, 14, 15, 16, 17, 18, 19, 20, 21, 22, 23, 24, 25, 26, 27, 28, 29, 30, 31, 32, 33, 34, 35, 36, 37, 38, 39, 40, 41, 42, 43, 44, 45, 46, 47, 48, 49, 50, 51, 52, 53, 54, 55, 56, 57, 58, 59, 60, 61, 62, 63, 64, 65, 66, 67, 68], [68])])
def flyballlaw16_works.B6 : List Nat := [0, 0, 3, 7, 15, 15, 63, 127, 255, 511, 511, 2047, 4095, 8191, 16383, 16383, 49151, 131071, 262143, 524287, 1048575, 1048575, 4194303, 8388607, 16777215, 33554431, 33554431, 134217727, 268435455, 536870911, 1073741823, 2147483647, 4294967295, 8589934591, 17179869183, 34359738367, 68719476735, 137438953471, 274877906943, 274877906943, 1099511627775, 2199023255551, 4398046511103, 8796093022207, 8796093022207, 35184372088831, 70368744177663, 140737488355327, 281474976710655, 562949953421311, 1125899906842623, 2251799813685247, 2251799813685247, 9007199254740991, 18014398509481983, 36028797018963967, 72057594037927935, 144115188075855871, 288230376151711743, 576460752303423487, 1152921504606846975, 2305843009213693951, 4611686018427387903, 9223372036854775807, 18446744073709551615, 36893488147419103231, 73786976294838206463, 147573952589676412927, 295147905179352825855, 590295810358705651711]
theorem flyballlaw16_works.tab6 : rtab .any (opsOf Try.f36 6) = flyballlaw16_works.T6 := by kernel_rfl
theorem flyballlaw16_works.bits6 : waitsOk flyballlaw16_works.T6.2 flyballlaw16_works.B6 = true := by kernel_rfl
theorem flyballlaw16_works.calls (k : Nat)  (r : Bool) (w : World) (h : flyballlaw16_works.f k  = some r) (hr_ : r = true) :
  Calls Try.prog 36 #[] w fun e w' => e = .returned (.bool r) ∧ Below w.heap.size w w' := by
 have hu43 := Try.underlying43
 have hfd0_ : ∀ (b : Bool) (x y : Int) (w : World), (Instr.field 43 (.agg #[.bool b, .int .u64 x, .int .u64 y]) 0).run Try.prog w = .ok (.bool b) w := fun _ _ _ _ => by kernel_rfl
 have hfd1_ : ∀ (b : Bool) (x y : Int) (w : World), (Instr.field 43 (.agg #[.bool b, .int .u64 x, .int .u64 y]) 1).run Try.prog w = .ok (.int .u64 x) w := fun _ _ _ _ => by kernel_rfl
 have hfd2_ : ∀ (b : Bool) (x y : Int) (w : World), (Instr.field 43 (.agg #[.bool b, .int .u64 x, .int .u64 y]) 2).run Try.prog w = .ok (.int .u64 y) w := fun _ _ _ _ => by kernel_rfl
 have HB := Aside0.mk (Below.refl w.heap.size w)
 have H : ((span_Make.f k 4607182418800017408 4611686018427387904).bind fun bt984 => ((span_Make.f k 13837309855095848960 4616189618054758400).bind fun bt987 => ((span_Mul.f k bt984.1 bt984.2.1 bt984.2.2 bt987.1 bt987.2.1 bt987.2.2).bind fun bt990 => ((span_Point.f k 4607182418800017408).bind fun bt994 => ((span_Make.f k 13830554455654793216 4611686018427387904).bind fun bt997 => ((span_Div.f k bt994.1 bt994.2.1 bt994.2.2 bt997.1 bt997.2.1 bt997.2.2).bind fun bt1000 => ((span_Point.f k 0).bind fun bt1004 => ((span_Make.f k 13830554455654793216 4611686018427387904).bind fun bt1007 => ((span_Div.f k bt1004.1 bt1004.2.1 bt1004.2.2 bt1007.1 bt1007.2.1 bt1007.2.2).bind fun bt1010 => ((span_Point.f k 4607182418800017408).bind fun bt1014 => ((span_Make.f k 0 4616189618054758400).bind fun bt1017 => ((span_Div.f k bt1014.1 bt1014.2.1 bt1014.2.2 bt1017.1 bt1017.2.1 bt1017.2.2).bind fun bt1020 => ((span_Make.f k 0 4616189618054758400).bind fun bt1024 => ((span_Make.f k 4607182418800017408 4611686018427387904).bind fun bt1027 => ((span_Test.f k 9 bt1024.1 bt1024.2.1 bt1024.2.2 bt1027.1 bt1027.2.1 bt1027.2.2).bind fun bt1030 => ((span_Make.f k 13841813454723219456 4620693217682128896).bind fun bt1038 => (if (bt990.1 == bt1038.1 && (bt990.2.1 == bt1038.2.1 && (bt990.2.2 == bt1038.2.2))) = true then ((span_All.f k).bind fun bt1041 => (if (bt1000.1 == bt1041.1 && (bt1000.2.1 == bt1041.2.1 && (bt1000.2.2 == bt1041.2.2))) = true then ((span_Point.f k 0).bind fun bt1044 => (if (bt1010.1 == bt1044.1 && (bt1010.2.1 == bt1044.2.1 && (bt1010.2.2 == bt1044.2.2))) = true then ((pattern_Inf.f k false).bind fun t1047 => ((span_Make.f k 4598175219545276416 t1047).bind fun bt1048 => (if (bt1020.1 == bt1048.1 && (bt1020.2.1 == bt1048.2.1 && (bt1020.2.2 == bt1048.2.2))) = true then ((span_Make.f k 0 4611686018427387903).bind fun bt1051 => (if (bt1030.1 == bt1051.1 && (bt1030.2.1 == bt1051.2.1 && (bt1030.2.2.1 == bt1051.2.2))) = true then ((span_Make.f k 4607182418800017408 4611686018427387904).bind fun bt1054 => (if (bt1030.2.2.2.1 == bt1054.1 && (bt1030.2.2.2.2.1 == bt1054.2.1 && (bt1030.2.2.2.2.2 == bt1054.2.2))) = true then ((span_Make.f k 4611686018427387904 4607182418800017408).bind fun bt1057 => (if bt1057.1 = true then ((span_Has.f k bt1030.1 bt1030.2.1 bt1030.2.2.1 4607182418800017408).bind fun t1060 => (if t1060 = true then ((span_Make.f k 0 4616189618054758400).bind fun bt1061 => ((span_Inside.f k bt1030.2.2.2.1 bt1030.2.2.2.2.1 bt1030.2.2.2.2.2 bt1061.1 bt1061.2.1 bt1061.2.2).bind fun t1064 => (if t1064 = true then ((span_Join.f k (([(⟨bt1030.1, bt1030.2.1, bt1030.2.2.1⟩ : S43), (⟨bt1030.2.2.2.1, bt1030.2.2.2.2.1, bt1030.2.2.2.2.2⟩ : S43)] : List (S43)))).bind fun bt1068 => ((span_Make.f k 0 4611686018427387904).bind fun bt1071 => (if (bt1068.1 == bt1071.1 && (bt1068.2.1 == bt1071.2.1 && (bt1068.2.2 == bt1071.2.2))) = true then ((span_Meet.f k bt1030.1 bt1030.2.1 bt1030.2.2.1 bt1030.2.2.2.1 bt1030.2.2.2.2.1 bt1030.2.2.2.2.2).bind fun bt1074 => ((span_Make.f k 4607182418800017408 4611686018427387903).bind fun bt1077 => (if (bt1074.1 == bt1077.1 && (bt1074.2.1 == bt1077.2.1 && (bt1074.2.2 == bt1077.2.2))) = true then ((span_Neg.f k bt1030.2.2.2.1 bt1030.2.2.2.2.1 bt1030.2.2.2.2.2).bind fun bt1080 => ((span_Most.f k bt1080.1 bt1080.2.1 bt1080.2.2).bind fun t1083 => (if t1083 = 4611686018427387904 then ((span_Make.f k 13830554455654793216 0).bind fun bt1084 => ((span_Abs.f k bt1084.1 bt1084.2.1 bt1084.2.2).bind fun bt1087 => ((span_Make.f k 0 4607182418800017408).bind fun bt1090 => (some (bt1087.1 == bt1090.1 && (bt1087.2.1 == bt1090.2.1 && (bt1087.2.2 == bt1090.2.2))))))) else (some false)))) else (some false)))) else (some false)))) else (some false)))) else (some false))) else (some false))) else (some false))) else (some false))) else (some false)))) else (some false))) else (some false))) else (some false)))))))))))))))))) = some r := h
 clear h
 obtain ⟨⟨t984, t985, t986⟩, A1, H⟩ := zbs H
 try dsimp only at H
 obtain ⟨⟨t987, t988, t989⟩, A2, H⟩ := zbs H
 try dsimp only at H
 obtain ⟨⟨t990, t991, t992⟩, A3, H⟩ := zbs H
 try dsimp only at H
 obtain ⟨⟨t994, t995, t996⟩, A4, H⟩ := zbs H
 try dsimp only at H
 obtain ⟨⟨t997, t998, t999⟩, A5, H⟩ := zbs H
 try dsimp only at H
 obtain ⟨⟨t1000, t1001, t1002⟩, A6, H⟩ := zbs H
 try dsimp only at H
 obtain ⟨⟨t1004, t1005, t1006⟩, A7, H⟩ := zbs H
 try dsimp only at H
 obtain ⟨⟨t1007, t1008, t1009⟩, A8, H⟩ := zbs H
 try dsimp only at H
 obtain ⟨⟨t1010, t1011, t1012⟩, A9, H⟩ := zbs H
 try dsimp only at H
 obtain ⟨⟨t1014, t1015, t1016⟩, A10, H⟩ := zbs H
 try dsimp only at H
 obtain ⟨⟨t1017, t1018, t1019⟩, A11, H⟩ := zbs H
 try dsimp only at H
 obtain ⟨⟨t1020, t1021, t1022⟩, A12, H⟩ := zbs H
 try dsimp only at H
 obtain ⟨⟨t1024, t1025, t1026⟩, A13, H⟩ := zbs H
 try dsimp only at H
 obtain ⟨⟨t1027, t1028, t1029⟩, A14, H⟩ := zbs H
 try dsimp only at H
 obtain ⟨⟨t1030, t1031, t1032, t1033, t1034, t1035⟩, A15, H⟩ := zbs H
 try dsimp only at H
 obtain ⟨⟨t1038, t1039, t1040⟩, A16, H⟩ := zbs H
 try dsimp only at H
 by_cases c17 : (t990 == t1038 && (t991 == t1039 && (t992 == t1040))) = true
 ·rw [if_pos c17] at H
  have c17b0 : (t990 == t1038 && (t991 == t1039 && (t992 == t1040))) = true := c17
  (try (have c17b1 : decide (t990 = t1038 && (t991 == t1039 && (t992 == t1040))) = true := by simpa using c17))
  (try (have c17b2 : (t990 == t1038 && (t991 == t1039 && (t992 == t1040))) = true := by simpa using c17))
  clear c17
  obtain ⟨⟨t1041, t1042, t1043⟩, A18, H⟩ := zbs H
  try dsimp only at H
  by_cases c19 : (t1000 == t1041 && (t1001 == t1042 && (t1002 == t1043))) = true
  ·rw [if_pos c19] at H
   have c19b0 : (t1000 == t1041 && (t1001 == t1042 && (t1002 == t1043))) = true := c19
   (try (have c19b1 : decide (t1000 = t1041 && (t1001 == t1042 && (t1002 == t1043))) = true := by simpa using c19))
   (try (have c19b2 : (t1000 == t1041 && (t1001 == t1042 && (t1002 == t1043))) = true := by simpa using c19))
   clear c19
   obtain ⟨⟨t1044, t1045, t1046⟩, A20, H⟩ := zbs H
   try dsimp only at H
   by_cases c21 : (t1010 == t1044 && (t1011 == t1045 && (t1012 == t1046))) = true
   ·rw [if_pos c21] at H
    have c21b0 : (t1010 == t1044 && (t1011 == t1045 && (t1012 == t1046))) = true := c21
    (try (have c21b1 : decide (t1010 = t1044 && (t1011 == t1045 && (t1012 == t1046))) = true := by simpa using c21))
    (try (have c21b2 : (t1010 == t1044 && (t1011 == t1045 && (t1012 == t1046))) = true := by simpa using c21))
    clear c21
    obtain ⟨t1047, A22, H⟩ := zbs H
    try dsimp only at H
    obtain ⟨⟨t1048, t1049, t1050⟩, A23, H⟩ := zbs H
    try dsimp only at H
    by_cases c24 : (t1020 == t1048 && (t1021 == t1049 && (t1022 == t1050))) = true
    ·rw [if_pos c24] at H
     have c24b0 : (t1020 == t1048 && (t1021 == t1049 && (t1022 == t1050))) = true := c24
     (try (have c24b1 : decide (t1020 = t1048 && (t1021 == t1049 && (t1022 == t1050))) = true := by simpa using c24))
     (try (have c24b2 : (t1020 == t1048 && (t1021 == t1049 && (t1022 == t1050))) = true := by simpa using c24))
     clear c24
     obtain ⟨⟨t1051, t1052, t1053⟩, A25, H⟩ := zbs H
     try dsimp only at H
     by_cases c26 : (t1030 == t1051 && (t1031 == t1052 && (t1032 == t1053))) = true
     ·rw [if_pos c26] at H
      have c26b0 : (t1030 == t1051 && (t1031 == t1052 && (t1032 == t1053))) = true := c26
      (try (have c26b1 : decide (t1030 = t1051 && (t1031 == t1052 && (t1032 == t1053))) = true := by simpa using c26))
      (try (have c26b2 : (t1030 == t1051 && (t1031 == t1052 && (t1032 == t1053))) = true := by simpa using c26))
      clear c26
      obtain ⟨⟨t1054, t1055, t1056⟩, A27, H⟩ := zbs H
      try dsimp only at H
      by_cases c28 : (t1033 == t1054 && (t1034 == t1055 && (t1035 == t1056))) = true
      ·rw [if_pos c28] at H
       have c28b0 : (t1033 == t1054 && (t1034 == t1055 && (t1035 == t1056))) = true := c28
       (try (have c28b1 : decide (t1033 = t1054 && (t1034 == t1055 && (t1035 == t1056))) = true := by simpa using c28))
       (try (have c28b2 : (t1033 == t1054 && (t1034 == t1055 && (t1035 == t1056))) = true := by simpa using c28))
       clear c28
       obtain ⟨⟨t1057, t1058, t1059⟩, A29, H⟩ := zbs H
       try dsimp only at H
       by_cases c30 : t1057 = true
       ·subst c30
        replace H := zit H
        obtain ⟨t1060, A31, H⟩ := zbs H
        try dsimp only at H
        by_cases c32 : t1060 = true
        ·subst c32
         replace H := zit H
         obtain ⟨⟨t1061, t1062, t1063⟩, A33, H⟩ := zbs H
         try dsimp only at H
         obtain ⟨t1064, A34, H⟩ := zbs H
         try dsimp only at H
         by_cases c35 : t1064 = true
         ·subst c35
          replace H := zit H
          obtain ⟨y1065, hy1065⟩ : ∃ y_ : List (S43), y_ = (([(⟨t1030, t1031, t1032⟩ : S43), (⟨t1033, t1034, t1035⟩ : S43)] : List (S43))) := ⟨_, rfl⟩
          replace H : ((span_Join.f k y1065).bind fun bt1068 => ((span_Make.f k 0 4611686018427387904).bind fun bt1071 => (if (bt1068.1 == bt1071.1 && (bt1068.2.1 == bt1071.2.1 && (bt1068.2.2 == bt1071.2.2))) = true then ((span_Meet.f k t1030 t1031 t1032 t1033 t1034 t1035).bind fun bt1074 => ((span_Make.f k 4607182418800017408 4611686018427387903).bind fun bt1077 => (if (bt1074.1 == bt1077.1 && (bt1074.2.1 == bt1077.2.1 && (bt1074.2.2 == bt1077.2.2))) = true then ((span_Neg.f k t1033 t1034 t1035).bind fun bt1080 => ((span_Most.f k bt1080.1 bt1080.2.1 bt1080.2.2).bind fun t1083 => (if t1083 = 4611686018427387904 then ((span_Make.f k 13830554455654793216 0).bind fun bt1084 => ((span_Abs.f k bt1084.1 bt1084.2.1 bt1084.2.2).bind fun bt1087 => ((span_Make.f k 0 4607182418800017408).bind fun bt1090 => (some (bt1087.1 == bt1090.1 && (bt1087.2.1 == bt1090.2.1 && (bt1087.2.2 == bt1090.2.2))))))) else (some false)))) else (some false)))) else (some false)))) = some r := by first | (rw [hy1065]; with_reducible exact H) | (have H2_ := (Option.bind_some _ _).symm.trans H; rw [hy1065]; with_reducible exact H2_) | (have H2_ := (Option.bind_some _ _).symm.trans H; with_reducible exact H2_) | with_reducible exact H | (rw [hy1065]; exact H) | exact H
          have Ny1065 := Aside0.mk hy1065
          clear hy1065
          obtain ⟨⟨t1068, t1069, t1070⟩, A36, H⟩ := zbs H
          try dsimp only at H
          obtain ⟨⟨t1071, t1072, t1073⟩, A37, H⟩ := zbs H
          try dsimp only at H
          by_cases c38 : (t1068 == t1071 && (t1069 == t1072 && (t1070 == t1073))) = true
          ·rw [if_pos c38] at H
           have c38b0 : (t1068 == t1071 && (t1069 == t1072 && (t1070 == t1073))) = true := c38
           (try (have c38b1 : decide (t1068 = t1071 && (t1069 == t1072 && (t1070 == t1073))) = true := by simpa using c38))
           (try (have c38b2 : (t1068 == t1071 && (t1069 == t1072 && (t1070 == t1073))) = true := by simpa using c38))
           clear c38
           obtain ⟨⟨t1074, t1075, t1076⟩, A39, H⟩ := zbs H
           try dsimp only at H
           obtain ⟨⟨t1077, t1078, t1079⟩, A40, H⟩ := zbs H
           try dsimp only at H
           by_cases c41 : (t1074 == t1077 && (t1075 == t1078 && (t1076 == t1079))) = true
           ·rw [if_pos c41] at H
            have c41b0 : (t1074 == t1077 && (t1075 == t1078 && (t1076 == t1079))) = true := c41
            (try (have c41b1 : decide (t1074 = t1077 && (t1075 == t1078 && (t1076 == t1079))) = true := by simpa using c41))
            (try (have c41b2 : (t1074 == t1077 && (t1075 == t1078 && (t1076 == t1079))) = true := by simpa using c41))
            clear c41
            obtain ⟨⟨t1080, t1081, t1082⟩, A42, H⟩ := zbs H
            try dsimp only at H
            obtain ⟨t1083, A43, H⟩ := zbs H
            try dsimp only at H
            by_cases c44 : t1083 = 4611686018427387904
            ·rw [if_pos c44] at H
             have c44b0 : (t1083 == 4611686018427387904) = true := beq_iff_eq.mpr c44
             have c44b1 : (t1083 != 4611686018427387904) = false := bne_eq_false_iff_eq.mpr c44
             clear c44
             obtain ⟨⟨t1084, t1085, t1086⟩, A45, H⟩ := zbs H
             try dsimp only at H
             obtain ⟨⟨t1087, t1088, t1089⟩, A46, H⟩ := zbs H
             try dsimp only at H
             obtain ⟨⟨t1090, t1091, t1092⟩, A47, H⟩ := zbs H
             try dsimp only at H
             obtain rfl := Option.some.inj H
             go_enter Try.func36, Try.ntmps36
             try go_wp2_with (first | ((with_reducible refine gtc 37 rfl ?_); refine zgL 7 Try.func37 (span_Make.calls k 4607182418800017408 4611686018427387904 t984 t985 t986 _ A1.out) (h := ?_); rintro w48 hb; replace HB := Aside0.mk (below_step zaB hb); (try clear hb)) | ((with_reducible refine gtc 37 rfl ?_); refine zgL 8 Try.func37 (span_Make.calls k 13837309855095848960 4616189618054758400 t987 t988 t989 _ A2.out) (h := ?_); rintro w49 hb; replace HB := Aside0.mk (below_step zaB hb); (try clear hb)) | ((with_reducible refine gtc 67 rfl ?_); refine zgL 9 Try.func67 (span_Mul.calls k t984 t985 t986 t987 t988 t989 t990 t991 t992 _ A3.out) (h := ?_); rintro w50 hb; replace HB := Aside0.mk (below_step zaB hb); (try clear hb)) | ((with_reducible refine gtd 1 rfl ?_); (try (refine gate_guard (by rfl) ?_; dsimp only)); refine zbx 1 #[.bool false, .int .u64 0, .int .u64 0] 43 (h := ?_); intro gb993 hg w51 hbox hb; have GW993 := zkZ hg (zaB (p := Below w.heap.size w _)); replace HB := Aside0.mk (below_step zaB hb); have BK993 := Aside0.mk (hbox); clear hb hbox hg; obtain ⟨_, _, _, _, _, _⟩ := zq3 BK993) | ((with_reducible refine gtc 39 rfl ?_); refine zgL 10 Try.func39 (span_Point.calls k 4607182418800017408 t994 t995 t996 _ A4.out) (h := ?_); rintro w53 hb; replace BK993 := Aside0.mk (blk_below (o := .cells #[.bool t990, .int .u64 t991, .int .u64 t992] 43 (0, 0)) (blk_put (cs := #[.bool t990, .int .u64 t991, .int .u64 0]) (blk_put (cs := #[.bool t990, .int .u64 0, .int .u64 0]) (blk_put BK993.out 0 _ rfl) 1 _ rfl) 2 _ rfl) hb); replace HB := Aside0.mk (below_step (below_set (below_set (below_set HB.out GW993.out) GW993.out) GW993.out) hb); (try clear hb)) | ((with_reducible refine gtc 37 rfl ?_); refine zgL 11 Try.func37 (span_Make.calls k 13830554455654793216 4611686018427387904 t997 t998 t999 _ A5.out) (h := ?_); rintro w54 hb; replace BK993 := zkb BK993 hb; replace HB := zkB HB hb; (try clear hb)) | ((with_reducible refine gtc 68 rfl ?_); refine zgL 12 Try.func68 (span_Div.calls k t994 t995 t996 t997 t998 t999 t1000 t1001 t1002 _ A6.out) (h := ?_); rintro w55 hb; replace BK993 := zkb BK993 hb; replace HB := zkB HB hb; (try clear hb)) | ((with_reducible refine gtd 2 rfl ?_); (try (refine gate_guard (by rfl) ?_; dsimp only)); refine zbx 2 #[.bool false, .int .u64 0, .int .u64 0] 43 (h := ?_); intro gb1003 hg w56 hbox hb; have GW1003 := zkz HB hg; have NB993_1003 := zkl BK993 hg; have NB1003_993 := zkr BK993 hg; replace BK993 := zkb BK993 hb; replace HB := zkB HB hb; have BK1003 := Aside0.mk (hbox); clear hb hbox hg; obtain ⟨_, _⟩ := zsy NB1003_993; obtain ⟨_, _, _, _, _, _⟩ := zq3 BK1003) | ((with_reducible refine gtc 39 rfl ?_); refine zgL 13 Try.func39 (span_Point.calls k 0 t1004 t1005 t1006 _ A7.out) (h := ?_); rintro w59 hb; replace BK993 := Aside0.mk (blk_below (zkf (zkf (zkf BK993.out NB993_1003.out _) NB993_1003.out _) NB993_1003.out _) hb); replace BK1003 := Aside0.mk (blk_below (o := .cells #[.bool t1000, .int .u64 t1001, .int .u64 t1002] 43 (0, 0)) (blk_put (cs := #[.bool t1000, .int .u64 t1001, .int .u64 0]) (blk_put (cs := #[.bool t1000, .int .u64 0, .int .u64 0]) (blk_put BK1003.out 0 _ rfl) 1 _ rfl) 2 _ rfl) hb); replace HB := Aside0.mk (below_step (below_set (below_set (below_set HB.out GW1003.out) GW1003.out) GW1003.out) hb); (try clear hb)) | ((with_reducible refine gtc 37 rfl ?_); refine zgL 14 Try.func37 (span_Make.calls k 13830554455654793216 4611686018427387904 t1007 t1008 t1009 _ A8.out) (h := ?_); rintro w60 hb; replace BK993 := zkb BK993 hb; replace BK1003 := zkb BK1003 hb; replace HB := zkB HB hb; (try clear hb)) | ((with_reducible refine gtc 68 rfl ?_); refine zgL 15 Try.func68 (span_Div.calls k t1004 t1005 t1006 t1007 t1008 t1009 t1010 t1011 t1012 _ A9.out) (h := ?_); rintro w61 hb; replace BK993 := zkb BK993 hb; replace BK1003 := zkb BK1003 hb; replace HB := zkB HB hb; (try clear hb)) | ((with_reducible refine gtd 3 rfl ?_); (try (refine gate_guard (by rfl) ?_; dsimp only)); refine zbx 3 #[.bool false, .int .u64 0, .int .u64 0] 43 (h := ?_); intro gb1013 hg w62 hbox hb; have GW1013 := zkz HB hg; have NB993_1013 := zkl BK993 hg; have NB1013_993 := zkr BK993 hg; have NB1003_1013 := zkl BK1003 hg; have NB1013_1003 := zkr BK1003 hg; replace BK993 := zkb BK993 hb; replace BK1003 := zkb BK1003 hb; replace HB := zkB HB hb; have BK1013 := Aside0.mk (hbox); clear hb hbox hg; obtain ⟨_, _⟩ := zsy NB1013_993; obtain ⟨_, _⟩ := zsy NB1013_1003; obtain ⟨_, _, _, _, _, _⟩ := zq3 BK1013) | ((with_reducible refine gtc 39 rfl ?_); refine zgL 16 Try.func39 (span_Point.calls k 4607182418800017408 t1014 t1015 t1016 _ A10.out) (h := ?_); rintro w66 hb; replace BK993 := Aside0.mk (blk_below (zkf (zkf (zkf BK993.out NB993_1013.out _) NB993_1013.out _) NB993_1013.out _) hb); replace BK1003 := Aside0.mk (blk_below (zkf (zkf (zkf BK1003.out NB1003_1013.out _) NB1003_1013.out _) NB1003_1013.out _) hb); replace BK1013 := Aside0.mk (blk_below (o := .cells #[.bool t1010, .int .u64 t1011, .int .u64 t1012] 43 (0, 0)) (blk_put (cs := #[.bool t1010, .int .u64 t1011, .int .u64 0]) (blk_put (cs := #[.bool t1010, .int .u64 0, .int .u64 0]) (blk_put BK1013.out 0 _ rfl) 1 _ rfl) 2 _ rfl) hb); replace HB := Aside0.mk (below_step (below_set (below_set (below_set HB.out GW1013.out) GW1013.out) GW1013.out) hb); (try clear hb)) | ((with_reducible refine gtc 37 rfl ?_); refine zgL 17 Try.func37 (span_Make.calls k 0 4616189618054758400 t1017 t1018 t1019 _ A11.out) (h := ?_); rintro w67 hb; replace BK993 := zkb BK993 hb; replace BK1003 := zkb BK1003 hb; replace BK1013 := zkb BK1013 hb; replace HB := zkB HB hb; (try clear hb)) | ((with_reducible refine gtc 68 rfl ?_); refine zgL 18 Try.func68 (span_Div.calls k t1014 t1015 t1016 t1017 t1018 t1019 t1020 t1021 t1022 _ A12.out) (h := ?_); rintro w68 hb; replace BK993 := zkb BK993 hb; replace BK1003 := zkb BK1003 hb; replace BK1013 := zkb BK1013 hb; replace HB := zkB HB hb; (try clear hb)) | ((with_reducible refine gtd 4 rfl ?_); (try (refine gate_guard (by rfl) ?_; dsimp only)); refine zbx 4 #[.bool false, .int .u64 0, .int .u64 0] 43 (h := ?_); intro gb1023 hg w69 hbox hb; have GW1023 := zkz HB hg; have NB993_1023 := zkl BK993 hg; have NB1023_993 := zkr BK993 hg; have NB1003_1023 := zkl BK1003 hg; have NB1023_1003 := zkr BK1003 hg; have NB1013_1023 := zkl BK1013 hg; have NB1023_1013 := zkr BK1013 hg; replace BK993 := zkb BK993 hb; replace BK1003 := zkb BK1003 hb; replace BK1013 := zkb BK1013 hb; replace HB := zkB HB hb; have BK1023 := Aside0.mk (hbox); clear hb hbox hg; obtain ⟨_, _⟩ := zsy NB1023_993; obtain ⟨_, _⟩ := zsy NB1023_1003; obtain ⟨_, _⟩ := zsy NB1023_1013; obtain ⟨_, _, _, _, _, _⟩ := zq3 BK1023) | ((with_reducible refine gtc 37 rfl ?_); refine zgL 20 Try.func37 (span_Make.calls k 0 4616189618054758400 t1024 t1025 t1026 _ A13.out) (h := ?_); rintro w74 hb; replace BK993 := Aside0.mk (blk_below (zkf (zkf (zkf BK993.out NB993_1023.out _) NB993_1023.out _) NB993_1023.out _) hb); replace BK1003 := Aside0.mk (blk_below (zkf (zkf (zkf BK1003.out NB1003_1023.out _) NB1003_1023.out _) NB1003_1023.out _) hb); replace BK1013 := Aside0.mk (blk_below (zkf (zkf (zkf BK1013.out NB1013_1023.out _) NB1013_1023.out _) NB1013_1023.out _) hb); replace BK1023 := Aside0.mk (blk_below (o := .cells #[.bool t1020, .int .u64 t1021, .int .u64 t1022] 43 (0, 0)) (blk_put (cs := #[.bool t1020, .int .u64 t1021, .int .u64 0]) (blk_put (cs := #[.bool t1020, .int .u64 0, .int .u64 0]) (blk_put BK1023.out 0 _ rfl) 1 _ rfl) 2 _ rfl) hb); replace HB := Aside0.mk (below_step (below_set (below_set (below_set HB.out GW1023.out) GW1023.out) GW1023.out) hb); (try clear hb)) | ((with_reducible refine gtc 37 rfl ?_); refine zgL 21 Try.func37 (span_Make.calls k 4607182418800017408 4611686018427387904 t1027 t1028 t1029 _ A14.out) (h := ?_); rintro w75 hb; replace BK993 := zkb BK993 hb; replace BK1003 := zkb BK1003 hb; replace BK1013 := zkb BK1013 hb; replace BK1023 := zkb BK1023 hb; replace HB := zkB HB hb; (try clear hb)) | ((with_reducible refine gtc 52 rfl ?_); refine zgL 22 Try.func52 (span_Test.calls k 9 t1024 t1025 t1026 t1027 t1028 t1029 t1030 t1031 t1032 t1033 t1034 t1035 _ A15.out) (h := ?_); rintro w76 hb; replace BK993 := zkb BK993 hb; replace BK1003 := zkb BK1003 hb; replace BK1013 := zkb BK1013 hb; replace BK1023 := zkb BK1023 hb; replace HB := zkB HB hb; (try clear hb)) | ((with_reducible refine gtd 5 rfl ?_); (try (refine gate_guard (by rfl) ?_; dsimp only)); refine zbx 5 #[.bool false, .int .u64 0, .int .u64 0] 43 (h := ?_); intro gb1036 hg w77 hbox hb; have GW1036 := zkz HB hg; have NB993_1036 := zkl BK993 hg; have NB1036_993 := zkr BK993 hg; have NB1003_1036 := zkl BK1003 hg; have NB1036_1003 := zkr BK1003 hg; have NB1013_1036 := zkl BK1013 hg; have NB1036_1013 := zkr BK1013 hg; have NB1023_1036 := zkl BK1023 hg; have NB1036_1023 := zkr BK1023 hg; replace BK993 := zkb BK993 hb; replace BK1003 := zkb BK1003 hb; replace BK1013 := zkb BK1013 hb; replace BK1023 := zkb BK1023 hb; replace HB := zkB HB hb; have BK1036 := Aside0.mk (hbox); clear hb hbox hg) | ((with_reducible refine gtd 6 rfl ?_); (try (refine gate_guard (by rfl) ?_; dsimp only)); refine zbx 6 #[.bool false, .int .u64 0, .int .u64 0] 43 (h := ?_); intro gb1037 hg w78 hbox hb; have GW1037 := zkz HB hg; have NB993_1037 := zkl BK993 hg; have NB1037_993 := zkr BK993 hg; have NB1003_1037 := zkl BK1003 hg; have NB1037_1003 := zkr BK1003 hg; have NB1013_1037 := zkl BK1013 hg; have NB1037_1013 := zkr BK1013 hg; have NB1023_1037 := zkl BK1023 hg; have NB1037_1023 := zkr BK1023 hg; have NB1036_1037 := zkl BK1036 hg; have NB1037_1036 := zkr BK1036 hg; replace BK993 := zkb BK993 hb; replace BK1003 := zkb BK1003 hb; replace BK1013 := zkb BK1013 hb; replace BK1023 := zkb BK1023 hb; replace BK1036 := zkb BK1036 hb; replace HB := zkB HB hb; have BK1037 := Aside0.mk (hbox); clear hb hbox hg; obtain ⟨_, _⟩ := zsy NB1036_993; obtain ⟨_, _⟩ := zsy NB1036_1003; obtain ⟨_, _⟩ := zsy NB1036_1013; obtain ⟨_, _⟩ := zsy NB1036_1023; obtain ⟨_, _⟩ := zsy NB1036_1037; obtain ⟨_, _, _, _, _, _⟩ := zq3 BK1036; obtain ⟨_, _⟩ := zsy NB1037_993; obtain ⟨_, _⟩ := zsy NB1037_1003; obtain ⟨_, _⟩ := zsy NB1037_1013; obtain ⟨_, _⟩ := zsy NB1037_1023; obtain ⟨_, _, _, _, _, _⟩ := zq3 BK1037))
             generalize hW_ : ((((((w78.setCell ⟨gb1036, 0, none⟩ (.bool t1030)).setCell ⟨gb1036, 1, none⟩ (.int .u64 t1031)).setCell ⟨gb1036, 2, none⟩ (.int .u64 t1032)).setCell ⟨gb1037, 0, none⟩ (.bool t1033)).setCell ⟨gb1037, 1, none⟩ (.int .u64 t1034)).setCell ⟨gb1037, 2, none⟩ (.int .u64 t1035)) = w90
             replace BK993 := zkg hW_ (zkf (zkf (zkf (zkf (zkf (zkf BK993.out NB993_1036.out _) NB993_1036.out _) NB993_1036.out _) NB993_1037.out _) NB993_1037.out _) NB993_1037.out _)
             replace BK1003 := zkg hW_ (zkf (zkf (zkf (zkf (zkf (zkf BK1003.out NB1003_1036.out _) NB1003_1036.out _) NB1003_1036.out _) NB1003_1037.out _) NB1003_1037.out _) NB1003_1037.out _)
             replace BK1013 := zkg hW_ (zkf (zkf (zkf (zkf (zkf (zkf BK1013.out NB1013_1036.out _) NB1013_1036.out _) NB1013_1036.out _) NB1013_1037.out _) NB1013_1037.out _) NB1013_1037.out _)
             replace BK1023 := zkg hW_ (zkf (zkf (zkf (zkf (zkf (zkf BK1023.out NB1023_1036.out _) NB1023_1036.out _) NB1023_1036.out _) NB1023_1037.out _) NB1023_1037.out _) NB1023_1037.out _)
             replace BK1036 := zkg hW_ (ob := .cells #[.bool t1030, .int .u64 t1031, .int .u64 t1032] 43 (0, 0)) (zkf (zkf (zkf (blk_put (cs := #[.bool t1030, .int .u64 t1031, .int .u64 0]) (blk_put (cs := #[.bool t1030, .int .u64 0, .int .u64 0]) (blk_put BK1036.out 0 _ rfl) 1 _ rfl) 2 _ rfl) NB1036_1037.out _) NB1036_1037.out _) NB1036_1037.out _)
             replace BK1037 := zkg hW_ (ob := .cells #[.bool t1033, .int .u64 t1034, .int .u64 t1035] 43 (0, 0)) (blk_put (cs := #[.bool t1033, .int .u64 t1034, .int .u64 0]) (blk_put (cs := #[.bool t1033, .int .u64 0, .int .u64 0]) (blk_put (zkf (zkf (zkf BK1037.out NB1037_1036.out _) NB1037_1036.out _) NB1037_1036.out _) 0 _ rfl) 1 _ rfl) 2 _ rfl)
             replace HB := zkG hW_ (below_set (below_set (below_set (below_set (below_set (below_set HB.out GW1036.out) GW1036.out) GW1036.out) GW1037.out) GW1037.out) GW1037.out)
             clear hW_
             replace BK993 := Aside0.mk (blk_drew BK993.out)
             replace BK1003 := Aside0.mk (blk_drew BK1003.out)
             replace BK1013 := Aside0.mk (blk_drew BK1013.out)
             replace BK1023 := Aside0.mk (blk_drew BK1023.out)
             replace BK1036 := Aside0.mk (blk_drew BK1036.out)
             replace BK1037 := Aside0.mk (blk_drew BK1037.out)
             replace HB := Aside0.mk (below_drew1 HB.out)
             refine start_ (n := 70) (S := fun w' => w'.cell? ⟨gb993, 0, none⟩ = some (.bool t990) ∧ w'.cell? ⟨gb993, 1, none⟩ = some (.int .u64 t991) ∧ w'.cell? ⟨gb993, 2, none⟩ = some (.int .u64 t992) ∧ w'.cell? ⟨gb1003, 0, none⟩ = some (.bool t1000) ∧ w'.cell? ⟨gb1003, 1, none⟩ = some (.int .u64 t1001) ∧ w'.cell? ⟨gb1003, 2, none⟩ = some (.int .u64 t1002) ∧ w'.cell? ⟨gb1013, 0, none⟩ = some (.bool t1010) ∧ w'.cell? ⟨gb1013, 1, none⟩ = some (.int .u64 t1011) ∧ w'.cell? ⟨gb1013, 2, none⟩ = some (.int .u64 t1012) ∧ w'.cell? ⟨gb1023, 0, none⟩ = some (.bool t1020) ∧ w'.cell? ⟨gb1023, 1, none⟩ = some (.int .u64 t1021) ∧ w'.cell? ⟨gb1023, 2, none⟩ = some (.int .u64 t1022) ∧ w'.cell? ⟨gb1036, 0, none⟩ = some (.bool t1030) ∧ w'.cell? ⟨gb1036, 1, none⟩ = some (.int .u64 t1031) ∧ w'.cell? ⟨gb1036, 2, none⟩ = some (.int .u64 t1032) ∧ w'.cell? ⟨gb1037, 0, none⟩ = some (.bool t1033) ∧ w'.cell? ⟨gb1037, 1, none⟩ = some (.int .u64 t1034) ∧ w'.cell? ⟨gb1037, 2, none⟩ = some (.int .u64 t1035)) (ds := []) #[false, false, false, false, false, false, false, false, false, false, false, false, false, false, false, false, false, false, false, false, false, false, false, false, false, false, false, false, false, false, false, false, false, false, false, false, false, false, false, false, false, false, false, false, false, false, false, false, false, false, false, false, false, false, false, false, false, false, false, false, false, false, false, false, false, false, false, false, false, false] (by kernel_rfl) rfl rfl (zk3 BK993 (zk3 BK1003 (zk3 BK1013 (zk3 BK1023 (zk3 BK1036 (ze3 BK1037)))))) (fun hHeld => ?_); refine with_tabW flyballlaw16_works.tab6 flyballlaw16_works.bits6 (fun HT_ HW_ => ?_)
             generalize w90.drew = w91 at BK993 BK1003 BK1013 BK1023 BK1036 BK1037 HB hHeld ⊢
             refine ztA 0 25 (h := ?_)
             refine zoA 1 26 (h := fun K hK => ?_)
             refine zgA Try.func37 (span_Make.calls k 13841813454723219456 4620693217682128896 t1038 t1039 t1040 _ A16.out) (h := ?_)
             rintro w92 hb
             replace BK993 := zkb BK993 hb
             replace BK1003 := zkb BK1003 hb
             replace BK1013 := zkb BK1013 hb
             replace BK1023 := zkb BK1023 hb
             replace BK1036 := zkb BK1036 hb
             replace BK1037 := zkb BK1037 hb
             replace HB := zkB HB hb
             (try clear hb)
             refine hK.out _ _ (zk3 BK993 (zk3 BK1003 (zk3 BK1013 (zk3 BK1023 (zk3 BK1036 (ze3 BK1037)))))) (fun hHeld => ?_)
             clear hK K
             refine znA 26 (h := ?_)
             refine zpA 2 27 (h := ?_)
             refine zpA 3 28 (h := ?_)
             refine ztA 4 29 (h := ?_)
             refine zoA 5 30 (h := fun K hK => ?_)
             refine zgA Try.func40 (span_All.calls k  t1041 t1042 t1043 _ A18.out) (h := ?_)
             rintro w93 hb
             replace BK993 := zkb BK993 hb
             replace BK1003 := zkb BK1003 hb
             replace BK1013 := zkb BK1013 hb
             replace BK1023 := zkb BK1023 hb
             replace BK1036 := zkb BK1036 hb
             replace BK1037 := zkb BK1037 hb
             replace HB := zkB HB hb
             (try clear hb)
             refine hK.out _ _ (zk3 BK993 (zk3 BK1003 (zk3 BK1013 (zk3 BK1023 (zk3 BK1036 (ze3 BK1037)))))) (fun hHeld => ?_)
             clear hK K
             refine znA 30 (h := ?_)
             refine zpA 6 31 (h := ?_)
             refine zpA 7 32 (h := ?_)
             refine zpA 8 33 (h := ?_)
             refine ztA 9 34 (h := ?_)
             refine zoA 10 35 (h := fun K hK => ?_)
             refine zgA Try.func39 (span_Point.calls k 0 t1044 t1045 t1046 _ A20.out) (h := ?_)
             rintro w94 hb
             replace BK993 := zkb BK993 hb
             replace BK1003 := zkb BK1003 hb
             replace BK1013 := zkb BK1013 hb
             replace BK1023 := zkb BK1023 hb
             replace BK1036 := zkb BK1036 hb
             replace BK1037 := zkb BK1037 hb
             replace HB := zkB HB hb
             (try clear hb)
             refine hK.out _ _ (zk3 BK993 (zk3 BK1003 (zk3 BK1013 (zk3 BK1023 (zk3 BK1036 (ze3 BK1037)))))) (fun hHeld => ?_)
             clear hK K
             refine znA 35 (h := ?_)
             refine zpA 11 36 (h := ?_)
             refine zpA 12 37 (h := ?_)
             refine zpA 13 38 (h := ?_)
             refine ztA 14 39 (h := ?_)
             refine zoA 15 40 (h := fun K hK => ?_)
             refine zgA Try.func79 (pattern_Inf.calls k false t1047 _ A22.out) (h := ?_)
             rintro w' ⟨nd, rfl⟩
             refine hK.out _ _ (zk3 BK993 (zk3 BK1003 (zk3 BK1013 (zk3 BK1023 (zk3 BK1036 (ze3 BK1037)))))) (fun hHeld => ?_)
             clear hK K
             refine znA 40 (h := ?_)
             refine zoA 16 41 (h := fun K hK => ?_)
             refine zgA Try.func37 (span_Make.calls k 4598175219545276416 t1047 t1048 t1049 t1050 _ A23.out) (h := ?_)
             rintro w95 hb
             replace BK993 := zkb BK993 hb
             replace BK1003 := zkb BK1003 hb
             replace BK1013 := zkb BK1013 hb
             replace BK1023 := zkb BK1023 hb
             replace BK1036 := zkb BK1036 hb
             replace BK1037 := zkb BK1037 hb
             replace HB := zkB HB hb
             (try clear hb)
             refine hK.out _ _ (zk3 BK993 (zk3 BK1003 (zk3 BK1013 (zk3 BK1023 (zk3 BK1036 (ze3 BK1037)))))) (fun hHeld => ?_)
             clear hK K
             refine znA 41 (h := ?_)
             refine zpA 17 42 (h := ?_)
             refine zpA 18 43 (h := ?_)
             refine zpA 19 44 (h := ?_)
             refine ztA 20 45 (h := ?_)
             refine zoA 21 46 (h := fun K hK => ?_)
             refine zgA Try.func37 (span_Make.calls k 0 4611686018427387903 t1051 t1052 t1053 _ A25.out) (h := ?_)
             rintro w96 hb
             replace BK993 := zkb BK993 hb
             replace BK1003 := zkb BK1003 hb
             replace BK1013 := zkb BK1013 hb
             replace BK1023 := zkb BK1023 hb
             replace BK1036 := zkb BK1036 hb
             replace BK1037 := zkb BK1037 hb
             replace HB := zkB HB hb
             (try clear hb)
             refine hK.out _ _ (zk3 BK993 (zk3 BK1003 (zk3 BK1013 (zk3 BK1023 (zk3 BK1036 (ze3 BK1037)))))) (fun hHeld => ?_)
             clear hK K
             refine znA 46 (h := ?_)
             refine zpA 22 47 (h := ?_)
             refine zpA 23 48 (h := ?_)
             refine zpA 24 49 (h := ?_)
             refine ztA 25 50 (h := ?_)
             refine zoA 26 51 (h := fun K hK => ?_)
             refine zgA Try.func37 (span_Make.calls k 4607182418800017408 4611686018427387904 t1054 t1055 t1056 _ A27.out) (h := ?_)
             rintro w97 hb
             replace BK993 := zkb BK993 hb
             replace BK1003 := zkb BK1003 hb
             replace BK1013 := zkb BK1013 hb
             replace BK1023 := zkb BK1023 hb
             replace BK1036 := zkb BK1036 hb
             replace BK1037 := zkb BK1037 hb
             replace HB := zkB HB hb
             (try clear hb)
             refine hK.out _ _ (zk3 BK993 (zk3 BK1003 (zk3 BK1013 (zk3 BK1023 (zk3 BK1036 (ze3 BK1037)))))) (fun hHeld => ?_)
             clear hK K
             refine znA 51 (h := ?_)
             refine zpA 27 52 (h := ?_)
             refine zpA 28 53 (h := ?_)
             refine zpA 29 54 (h := ?_)
             refine zoA 30 55 (h := fun K hK => ?_)
             refine zgA Try.func37 (span_Make.calls k 4611686018427387904 4607182418800017408 true t1058 t1059 _ A29.out) (h := ?_)
             rintro w98 hb
             replace BK993 := zkb BK993 hb
             replace BK1003 := zkb BK1003 hb
             replace BK1013 := zkb BK1013 hb
             replace BK1023 := zkb BK1023 hb
             replace BK1036 := zkb BK1036 hb
             replace BK1037 := zkb BK1037 hb
             replace HB := zkB HB hb
             (try clear hb)
             refine hK.out _ _ (zk3 BK993 (zk3 BK1003 (zk3 BK1013 (zk3 BK1023 (zk3 BK1036 (ze3 BK1037)))))) (fun hHeld => ?_)
             clear hK K
             refine znA 55 (h := ?_)
             refine zpA 31 56 (h := ?_)
             refine zpA 32 57 (h := ?_)
             refine zpA 33 58 (h := ?_)
             refine ztA 34 59 (h := ?_)
             refine zoA 35 60 (h := fun K hK => ?_)
             refine zgA Try.func41 (span_Has.calls k t1030 t1031 t1032 4607182418800017408 true _ A31.out) (h := ?_)
             rintro w99 hb
             replace BK993 := zkb BK993 hb
             replace BK1003 := zkb BK1003 hb
             replace BK1013 := zkb BK1013 hb
             replace BK1023 := zkb BK1023 hb
             replace BK1036 := zkb BK1036 hb
             replace BK1037 := zkb BK1037 hb
             replace HB := zkB HB hb
             (try clear hb)
             refine hK.out _ _ (zk3 BK993 (zk3 BK1003 (zk3 BK1013 (zk3 BK1023 (zk3 BK1036 (ze3 BK1037)))))) (fun hHeld => ?_)
             clear hK K
             refine znA 60 (h := ?_)
             refine zpA 36 61 (h := ?_)
             refine zpA 37 62 (h := ?_)
             refine ztA 38 63 (h := ?_)
             refine zoA 39 64 (h := fun K hK => ?_)
             refine zgA Try.func37 (span_Make.calls k 0 4616189618054758400 t1061 t1062 t1063 _ A33.out) (h := ?_)
             rintro w100 hb
             replace BK993 := zkb BK993 hb
             replace BK1003 := zkb BK1003 hb
             replace BK1013 := zkb BK1013 hb
             replace BK1023 := zkb BK1023 hb
             replace BK1036 := zkb BK1036 hb
             replace BK1037 := zkb BK1037 hb
             replace HB := zkB HB hb
             (try clear hb)
             refine hK.out _ _ (zk3 BK993 (zk3 BK1003 (zk3 BK1013 (zk3 BK1023 (zk3 BK1036 (ze3 BK1037)))))) (fun hHeld => ?_)
             clear hK K
             refine znA 64 (h := ?_)
             refine zoA 40 65 (h := fun K hK => ?_)
             refine zgA Try.func43 (span_Inside.calls k t1033 t1034 t1035 t1061 t1062 t1063 true _ A34.out) (h := ?_)
             rintro w101 hb
             replace BK993 := zkb BK993 hb
             replace BK1003 := zkb BK1003 hb
             replace BK1013 := zkb BK1013 hb
             replace BK1023 := zkb BK1023 hb
             replace BK1036 := zkb BK1036 hb
             replace BK1037 := zkb BK1037 hb
             replace HB := zkB HB hb
             (try clear hb)
             refine hK.out _ _ (zk3 BK993 (zk3 BK1003 (zk3 BK1013 (zk3 BK1023 (zk3 BK1036 (ze3 BK1037)))))) (fun hHeld => ?_)
             clear hK K
             refine znA 65 (h := ?_)
             refine zpA 41 66 (h := ?_)
             refine zpA 42 67 (h := ?_)
             refine ztA 43 68 (h := ?_)
             refine ztA 44 69 (h := ?_)
             refine zoA 45 70 (h := fun K hK => ?_)
             refine Kd.R_lit_step k43 _ 43 ?hg (N := 70) ?hd (xs := ([(⟨t1030, t1031, t1032⟩ : S43), (⟨t1033, t1034, t1035⟩ : S43)] : List (S43))) (inner := [.bool t1030, .int .u64 t1031, .int .u64 t1032, .bool t1033, .int .u64 t1034, .int .u64 t1035]) (ok := fun _ => True) (okp := fun _ => True) ?hr ?hp (fun _ hk => hk) trivial (Below.refl _ _) (Nat.le_refl _) (by simp) ?_; (case hd => rfl); (case hg => rfl); (case hr => first | (go_simp; done) | (go_simp; rfl)); (case hp => exact (Reps.c3 (show Kd.M k43 _ _ _ (⟨t1030, t1031, t1032⟩ : S43) [.bool t1030, .int .u64 t1031, .int .u64 t1032] from (k43_mkM _ _ _ (⟨t1030, t1031, t1032⟩ : S43) )) (Reps.c3 (show Kd.M k43 _ _ _ (⟨t1033, t1034, t1035⟩ : S43) [.bool t1033, .int .u64 t1034, .int .u64 t1035] from (k43_mkM _ _ _ (⟨t1033, t1034, t1035⟩ : S43) )) (Reps.none _ _))))
             intro v1066 w102 ho103 hb hg_ hnew_
             clear hg_ hnew_
             (first | rw [← Ny1065.out] at ho103 | (simp only [Int.reduceToNat] at ho103; rw [← Ny1065.out] at ho103))
             have HO1067 := Aside0.mk (Kd.R_lower (Kd.R_newB (Kd.R_newB (Kd.R_newB (Kd.R_newB (Kd.R_newB (Kd.R_newB ho103 (g := gb993) (o := .cells #[.bool t990, .int .u64 t991, .int .u64 t992] 43 (0, 0)) (zkq BK993)) (g := gb1003) (o := .cells #[.bool t1000, .int .u64 t1001, .int .u64 t1002] 43 (0, 0)) (zkq BK1003)) (g := gb1013) (o := .cells #[.bool t1010, .int .u64 t1011, .int .u64 t1012] 43 (0, 0)) (zkq BK1013)) (g := gb1023) (o := .cells #[.bool t1020, .int .u64 t1021, .int .u64 t1022] 43 (0, 0)) (zkq BK1023)) (g := gb1036) (o := .cells #[.bool t1030, .int .u64 t1031, .int .u64 t1032] 43 (0, 0)) (zkq BK1036)) (g := gb1037) (o := .cells #[.bool t1033, .int .u64 t1034, .int .u64 t1035] 43 (0, 0)) (zkq BK1037)) (below_size zaB))
             replace BK993 := zkb BK993 hb
             replace BK1003 := zkb BK1003 hb
             replace BK1013 := zkb BK1013 hb
             replace BK1023 := zkb BK1023 hb
             replace BK1036 := zkb BK1036 hb
             replace BK1037 := zkb BK1037 hb
             replace HB := zkB HB hb
             clear hb ho103
             obtain ⟨Ao104, co104, eo104⟩ := Kd.R_slice HO1067.out
             (first | subst eo104 | (injection eo104 with f1_ f2_ f3_; have f4_ := f1_.symm; have f5_ := f3_.symm; clear f1_ f2_ f3_; subst f4_; subst f5_))
             refine hK.out _ _ (zk3 BK993 (zk3 BK1003 (zk3 BK1013 (zk3 BK1023 (zk3 BK1036 (ze3 BK1037)))))) (fun hHeld => ?_)
             clear hK K
             refine znA 70 (h := ?_)
             refine zoA 46 71 (h := fun K hK => ?_)
             refine goes_ Try.func45 (by kernel_rfl) rfl #[.slice Ao104 y1065.length co104] (by rfl) rfl rfl (by (try simp only [List.map_toArray, List.map_cons, List.map_nil]); first | done | rfl | (simp only [List.length_drop, List.length_take]; rfl)) ?_
             with_reducible refine (span_Join.calls k _ _ y1065 t1068 t1069 t1070 _ ?side1 ?side2 A36.out).mono ?_
             (case side1 => repeat (first | exact (Kd.R_reads' HO1067.out).2.2 | (with_reducible refine Kd.C_alloc ?_ _) | (with_reducible refine Kd.C_drewN ?_ _) | (with_reducible refine Kd.C_drew ?_)))
             (case side2 => exact (Kd.R_reads' HO1067.out).2.1)
             rintro e w105 ⟨rfl, hb⟩
             refine ⟨_, rfl, ?_⟩
             replace HO1067 := Aside0.mk (Kd.R_below (by (with_reducible repeat (first | apply Kd.R_alloc | apply Kd.R_drewN | apply Kd.R_drew)); exact HO1067.out) hb)
             replace BK993 := zkb BK993 hb
             replace BK1003 := zkb BK1003 hb
             replace BK1013 := zkb BK1013 hb
             replace BK1023 := zkb BK1023 hb
             replace BK1036 := zkb BK1036 hb
             replace BK1037 := zkb BK1037 hb
             replace HB := zkB HB hb
             (try clear hb)
             refine hK.out _ _ (zk3 BK993 (zk3 BK1003 (zk3 BK1013 (zk3 BK1023 (zk3 BK1036 (ze3 BK1037)))))) (fun hHeld => ?_)
             clear hK K
             refine znA 71 (h := ?_)
             refine zoA 47 72 (h := fun K hK => ?_)
             refine zgA Try.func37 (span_Make.calls k 0 4611686018427387904 t1071 t1072 t1073 _ A37.out) (h := ?_)
             rintro w106 hb
             replace HO1067 := Aside0.mk (Kd.R_below (by (with_reducible repeat (first | apply Kd.R_alloc | apply Kd.R_drewN | apply Kd.R_drew)); exact HO1067.out) hb)
             replace BK993 := zkb BK993 hb
             replace BK1003 := zkb BK1003 hb
             replace BK1013 := zkb BK1013 hb
             replace BK1023 := zkb BK1023 hb
             replace BK1036 := zkb BK1036 hb
             replace BK1037 := zkb BK1037 hb
             replace HB := zkB HB hb
             (try clear hb)
             refine hK.out _ _ (zk3 BK993 (zk3 BK1003 (zk3 BK1013 (zk3 BK1023 (zk3 BK1036 (ze3 BK1037)))))) (fun hHeld => ?_)
             clear hK K
             refine znA 72 (h := ?_)
             refine zpA 48 73 (h := ?_)
             refine zpA 49 74 (h := ?_)
             refine zpA 50 75 (h := ?_)
             refine ztA 51 76 (h := ?_)
             refine ztA 52 77 (h := ?_)
             refine zoA 53 78 (h := fun K hK => ?_)
             refine zgA Try.func47 (span_Meet.calls k t1030 t1031 t1032 t1033 t1034 t1035 t1074 t1075 t1076 _ A39.out) (h := ?_)
             rintro w107 hb
             replace HO1067 := Aside0.mk (Kd.R_below (by (with_reducible repeat (first | apply Kd.R_alloc | apply Kd.R_drewN | apply Kd.R_drew)); exact HO1067.out) hb)
             replace BK993 := zkb BK993 hb
             replace BK1003 := zkb BK1003 hb
             replace BK1013 := zkb BK1013 hb
             replace BK1023 := zkb BK1023 hb
             replace BK1036 := zkb BK1036 hb
             replace BK1037 := zkb BK1037 hb
             replace HB := zkB HB hb
             (try clear hb)
             refine hK.out _ _ (zk3 BK993 (zk3 BK1003 (zk3 BK1013 (zk3 BK1023 (zk3 BK1036 (ze3 BK1037)))))) (fun hHeld => ?_)
             clear hK K
             refine znA 78 (h := ?_)
             refine zoA 54 79 (h := fun K hK => ?_)
             refine zgA Try.func37 (span_Make.calls k 4607182418800017408 4611686018427387903 t1077 t1078 t1079 _ A40.out) (h := ?_)
             rintro w108 hb
             replace HO1067 := Aside0.mk (Kd.R_below (by (with_reducible repeat (first | apply Kd.R_alloc | apply Kd.R_drewN | apply Kd.R_drew)); exact HO1067.out) hb)
             replace BK993 := zkb BK993 hb
             replace BK1003 := zkb BK1003 hb
             replace BK1013 := zkb BK1013 hb
             replace BK1023 := zkb BK1023 hb
             replace BK1036 := zkb BK1036 hb
             replace BK1037 := zkb BK1037 hb
             replace HB := zkB HB hb
             (try clear hb)
             refine hK.out _ _ (zk3 BK993 (zk3 BK1003 (zk3 BK1013 (zk3 BK1023 (zk3 BK1036 (ze3 BK1037)))))) (fun hHeld => ?_)
             clear hK K
             refine znA 79 (h := ?_)
             refine zpA 55 80 (h := ?_)
             refine zpA 56 81 (h := ?_)
             refine zpA 57 82 (h := ?_)
             refine ztA 58 83 (h := ?_)
             refine zoA 59 84 (h := fun K hK => ?_)
             refine zgA Try.func111 (span_Neg.calls k t1033 t1034 t1035 t1080 t1081 t1082 _ A42.out) (h := ?_)
             rintro w109 hb
             replace HO1067 := Aside0.mk (Kd.R_below (by (with_reducible repeat (first | apply Kd.R_alloc | apply Kd.R_drewN | apply Kd.R_drew)); exact HO1067.out) hb)
             replace BK993 := zkb BK993 hb
             replace BK1003 := zkb BK1003 hb
             replace BK1013 := zkb BK1013 hb
             replace BK1023 := zkb BK1023 hb
             replace BK1036 := zkb BK1036 hb
             replace BK1037 := zkb BK1037 hb
             replace HB := zkB HB hb
             (try clear hb)
             refine hK.out _ _ (zk3 BK993 (zk3 BK1003 (zk3 BK1013 (zk3 BK1023 (zk3 BK1036 (ze3 BK1037)))))) (fun hHeld => ?_)
             clear hK K
             refine znA 84 (h := ?_)
             refine zoA 60 85 (h := fun K hK => ?_)
             refine zgA Try.func50 (span_Most.calls k t1080 t1081 t1082 t1083 _ A43.out) (h := ?_)
             rintro w110 hb
             replace HO1067 := Aside0.mk (Kd.R_below (by (with_reducible repeat (first | apply Kd.R_alloc | apply Kd.R_drewN | apply Kd.R_drew)); exact HO1067.out) hb)
             replace BK993 := zkb BK993 hb
             replace BK1003 := zkb BK1003 hb
             replace BK1013 := zkb BK1013 hb
             replace BK1023 := zkb BK1023 hb
             replace BK1036 := zkb BK1036 hb
             replace BK1037 := zkb BK1037 hb
             replace HB := zkB HB hb
             (try clear hb)
             refine hK.out _ _ (zk3 BK993 (zk3 BK1003 (zk3 BK1013 (zk3 BK1023 (zk3 BK1036 (ze3 BK1037)))))) (fun hHeld => ?_)
             clear hK K
             refine znA 85 (h := ?_)
             refine zpA 61 86 (h := ?_)
             refine zpA 62 87 (h := ?_)
             refine zpA 63 88 (h := ?_)
             refine zoA 64 89 (h := fun K hK => ?_)
             refine zgA Try.func37 (span_Make.calls k 13830554455654793216 0 t1084 t1085 t1086 _ A45.out) (h := ?_)
             rintro w111 hb
             replace HO1067 := Aside0.mk (Kd.R_below (by (with_reducible repeat (first | apply Kd.R_alloc | apply Kd.R_drewN | apply Kd.R_drew)); exact HO1067.out) hb)
             replace BK993 := zkb BK993 hb
             replace BK1003 := zkb BK1003 hb
             replace BK1013 := zkb BK1013 hb
             replace BK1023 := zkb BK1023 hb
             replace BK1036 := zkb BK1036 hb
             replace BK1037 := zkb BK1037 hb
             replace HB := zkB HB hb
             (try clear hb)
             refine hK.out _ _ (zk3 BK993 (zk3 BK1003 (zk3 BK1013 (zk3 BK1023 (zk3 BK1036 (ze3 BK1037)))))) (fun hHeld => ?_)
             clear hK K
             refine znA 89 (h := ?_)
             refine zoA 65 90 (h := fun K hK => ?_)
             refine zgA Try.func69 (span_Abs.calls k t1084 t1085 t1086 t1087 t1088 t1089 _ A46.out) (h := ?_)
             rintro w112 hb
             replace HO1067 := Aside0.mk (Kd.R_below (by (with_reducible repeat (first | apply Kd.R_alloc | apply Kd.R_drewN | apply Kd.R_drew)); exact HO1067.out) hb)
             replace BK993 := zkb BK993 hb
             replace BK1003 := zkb BK1003 hb
             replace BK1013 := zkb BK1013 hb
             replace BK1023 := zkb BK1023 hb
             replace BK1036 := zkb BK1036 hb
             replace BK1037 := zkb BK1037 hb
             replace HB := zkB HB hb
             (try clear hb)
             refine hK.out _ _ (zk3 BK993 (zk3 BK1003 (zk3 BK1013 (zk3 BK1023 (zk3 BK1036 (ze3 BK1037)))))) (fun hHeld => ?_)
             clear hK K
             refine znA 90 (h := ?_)
             refine zoA 66 91 (h := fun K hK => ?_)
             refine zgA Try.func37 (span_Make.calls k 0 4607182418800017408 t1090 t1091 t1092 _ A47.out) (h := ?_)
             rintro w113 hb
             replace HO1067 := Aside0.mk (Kd.R_below (by (with_reducible repeat (first | apply Kd.R_alloc | apply Kd.R_drewN | apply Kd.R_drew)); exact HO1067.out) hb)
             replace BK993 := zkb BK993 hb
             replace BK1003 := zkb BK1003 hb
             replace BK1013 := zkb BK1013 hb
             replace BK1023 := zkb BK1023 hb
             replace BK1036 := zkb BK1036 hb
             replace BK1037 := zkb BK1037 hb
             replace HB := zkB HB hb
             (try clear hb)
             refine hK.out _ _ (zk3 BK993 (zk3 BK1003 (zk3 BK1013 (zk3 BK1023 (zk3 BK1036 (ze3 BK1037)))))) (fun hHeld => ?_)
             clear hK K
             refine znA 91 (h := ?_)
             refine zpA 67 92 (h := ?_)
             refine zpA 68 93 (h := ?_)
             refine zpA 69 0 (h := ?_)
             refine done_ (done_of HT_.out (by kernel_rfl)) ?_
             try go_wp2
             go_ret
             exact ⟨zaE, zaB⟩
            rw [if_neg c44] at H
            have c44b0 : (t1083 == 4611686018427387904) = false := beq_eq_false_iff_ne.mpr c44
            have c44b1 : (t1083 != 4611686018427387904) = true := bne_iff_ne.mpr c44
            subst hr_
            cases H
           rw [if_neg c41] at H
           have c41b0 : (t1074 == t1077 && (t1075 == t1078 && (t1076 == t1079))) = false := by simpa using c41
           (try (have c41b1 : decide (t1074 = t1077 && (t1075 == t1078 && (t1076 == t1079))) = false := by simpa using c41))
           (try (have c41b2 : (t1074 == t1077 && (t1075 == t1078 && (t1076 == t1079))) = false := by simpa using c41))
           (try (have c41b3 : ¬ (t1074 = t1077 && (t1075 == t1078 && (t1076 == t1079))) := by simpa using c41))
           clear c41
           subst hr_
           cases H
          rw [if_neg c38] at H
          have c38b0 : (t1068 == t1071 && (t1069 == t1072 && (t1070 == t1073))) = false := by simpa using c38
          (try (have c38b1 : decide (t1068 = t1071 && (t1069 == t1072 && (t1070 == t1073))) = false := by simpa using c38))
          (try (have c38b2 : (t1068 == t1071 && (t1069 == t1072 && (t1070 == t1073))) = false := by simpa using c38))
          (try (have c38b3 : ¬ (t1068 = t1071 && (t1069 == t1072 && (t1070 == t1073))) := by simpa using c38))
          clear c38
          subst hr_
          cases H
         replace c35 := Bool.eq_false_iff.mpr c35
         subst c35
         replace H := zif H
         subst hr_
         cases H
        replace c32 := Bool.eq_false_iff.mpr c32
        subst c32
        replace H := zif H
        subst hr_
        cases H
       replace c30 := Bool.eq_false_iff.mpr c30
       subst c30
       replace H := zif H
       subst hr_
       cases H
      rw [if_neg c28] at H
      have c28b0 : (t1033 == t1054 && (t1034 == t1055 && (t1035 == t1056))) = false := by simpa using c28
      (try (have c28b1 : decide (t1033 = t1054 && (t1034 == t1055 && (t1035 == t1056))) = false := by simpa using c28))
      (try (have c28b2 : (t1033 == t1054 && (t1034 == t1055 && (t1035 == t1056))) = false := by simpa using c28))
      (try (have c28b3 : ¬ (t1033 = t1054 && (t1034 == t1055 && (t1035 == t1056))) := by simpa using c28))
      clear c28
      subst hr_
      cases H
     rw [if_neg c26] at H
     have c26b0 : (t1030 == t1051 && (t1031 == t1052 && (t1032 == t1053))) = false := by simpa using c26
     (try (have c26b1 : decide (t1030 = t1051 && (t1031 == t1052 && (t1032 == t1053))) = false := by simpa using c26))
     (try (have c26b2 : (t1030 == t1051 && (t1031 == t1052 && (t1032 == t1053))) = false := by simpa using c26))
     (try (have c26b3 : ¬ (t1030 = t1051 && (t1031 == t1052 && (t1032 == t1053))) := by simpa using c26))
     clear c26
     subst hr_
     cases H
    rw [if_neg c24] at H
    have c24b0 : (t1020 == t1048 && (t1021 == t1049 && (t1022 == t1050))) = false := by simpa using c24
    (try (have c24b1 : decide (t1020 = t1048 && (t1021 == t1049 && (t1022 == t1050))) = false := by simpa using c24))
    (try (have c24b2 : (t1020 == t1048 && (t1021 == t1049 && (t1022 == t1050))) = false := by simpa using c24))
    (try (have c24b3 : ¬ (t1020 = t1048 && (t1021 == t1049 && (t1022 == t1050))) := by simpa using c24))
    clear c24
    subst hr_
    cases H
   rw [if_neg c21] at H
   have c21b0 : (t1010 == t1044 && (t1011 == t1045 && (t1012 == t1046))) = false := by simpa using c21
   (try (have c21b1 : decide (t1010 = t1044 && (t1011 == t1045 && (t1012 == t1046))) = false := by simpa using c21))
   (try (have c21b2 : (t1010 == t1044 && (t1011 == t1045 && (t1012 == t1046))) = false := by simpa using c21))
   (try (have c21b3 : ¬ (t1010 = t1044 && (t1011 == t1045 && (t1012 == t1046))) := by simpa using c21))
   clear c21
   subst hr_
   cases H
  rw [if_neg c19] at H
  have c19b0 : (t1000 == t1041 && (t1001 == t1042 && (t1002 == t1043))) = false := by simpa using c19
  (try (have c19b1 : decide (t1000 = t1041 && (t1001 == t1042 && (t1002 == t1043))) = false := by simpa using c19))
  (try (have c19b2 : (t1000 == t1041 && (t1001 == t1042 && (t1002 == t1043))) = false := by simpa using c19))
  (try (have c19b3 : ¬ (t1000 = t1041 && (t1001 == t1042 && (t1002 == t1043))) := by simpa using c19))
  clear c19
  subst hr_
  cases H
 rw [if_neg c17] at H
 have c17b0 : (t990 == t1038 && (t991 == t1039 && (t992 == t1040))) = false := by simpa using c17
 (try (have c17b1 : decide (t990 = t1038 && (t991 == t1039 && (t992 == t1040))) = false := by simpa using c17))
 (try (have c17b2 : (t990 == t1038 && (t991 == t1039 && (t992 == t1040))) = false := by simpa using c17))
 (try (have c17b3 : ¬ (t990 = t1038 && (t991 == t1039 && (t992 == t1040))) := by simpa using c17))
 clear c17
 subst hr_
 cases H
end Go.Proofs.Ytmadjhmecfbcmaa.F
end
section
namespace Go.Proofs.Ytmadjhmecfbcmaa.F
open Go.RowKit Go.Proofs.YtmadjhmecfbcmaaW.PrintWords Go.Proofs.YtmadjhmecfbcmaaW.PrintLast Go.Proofs.YtmadjhmecfbcmaaW.PrintMore
attribute [local go_sem] max2_int min2_int max_two min_two max_three min_three max_four min_four
set_option linter.unusedVariables false
set_option linter.unusedSimpArgs false
set_option maxHeartbeats 8000000
set_option maxRecDepth 100000
theorem wide_U128_Add.law (x y c : Int) (hx : 0 ≤ x) (hy : 0 ≤ y) (hc0 : 0 ≤ c) (hc : c ≤ 1) (w : World) :
  (callFunc 182 #[.int .u64 x, .int .u64 y, .int .u64 c]).run Try.prog w = .ok (.value (.tuple #[.int .u64 ((x + y + c) % 18446744073709551616), .int .u64 ((x + y + c) / 18446744073709551616)])) w := by
 rw [run_callFunc_extern Try.func182 (by kernel_rfl) (by kernel_rfl) (by kernel_rfl) (e := add64Entry) (by kernel_rfl), run_add64 x y c hx hy hc0 hc]
 rfl
theorem wide_U128_Add.ext_ {P : Program} {ops : Array Oper} {Q : Exit → Act → World → Prop} {rest : List Oper} {oi : Oper} {a : Act} {w : World} (N : Option Tmp) (hd : oi.dst = N) (hg : oi.guard = none) {f : FuncId} {ars : Array Operand} {ts : Array TypeId} (args : Array Value)
  (hop : oi.op = .call { callee := .value (.func f), args := ars, argTypes := ts }) (hargs : ars.map a.eval = args) {v : Value} (hl : (callFunc f args).run P w = .ok (.value v) w)
  (h : wpList P ops Q rest (a.put N v) w) : wpList P ops Q (oi :: rest) a w := by
 refine wpList_plain hg fun K hK => ?_
 have hrun : (execOp a.eval oi).run P w = .ok (.value v) w := by
  unfold execOp
  simp [hop, resolve, Deferred.ofValue, invoke, Act.eval, hargs, hl]
 unfold Oper.wp
 rw [hrun]
 subst hd
 exact hK _ _ h
theorem wide_U128_Add.walk (a0_0 : Int) (a0_1 : Int) (a1_0 : Int) (a1_1 : Int) (t174 : Int) (t175 : Int) (t176 : Int) (t177 : Int) (L0 : ∀ w, (callFunc 182 #[.int .u64 a0_1, .int .u64 a1_1, .int .u64 0]).run Try.prog w = .ok (.value (.tuple #[.int .u64 t174, .int .u64 t175])) w) (L1 : ∀ w, (callFunc 182 #[.int .u64 a0_0, .int .u64 a1_0, .int .u64 t175]).run Try.prog w = .ok (.value (.tuple #[.int .u64 t176, .int .u64 t177])) w) (w : World) :
  Calls Try.prog 152 #[.agg #[.int .u64 a0_0, .int .u64 a0_1], .agg #[.int .u64 a1_0, .int .u64 a1_1]] w fun e w' => e = .returned (.tuple #[.agg #[.int .u64 t176, .int .u64 t174], .int .u64 t177]) ∧ Below w.heap.size w w' := by
 have hu := Try.underlying109
 have HB := Aside0.mk (Below.refl w.heap.size w)
 go_enter Try.func152, Try.ntmps152
 go_wp2_with (first | ((with_reducible refine gtd 2 rfl ?_); refine zbx 2 #[.int .u64 a0_0, .int .u64 a0_1] 109 (h := ?_); intro gb171 hg w5 hbox hb; have GW171 := zkZ hg (zaB (p := Below w.heap.size w _)); replace HB := Aside0.mk (below_step zaB hb); have BK171 := Aside0.mk (hbox); clear hb hbox hg) | ((with_reducible refine gtd 3 rfl ?_); refine zbx 3 #[.int .u64 a1_0, .int .u64 a1_1] 109 (h := ?_); intro gb172 hg w6 hbox hb; have GW172 := zkz HB hg; have NB171_172 := zkl BK171 hg; have NB172_171 := zkr BK171 hg; replace BK171 := zkb BK171 hb; replace HB := zkB HB hb; have BK172 := Aside0.mk (hbox); clear hb hbox hg) | ((with_reducible refine gtd 4 rfl ?_); refine zbx 4 #[.int .u64 0, .int .u64 0] 109 (h := ?_); intro gb173 hg w7 hbox hb; have GW173 := zkz HB hg; have NB171_173 := zkl BK171 hg; have NB173_171 := zkr BK171 hg; have NB172_173 := zkl BK172 hg; have NB173_172 := zkr BK172 hg; replace BK171 := zkb BK171 hb; replace BK172 := zkb BK172 hb; replace HB := zkB HB hb; have BK173 := Aside0.mk (hbox); clear hb hbox hg; obtain ⟨_, _⟩ := zsy NB171_172; obtain ⟨_, _⟩ := zsy NB171_173; obtain ⟨_, _, _, _⟩ := zq2 BK171; obtain ⟨_, _⟩ := zsy NB172_173; obtain ⟨_, _, _, _⟩ := zq2 BK172) | ((with_reducible refine gtc 182 rfl ?_); refine wide_U128_Add.ext_ (some 14) rfl rfl #[.int .u64 a0_1, .int .u64 a1_1, .int .u64 0] rfl (by (try simp only [List.map_toArray, List.map_cons, List.map_nil]); first | done | rfl | (simp only [List.length_drop, List.length_take]; rfl)) (L0 _) ?_) | ((with_reducible refine gtc 182 rfl ?_); refine wide_U128_Add.ext_ (some 23) rfl rfl #[.int .u64 a0_0, .int .u64 a1_0, .int .u64 t175] rfl (by (try simp only [List.map_toArray, List.map_cons, List.map_nil]); first | done | rfl | (simp only [List.length_drop, List.length_take]; rfl)) (L1 _) ?_; obtain ⟨_, _, _, _⟩ := zq2 BK173))
 refine bodyPost_ret (results_ct rfl _ _ gb173 109 #[.int .u64 t176, .int .u64 t174] (0, 0) _ rfl (blk_put (cs := #[.int .u64 t176, .int .u64 0]) (blk_put (zkq BK173) 0 _ rfl) 1 _ rfl) Try.underlying109 rfl (by kernel_rfl)) rfl ?_
 exact ⟨zaE, zaB⟩
theorem wide_U128_Add.calls (a0_0 : Int) (a0_1 : Int) (a1_0 : Int) (a1_1 : Int) (r1 : Int) (r2 : Int) (r3 : Int) (w : World) (h : wide_U128_Add.f a0_0 a0_1 a1_0 a1_1 = some (r1, r2, r3)) :
  Calls Try.prog 152 #[.agg #[.int .u64 a0_0, .int .u64 a0_1], .agg #[.int .u64 a1_0, .int .u64 a1_1]] w fun e w' => e = .returned (.tuple #[.agg #[.int .u64 r1, .int .u64 r2], .int .u64 r3]) ∧ Below w.heap.size w w' := by
 unfold wide_U128_Add.f at h
 split at h
 ·rename_i g
  obtain ⟨g1, g2, g3, g4, g5, g6⟩ := g
  simp only [Option.some.injEq, Prod.mk.injEq] at h
  obtain ⟨rfl, rfl, rfl⟩ := h
  have W := wide_U128_Add.walk a0_0 a0_1 a1_0 a1_1 _ _ _ _ (fun w => wide_U128_Add.law a0_1 a1_1 0 g2 g4 (by omega) (by omega) w) (fun w => wide_U128_Add.law a0_0 a1_0 _ g1 g3 (by omega) (by omega) w) w
  rw [Int.add_zero] at W
  exact W
 cases h
theorem wide_U128_Sub.law (x y b : Int) (hx : 0 ≤ x) (hy : 0 ≤ y) (hb0 : 0 ≤ b) (hb : b ≤ 1) (hx1 : x < 18446744073709551616) (hy1 : y < 18446744073709551616) (w : World) :
  (callFunc 183 #[.int .u64 x, .int .u64 y, .int .u64 b]).run Try.prog w = .ok (.value (.tuple #[.int .u64 ((x - y - b) % 18446744073709551616), .int .u64 (if x < y + b then 1 else 0)])) w := by
 obtain ⟨x, rfl⟩ := Int.eq_ofNat_of_zero_le hx
 obtain ⟨y, rfl⟩ := Int.eq_ofNat_of_zero_le hy
 obtain ⟨b, rfl⟩ := Int.eq_ofNat_of_zero_le hb0
 rw [run_callFunc_extern Try.func183 (by kernel_rfl) (by kernel_rfl) (by kernel_rfl) (e := sub64Entry) (by kernel_rfl), run_sub64 x y b (by omega)]
 have e1 : (((x + 18446744073709551616 - y - b) % 18446744073709551616 : Nat) : Int) = ((x : Int) - y - b) % 18446744073709551616 := by omega
 have e2 : ((if x < y + b then 1 else 0 : Nat) : Int) = (if (x : Int) < (y : Int) + (b : Int) then 1 else 0) := by split <;> split <;> omega
 rw [e1, e2]
 rfl
theorem wide_U128_Sub.ext_ {P : Program} {ops : Array Oper} {Q : Exit → Act → World → Prop} {rest : List Oper} {oi : Oper} {a : Act} {w : World} (N : Option Tmp) (hd : oi.dst = N) (hg : oi.guard = none) {f : FuncId} {ars : Array Operand} {ts : Array TypeId} (args : Array Value)
  (hop : oi.op = .call { callee := .value (.func f), args := ars, argTypes := ts }) (hargs : ars.map a.eval = args) {v : Value} (hl : (callFunc f args).run P w = .ok (.value v) w)
  (h : wpList P ops Q rest (a.put N v) w) : wpList P ops Q (oi :: rest) a w := by
 refine wpList_plain hg fun K hK => ?_
 have hrun : (execOp a.eval oi).run P w = .ok (.value v) w := by
  unfold execOp
  simp [hop, resolve, Deferred.ofValue, invoke, Act.eval, hargs, hl]
 unfold Oper.wp
 rw [hrun]
 subst hd
 exact hK _ _ h
theorem wide_U128_Sub.walk (a0_0 : Int) (a0_1 : Int) (a1_0 : Int) (a1_1 : Int) (t174 : Int) (t175 : Int) (t176 : Int) (t177 : Int) (L0 : ∀ w, (callFunc 183 #[.int .u64 a0_1, .int .u64 a1_1, .int .u64 0]).run Try.prog w = .ok (.value (.tuple #[.int .u64 t174, .int .u64 t175])) w) (L1 : ∀ w, (callFunc 183 #[.int .u64 a0_0, .int .u64 a1_0, .int .u64 t175]).run Try.prog w = .ok (.value (.tuple #[.int .u64 t176, .int .u64 t177])) w) (w : World) :
  Calls Try.prog 153 #[.agg #[.int .u64 a0_0, .int .u64 a0_1], .agg #[.int .u64 a1_0, .int .u64 a1_1]] w fun e w' => e = .returned (.tuple #[.agg #[.int .u64 t176, .int .u64 t174], .int .u64 t177]) ∧ Below w.heap.size w w' := by
 have hu := Try.underlying109
 have HB := Aside0.mk (Below.refl w.heap.size w)
 go_enter Try.func153, Try.ntmps153
 go_wp2_with (first | ((with_reducible refine gtd 2 rfl ?_); refine zbx 2 #[.int .u64 a0_0, .int .u64 a0_1] 109 (h := ?_); intro gb171 hg w5 hbox hb; have GW171 := zkZ hg (zaB (p := Below w.heap.size w _)); replace HB := Aside0.mk (below_step zaB hb); have BK171 := Aside0.mk (hbox); clear hb hbox hg) | ((with_reducible refine gtd 3 rfl ?_); refine zbx 3 #[.int .u64 a1_0, .int .u64 a1_1] 109 (h := ?_); intro gb172 hg w6 hbox hb; have GW172 := zkz HB hg; have NB171_172 := zkl BK171 hg; have NB172_171 := zkr BK171 hg; replace BK171 := zkb BK171 hb; replace HB := zkB HB hb; have BK172 := Aside0.mk (hbox); clear hb hbox hg) | ((with_reducible refine gtd 4 rfl ?_); refine zbx 4 #[.int .u64 0, .int .u64 0] 109 (h := ?_); intro gb173 hg w7 hbox hb; have GW173 := zkz HB hg; have NB171_173 := zkl BK171 hg; have NB173_171 := zkr BK171 hg; have NB172_173 := zkl BK172 hg; have NB173_172 := zkr BK172 hg; replace BK171 := zkb BK171 hb; replace BK172 := zkb BK172 hb; replace HB := zkB HB hb; have BK173 := Aside0.mk (hbox); clear hb hbox hg; obtain ⟨_, _⟩ := zsy NB171_172; obtain ⟨_, _⟩ := zsy NB171_173; obtain ⟨_, _, _, _⟩ := zq2 BK171; obtain ⟨_, _⟩ := zsy NB172_173; obtain ⟨_, _, _, _⟩ := zq2 BK172) | ((with_reducible refine gtc 183 rfl ?_); refine wide_U128_Sub.ext_ (some 14) rfl rfl #[.int .u64 a0_1, .int .u64 a1_1, .int .u64 0] rfl (by (try simp only [List.map_toArray, List.map_cons, List.map_nil]); first | done | rfl | (simp only [List.length_drop, List.length_take]; rfl)) (L0 _) ?_) | ((with_reducible refine gtc 183 rfl ?_); refine wide_U128_Sub.ext_ (some 23) rfl rfl #[.int .u64 a0_0, .int .u64 a1_0, .int .u64 t175] rfl (by (try simp only [List.map_toArray, List.map_cons, List.map_nil]); first | done | rfl | (simp only [List.length_drop, List.length_take]; rfl)) (L1 _) ?_; obtain ⟨_, _, _, _⟩ := zq2 BK173))
 refine bodyPost_ret (results_ct rfl _ _ gb173 109 #[.int .u64 t176, .int .u64 t174] (0, 0) _ rfl (blk_put (cs := #[.int .u64 t176, .int .u64 0]) (blk_put (zkq BK173) 0 _ rfl) 1 _ rfl) Try.underlying109 rfl (by kernel_rfl)) rfl ?_
 exact ⟨zaE, zaB⟩
theorem wide_U128_Sub.calls (a0_0 : Int) (a0_1 : Int) (a1_0 : Int) (a1_1 : Int) (r1 : Int) (r2 : Int) (r3 : Int) (w : World) (h : wide_U128_Sub.f a0_0 a0_1 a1_0 a1_1 = some (r1, r2, r3)) :
  Calls Try.prog 153 #[.agg #[.int .u64 a0_0, .int .u64 a0_1], .agg #[.int .u64 a1_0, .int .u64 a1_1]] w fun e w' => e = .returned (.tuple #[.agg #[.int .u64 r1, .int .u64 r2], .int .u64 r3]) ∧ Below w.heap.size w w' := by
 unfold wide_U128_Sub.f at h
 split at h
 ·rename_i g
  obtain ⟨g1, g2, g3, g4, g5, g6, g7, g8⟩ := g
  simp only [Option.some.injEq, Prod.mk.injEq] at h
  obtain ⟨rfl, rfl, rfl⟩ := h
  have b0 : (0 : Int) ≤ (if a0_1 < a1_1 + 0 then 1 else 0) := by split <;> omega
  have b1 : (if a0_1 < a1_1 + 0 then (1 : Int) else 0) ≤ 1 := by split <;> omega
  have W := wide_U128_Sub.walk a0_0 a0_1 a1_0 a1_1 _ _ _ _ (fun w => wide_U128_Sub.law a0_1 a1_1 0 g2 g4 (by omega) (by omega) g6 g8 w) (fun w => wide_U128_Sub.law a0_0 a1_0 _ g1 g3 b0 b1 g5 g7 w) w
  rw [Int.add_zero, Int.sub_zero] at W
  exact W
 cases h
end Go.Proofs.Ytmadjhmecfbcmaa.F
end
section
namespace Go.Proofs.Ytmadjhmecfbcmaa.F
open Go.RowKit Go.Proofs.YtmadjhmecfbcmaaW.PrintWords Go.Proofs.YtmadjhmecfbcmaaW.PrintLast Go.Proofs.YtmadjhmecfbcmaaW.PrintMore
attribute [local go_sem] max2_int min2_int max_two min_two max_three min_three max_four min_four
set_option linter.unusedVariables false
set_option linter.unusedSimpArgs false
set_option maxHeartbeats 8000000
set_option maxRecDepth 100000
attribute [local go_sem high] eqA109
def soft_num_add.T2 : Bool × List (List Nat × List Nat) := (true, [([], []), ([0], [0]), ([1], [1]), ([2], [2]), ([], []), ([4], [4]), ([], []), ([6], [6]), ([5, 7], [5, 7]), ([3, 8, 3], [3, 8]), ([9], [9]), ([10], [10]), ([10], [10]), ([], []), ([13, 11, 9, 0, 1, 2, 3, 4, 5, 6, 7, 8, 9, 10, 11, 13], [11, 13]), ([12, 14, 0, 1, 2, 3, 4, 5, 6, 7, 8, 9, 10, 11, 12, 13, 14], [12])])
def soft_num_add.B2 : List Nat := [0, 1, 3, 7, 0, 16, 0, 64, 240, 511, 1023, 2047, 2047, 0, 12287, 32767]
theorem soft_num_add.tab2 : rtab .any (opsOf Try.f86 2) = soft_num_add.T2 := by kernel_rfl
theorem soft_num_add.bits2 : waitsOk soft_num_add.T2.2 soft_num_add.B2 = true := by kernel_rfl
theorem soft_num_add.calls (k : Nat) (a0_0 : Int) (a0_1 : Int) (a0_2 : Bool) (a0_3 : Int) (a0_4 : Int) (a1_0 : Int) (a1_1 : Int) (a1_2 : Bool) (a1_3 : Int) (a1_4 : Int) (a2 : Int) (r1 : Int) (r2 : Int) (w : World) (h : soft_num_add.f k a0_0 a0_1 a0_2 a0_3 a0_4 a1_0 a1_1 a1_2 a1_3 a1_4 a2 = some (r1, r2)) :
  Calls Try.prog 86 #[.agg #[.int .u64 a0_0, .int .u8 a0_1, .bool a0_2, .int .u64 a0_3, .int .i64 a0_4], .agg #[.int .u64 a1_0, .int .u8 a1_1, .bool a1_2, .int .u64 a1_3, .int .i64 a1_4], .int .u8 a2] w fun e w' => e = .returned (.tuple #[.int .u64 r1, .int .u8 r2]) ∧ Below w.heap.size w w' := by
 have hu88 := Try.underlying88
 have hu109 := Try.underlying109
 have HB := Aside0.mk (Below.refl w.heap.size w)
 have H : ((wide_U128_Shl.f k 0 a0_3 70).bind fun bt173 => ((wide_U128_Shl.f k 0 a1_3 70).bind fun bt176 => ((wide_U128_Shr.f k bt176.1 bt176.2 (wrap64 (a0_4 - a1_4))).bind fun bt178 => (if (a0_2 == a1_2) = true then ((wide_U128_Add.f bt173.1 bt173.2 bt178.1 bt178.2.1).bind fun bt183 => ((round_Round.f k a0_2 bt183.1 bt183.2.1 (wrap64 (a0_4 - 70)) bt178.2.2 a2).bind fun bt186 => (some (bt186.1, bt186.2)))) else ((wide_U128_Sub.f bt173.1 bt173.2 bt178.1 bt178.2.1).bind fun bt188 => (if (bt188.1 == 0 && (bt188.2.1 == 0)) = true then ((soft_zero.f k (a2 == 2)).bind fun t191 => (some (t191, 0))) else (if bt178.2.2 = true then ((wide_U128_Sub.f bt188.1 bt188.2.1 0 1).bind fun bt192 => ((round_Round.f k a0_2 bt192.1 bt192.2.1 (wrap64 (a0_4 - 70)) bt178.2.2 a2).bind fun bt195 => (some (bt195.1, bt195.2)))) else ((round_Round.f k a0_2 bt188.1 bt188.2.1 (wrap64 (a0_4 - 70)) bt178.2.2 a2).bind fun bt197 => (some (bt197.1, bt197.2)))))))))) = some (r1, r2) := h
 clear h
 obtain ⟨⟨t173, t174⟩, A4, H⟩ := zbs H
 try dsimp only at H
 obtain ⟨⟨t176, t177⟩, A5, H⟩ := zbs H
 try dsimp only at H
 obtain ⟨⟨t178, t179, t180⟩, A6, H⟩ := zbs H
 try dsimp only at H
 by_cases c7 : (a0_2 == a1_2) = true
 ·rw [if_pos c7] at H
  have c7b0 : (a0_2 == a1_2) = true := c7
  (try (have c7b1 : decide (a0_2 = a1_2) = true := by simpa using c7))
  (try (have c7b2 : (a0_2 == a1_2) = true := by simpa using c7))
  clear c7
  obtain ⟨⟨t183, t184, t185⟩, A8, H⟩ := zbs H
  try dsimp only at H
  obtain ⟨⟨t186, t187⟩, A9, H⟩ := zbs H
  try dsimp only at H
  simp only [Option.some.injEq, Prod.mk.injEq] at H
  obtain ⟨rfl, rfl⟩ := H
  go_enter Try.func86, Try.ntmps86
  try go_wp2_with (first | ((with_reducible refine gtd 3 rfl ?_); refine zbx 3 #[.int .u64 a0_0, .int .u8 a0_1, .bool a0_2, .int .u64 a0_3, .int .i64 a0_4] 88 (h := ?_); intro gb171 hg w10 hbox hb; have GW171 := zkZ hg (zaB (p := Below w.heap.size w _)); replace HB := Aside0.mk (below_step zaB hb); have BK171 := Aside0.mk (hbox); clear hb hbox hg) | ((with_reducible refine gtd 4 rfl ?_); refine zbx 4 #[.int .u64 a1_0, .int .u8 a1_1, .bool a1_2, .int .u64 a1_3, .int .i64 a1_4] 88 (h := ?_); intro gb172 hg w11 hbox hb; have GW172 := zkz HB hg; have NB171_172 := zkl BK171 hg; have NB172_171 := zkr BK171 hg; replace BK171 := zkb BK171 hb; replace HB := zkB HB hb; have BK172 := Aside0.mk (hbox); clear hb hbox hg; obtain ⟨_, _⟩ := zsy NB171_172; obtain ⟨_, _, _, _, _, _, _, _, _, _⟩ := zq5 BK171) | ((with_reducible refine gtc 106 rfl ?_); refine zgL 15 Try.func106 (wide_U128_Shl.calls k 0 a0_3 70 t173 t174 _ A4.out) (h := ?_); rintro w14 hb; replace BK171 := zkb BK171 hb; replace BK172 := zkb BK172 hb; replace HB := zkB HB hb; (try clear hb)) | ((with_reducible refine gtd 8 rfl ?_); refine zbx 8 #[.int .u64 0, .int .u64 0] 109 (h := ?_); intro gb175 hg w15 hbox hb; have GW175 := zkz HB hg; have NB171_175 := zkl BK171 hg; have NB175_171 := zkr BK171 hg; have NB172_175 := zkl BK172 hg; have NB175_172 := zkr BK172 hg; replace BK171 := zkb BK171 hb; replace BK172 := zkb BK172 hb; replace HB := zkB HB hb; have BK175 := Aside0.mk (hbox); clear hb hbox hg; obtain ⟨_, _⟩ := zsy NB175_171; obtain ⟨_, _⟩ := zsy NB175_172; obtain ⟨_, _, _, _⟩ := zq2 BK175))
  generalize hW_ : ((w15.setCell ⟨gb175, 0, none⟩ (.int .u64 t173)).setCell ⟨gb175, 1, none⟩ (.int .u64 t174)) = w19
  replace BK171 := zkg hW_ (zkf (zkf BK171.out NB171_175.out _) NB171_175.out _)
  replace BK172 := zkg hW_ (zkf (zkf BK172.out NB172_175.out _) NB172_175.out _)
  replace BK175 := zkg hW_ (ob := .cells #[.int .u64 t173, .int .u64 t174] 109 (0, 0)) (blk_put (cs := #[.int .u64 t173, .int .u64 0]) (blk_put BK175.out 0 _ rfl) 1 _ rfl)
  replace HB := zkG hW_ (below_set (below_set HB.out GW175.out) GW175.out)
  clear hW_
  replace BK171 := Aside0.mk (blk_drew BK171.out)
  replace BK172 := Aside0.mk (blk_drew BK172.out)
  replace BK175 := Aside0.mk (blk_drew BK175.out)
  replace HB := Aside0.mk (below_drew1 HB.out)
  refine start_ (n := 16) (S := fun w' => w'.cell? ⟨gb172, 0, none⟩ = some (.int .u64 a1_0) ∧ w'.cell? ⟨gb172, 1, none⟩ = some (.int .u8 a1_1) ∧ w'.cell? ⟨gb172, 2, none⟩ = some (.bool a1_2) ∧ w'.cell? ⟨gb172, 3, none⟩ = some (.int .u64 a1_3) ∧ w'.cell? ⟨gb172, 4, none⟩ = some (.int .i64 a1_4) ∧ w'.cell? ⟨gb171, 0, none⟩ = some (.int .u64 a0_0) ∧ w'.cell? ⟨gb171, 1, none⟩ = some (.int .u8 a0_1) ∧ w'.cell? ⟨gb171, 2, none⟩ = some (.bool a0_2) ∧ w'.cell? ⟨gb171, 3, none⟩ = some (.int .u64 a0_3) ∧ w'.cell? ⟨gb171, 4, none⟩ = some (.int .i64 a0_4)) (ds := []) #[false, false, false, false, false, false, false, false, false, false, false, false, false, false, false, false] (by kernel_rfl) rfl rfl (zk5 BK172 (ze5 BK171)) (fun hHeld => ?_); refine with_tabW soft_num_add.tab2 soft_num_add.bits2 (fun HT_ HW_ => ?_)
  generalize w19.drew = w20 at BK171 BK172 BK175 HB hHeld ⊢
  refine zpA 0 17 (h := ?_)
  refine zpA 4 21 (h := ?_)
  refine zpA 6 23 (h := ?_)
  refine ztA 1 18 (h := ?_)
  refine zpA 2 19 (h := ?_)
  refine ztA 5 22 (h := ?_)
  refine ztA 7 24 (h := ?_)
  refine zpA 8 25 (h := ?_)
  refine join_ (σ := Nat) 2 #[true, true, true, true, true, true, true, true, true, true, true, true, true, true, false, false] (fun s_ => [(20, .agg #[.int .u64 t176, .int .u64 t177]), (26, .tuple #[.agg #[.int .u64 t178, .int .u64 t179], .bool t180]), (9, .pointer (some ⟨s_, 0, none⟩)), (16, .tuple #[.agg #[.int .u64 t178, .int .u64 t179], .bool t180]), (27, .agg #[.int .u64 t178, .int .u64 t179]), (28, .bool t180)]) (fun s_ w' => (w'.cell? ⟨gb172, 0, none⟩ = some (.int .u64 a1_0) ∧ w'.cell? ⟨gb172, 1, none⟩ = some (.int .u8 a1_1) ∧ w'.cell? ⟨gb172, 2, none⟩ = some (.bool a1_2) ∧ w'.cell? ⟨gb172, 3, none⟩ = some (.int .u64 a1_3) ∧ w'.cell? ⟨gb172, 4, none⟩ = some (.int .i64 a1_4) ∧ w'.cell? ⟨gb171, 0, none⟩ = some (.int .u64 a0_0) ∧ w'.cell? ⟨gb171, 1, none⟩ = some (.int .u8 a0_1) ∧ w'.cell? ⟨gb171, 2, none⟩ = some (.bool a0_2) ∧ w'.cell? ⟨gb171, 3, none⟩ = some (.int .u64 a0_3) ∧ w'.cell? ⟨gb171, 4, none⟩ = some (.int .i64 a0_4)) ∧ (w'.heap[gb171]? = some (.cells #[.int .u64 a0_0, .int .u8 a0_1, .bool a0_2, .int .u64 a0_3, .int .i64 a0_4] 88 (0, 0))) ∧ (w'.heap[gb172]? = some (.cells #[.int .u64 a1_0, .int .u8 a1_1, .bool a1_2, .int .u64 a1_3, .int .i64 a1_4] 88 (0, 0))) ∧ (w'.heap[gb175]? = some (.cells #[.int .u64 t173, .int .u64 t174] 109 (0, 0))) ∧ (w'.heap[s_]? = some (.cells #[.int .u64 0, .int .u64 0] 109 (0, 0))) ∧ (w.heap.size ≤ s_) ∧ (w.heap.size ≤ s_) ∧ (gb171 ≠ s_) ∧ (s_ ≠ gb171) ∧ (gb172 ≠ s_) ∧ (s_ ≠ gb172) ∧ (gb175 ≠ s_) ∧ (s_ ≠ gb175) ∧ (Below w.heap.size w w')) ?_ ?_
  rotate_left
  ·intro hCont
   refine two_ (i := 3) (j := 13) (Ni := some 20) (Nj := some 9) #[true, true, true, true, true, true, true, true, true, false, false, false, false, false, false, false] #[true, true, true, false, true, true, true, true, true, false, false, false, false, true, false, false] rfl rfl rfl rfl (two_of HT_.out (by kernel_rfl)) (by decide) (by decide) (fun K hK => ?_) (fun K hK => ?_)
   ·skip
    refine zgA Try.func106 (wide_U128_Shl.calls k 0 a1_3 70 t176 t177 _ A5.out) (h := ?_)
    rintro w21 hb
    replace BK171 := zkb BK171 hb
    replace BK172 := zkb BK172 hb
    replace BK175 := zkb BK175 hb
    replace HB := zkB HB hb
    (try clear hb)
    refine hK.out _ _ (zk5 BK172 (ze5 BK171)) (fun hHeld => ?_)
    clear hK K
    refine znA 20 (h := ?_)
    refine two_ (i := 9) (j := 13) (Ni := some 26) (Nj := some 9) #[true, true, true, true, true, true, true, true, true, true, false, false, false, false, false, false] #[true, true, true, true, true, true, true, true, true, false, false, false, false, true, false, false] rfl rfl rfl rfl (two_of HT_.out (by kernel_rfl)) (by decide) (by decide) (fun K hK => ?_) (fun K hK => ?_)
    ·skip
     refine zgA Try.func151 (wide_U128_Shr.calls k t176 t177 (wrap64 (a0_4 - a1_4)) t178 t179 t180 _ A6.out) (h := ?_)
     rintro w22 hb
     replace BK171 := zkb BK171 hb
     replace BK172 := zkb BK172 hb
     replace BK175 := zkb BK175 hb
     replace HB := zkB HB hb
     (try clear hb)
     refine hK.out _ _ (zk5 BK172 (ze5 BK171)) (fun hHeld => ?_)
     clear hK K
     refine znA 26 (h := ?_)
     refine zpA 10 16 (h := ?_)
     refine zpA 11 27 (h := ?_)
     refine zpA 12 28 (h := ?_)
     refine zoA 13 9 (h := fun K hK => ?_)
     refine box_step ?hg (N := 9) ?hd (cs := #[.int .u64 0, .int .u64 0]) (t := 109) ?hr ?_; (case hd => rfl); (case hg => rfl); (case hr => first | (go_simp; done) | (go_simp; rfl))
     intro gb181 hg w23 hbox hb
     have GW181 := zkz HB hg
     have NB171_181 := zkl BK171 hg
     have NB181_171 := zkr BK171 hg
     have NB172_181 := zkl BK172 hg
     have NB181_172 := zkr BK172 hg
     have NB175_181 := zkl BK175 hg
     have NB181_175 := zkr BK175 hg
     replace BK171 := zkb BK171 hb
     replace BK172 := zkb BK172 hb
     replace BK175 := zkb BK175 hb
     replace HB := zkB HB hb
     have BK181 := Aside0.mk (hbox)
     clear hb hbox hg
     refine hK.out _ _ (zk5 BK172 (ze5 BK171)) (fun hHeld => ?_)
     clear hK K
     refine znA 9 (h := ?_)
     exact norm_ (by simp only [putAll, Act.put, List.setIfInBounds_toArray, List.set_cons_zero, List.set_cons_succ]) (hCont (gb181) _ ⟨hHeld, (zkq BK171), (zkq BK172), (zkq BK175), (zkq BK181), GW181.out, GW181.out, NB171_181.out, NB181_171.out, NB172_181.out, NB181_172.out, NB175_181.out, NB181_175.out, zaB⟩)
    skip
    refine box_step ?hg (N := 9) ?hd (cs := #[.int .u64 0, .int .u64 0]) (t := 109) ?hr ?_; (case hd => rfl); (case hg => rfl); (case hr => first | (go_simp; done) | (go_simp; rfl))
    intro gb181 hg w22 hbox hb
    have GW181 := zkz HB hg
    have NB171_181 := zkl BK171 hg
    have NB181_171 := zkr BK171 hg
    have NB172_181 := zkl BK172 hg
    have NB181_172 := zkr BK172 hg
    have NB175_181 := zkl BK175 hg
    have NB181_175 := zkr BK175 hg
    replace BK171 := zkb BK171 hb
    replace BK172 := zkb BK172 hb
    replace BK175 := zkb BK175 hb
    replace HB := zkB HB hb
    have BK181 := Aside0.mk (hbox)
    clear hb hbox hg
    refine hK.out _ _ (zk5 BK172 (ze5 BK171)) (fun hHeld => ?_)
    clear hK K
    refine znA 9 (h := ?_)
    refine zoA 9 26 (h := fun K hK => ?_)
    refine zgA Try.func151 (wide_U128_Shr.calls k t176 t177 (wrap64 (a0_4 - a1_4)) t178 t179 t180 _ A6.out) (h := ?_)
    rintro w23 hb
    replace BK171 := zkb BK171 hb
    replace BK172 := zkb BK172 hb
    replace BK175 := zkb BK175 hb
    replace BK181 := zkb BK181 hb
    replace HB := zkB HB hb
    (try clear hb)
    refine hK.out _ _ (zk5 BK172 (ze5 BK171)) (fun hHeld => ?_)
    clear hK K
    refine znA 26 (h := ?_)
    refine zpA 10 16 (h := ?_)
    refine zpA 11 27 (h := ?_)
    refine zpA 12 28 (h := ?_)
    exact norm_ (by simp only [putAll, Act.put, List.setIfInBounds_toArray, List.set_cons_zero, List.set_cons_succ]) (hCont (gb181) _ ⟨hHeld, (zkq BK171), (zkq BK172), (zkq BK175), (zkq BK181), GW181.out, GW181.out, NB171_181.out, NB181_171.out, NB172_181.out, NB181_172.out, NB175_181.out, NB181_175.out, zaB⟩)
   skip
   refine box_step ?hg (N := 9) ?hd (cs := #[.int .u64 0, .int .u64 0]) (t := 109) ?hr ?_; (case hd => rfl); (case hg => rfl); (case hr => first | (go_simp; done) | (go_simp; rfl))
   intro gb181 hg w21 hbox hb
   have GW181 := zkz HB hg
   have NB171_181 := zkl BK171 hg
   have NB181_171 := zkr BK171 hg
   have NB172_181 := zkl BK172 hg
   have NB181_172 := zkr BK172 hg
   have NB175_181 := zkl BK175 hg
   have NB181_175 := zkr BK175 hg
   replace BK171 := zkb BK171 hb
   replace BK172 := zkb BK172 hb
   replace BK175 := zkb BK175 hb
   replace HB := zkB HB hb
   have BK181 := Aside0.mk (hbox)
   clear hb hbox hg
   refine hK.out _ _ (zk5 BK172 (ze5 BK171)) (fun hHeld => ?_)
   clear hK K
   refine znA 9 (h := ?_)
   refine zoA 3 20 (h := fun K hK => ?_)
   refine zgA Try.func106 (wide_U128_Shl.calls k 0 a1_3 70 t176 t177 _ A5.out) (h := ?_)
   rintro w22 hb
   replace BK171 := zkb BK171 hb
   replace BK172 := zkb BK172 hb
   replace BK175 := zkb BK175 hb
   replace BK181 := zkb BK181 hb
   replace HB := zkB HB hb
   (try clear hb)
   refine hK.out _ _ (zk5 BK172 (ze5 BK171)) (fun hHeld => ?_)
   clear hK K
   refine znA 20 (h := ?_)
   refine zoA 9 26 (h := fun K hK => ?_)
   refine zgA Try.func151 (wide_U128_Shr.calls k t176 t177 (wrap64 (a0_4 - a1_4)) t178 t179 t180 _ A6.out) (h := ?_)
   rintro w23 hb
   replace BK171 := zkb BK171 hb
   replace BK172 := zkb BK172 hb
   replace BK175 := zkb BK175 hb
   replace BK181 := zkb BK181 hb
   replace HB := zkB HB hb
   (try clear hb)
   refine hK.out _ _ (zk5 BK172 (ze5 BK171)) (fun hHeld => ?_)
   clear hK K
   refine znA 26 (h := ?_)
   refine zpA 10 16 (h := ?_)
   refine zpA 11 27 (h := ?_)
   refine zpA 12 28 (h := ?_)
   exact norm_ (by simp only [putAll, Act.put, List.setIfInBounds_toArray, List.set_cons_zero, List.set_cons_succ]) (hCont (gb181) _ ⟨hHeld, (zkq BK171), (zkq BK172), (zkq BK175), (zkq BK181), GW181.out, GW181.out, NB171_181.out, NB181_171.out, NB172_181.out, NB181_172.out, NB175_181.out, NB181_175.out, zaB⟩)
  rintro gb181 w24 ⟨hS_, h0_, h1_, h2_, h3_, h4_, h5_, h6_, h7_, h8_, h9_, h10_, h11_, h12_⟩
  have n0_ : Aside0 (w24.heap[gb171]? = some (.cells #[.int .u64 a0_0, .int .u8 a0_1, .bool a0_2, .int .u64 a0_3, .int .i64 a0_4] 88 (0, 0))) := ⟨h0_⟩
  have n1_ : Aside0 (w24.heap[gb172]? = some (.cells #[.int .u64 a1_0, .int .u8 a1_1, .bool a1_2, .int .u64 a1_3, .int .i64 a1_4] 88 (0, 0))) := ⟨h1_⟩
  have n2_ : Aside0 (w24.heap[gb175]? = some (.cells #[.int .u64 t173, .int .u64 t174] 109 (0, 0))) := ⟨h2_⟩
  have n3_ : Aside0 (w24.heap[gb181]? = some (.cells #[.int .u64 0, .int .u64 0] 109 (0, 0))) := ⟨h3_⟩
  have n4_ : Aside0 (w.heap.size ≤ gb181) := ⟨h4_⟩
  have n5_ : Aside0 (w.heap.size ≤ gb181) := ⟨h5_⟩
  have n6_ : Aside0 (gb171 ≠ gb181) := ⟨h6_⟩
  have n7_ : Aside0 (gb181 ≠ gb171) := ⟨h7_⟩
  have n8_ : Aside0 (gb172 ≠ gb181) := ⟨h8_⟩
  have n9_ : Aside0 (gb181 ≠ gb172) := ⟨h9_⟩
  have n10_ : Aside0 (gb175 ≠ gb181) := ⟨h10_⟩
  have n11_ : Aside0 (gb181 ≠ gb175) := ⟨h11_⟩
  have n12_ : Aside0 (Below w.heap.size w w24) := ⟨h12_⟩
  clear BK171
  clear BK172
  clear BK175
  clear HB
  clear h0_ h1_ h2_ h3_ h4_ h5_ h6_ h7_ h8_ h9_ h10_ h11_ h12_
  have BK171 := n0_
  have BK172 := n1_
  have BK175 := n2_
  have BK181 := n3_
  have GW181 := n4_
  have GW181 := n5_
  have NB171_181 := n6_
  have NB181_171 := n7_
  have NB172_181 := n8_
  have NB181_172 := n9_
  have NB175_181 := n10_
  have NB181_175 := n11_
  have HB := n12_
  clear n0_ n1_ n2_ n3_ n4_ n5_ n6_ n7_ n8_ n9_ n10_ n11_ n12_
  have hHeld : w24.cell? ⟨gb172, 0, none⟩ = some (.int .u64 a1_0) ∧ w24.cell? ⟨gb172, 1, none⟩ = some (.int .u8 a1_1) ∧ w24.cell? ⟨gb172, 2, none⟩ = some (.bool a1_2) ∧ w24.cell? ⟨gb172, 3, none⟩ = some (.int .u64 a1_3) ∧ w24.cell? ⟨gb172, 4, none⟩ = some (.int .i64 a1_4) ∧ w24.cell? ⟨gb171, 0, none⟩ = some (.int .u64 a0_0) ∧ w24.cell? ⟨gb171, 1, none⟩ = some (.int .u8 a0_1) ∧ w24.cell? ⟨gb171, 2, none⟩ = some (.bool a0_2) ∧ w24.cell? ⟨gb171, 3, none⟩ = some (.int .u64 a0_3) ∧ w24.cell? ⟨gb171, 4, none⟩ = some (.int .i64 a0_4) := hS_
  refine norm_ (a' := ?_) ?_ ?_
  rotate_left
  ·simp only [putAll, Act.put, List.setIfInBounds_toArray, List.set_cons_zero, List.set_cons_succ]
   rfl
  refine one_ (i := 14) (N := none) #[true, true, true, true, true, true, true, true, true, true, true, true, true, true, true, false] rfl rfl (one_of HT_.out (by kernel_rfl)) (by decide) (fun K hK => ?_)
  have hs25 := zc0 BK181
  have hfs25 := blk_frozen BK181.out 0
  have hns25_0 := NB171_181.out
  have hns25_1 := NB172_181.out
  have hns25_2 := NB175_181.out
  have hms25_0 := NB181_171.out
  have hms25_1 := NB181_172.out
  have hms25_2 := NB181_175.out
  have hs26 := zc1 BK181
  have hfs26 := blk_frozen BK181.out 1
  have hns26_0 := NB171_181.out
  have hns26_1 := NB172_181.out
  have hns26_2 := NB175_181.out
  have hms26_0 := NB181_171.out
  have hms26_1 := NB181_172.out
  have hms26_2 := NB181_175.out
  refine skip_ (w1 := ?_) (by rfl) rfl ?_ ?_
  rotate_left
  ·go_simp
   rfl
  refine hK.out _ _ ⟨(zff NB172_181 (zff NB172_181 hHeld.1)), (zff NB172_181 (zff NB172_181 hHeld.2.1)), (zff NB172_181 (zff NB172_181 hHeld.2.2.1)), (zff NB172_181 (zff NB172_181 hHeld.2.2.2.1)), (zff NB172_181 (zff NB172_181 hHeld.2.2.2.2.1)), (zff NB171_181 (zff NB171_181 hHeld.2.2.2.2.2.1)), (zff NB171_181 (zff NB171_181 hHeld.2.2.2.2.2.2.1)), (zff NB171_181 (zff NB171_181 hHeld.2.2.2.2.2.2.2.1)), (zff NB171_181 (zff NB171_181 hHeld.2.2.2.2.2.2.2.2.1)), (zff NB171_181 (zff NB171_181 hHeld.2.2.2.2.2.2.2.2.2))⟩ (fun hHeld => ?_)
  clear hK K
  refine zpA 15 10 (h := ?_)
  refine done_ (done_of HT_.out (by kernel_rfl)) ?_
  try go_wp2_with (first | ((with_reducible refine gtd 11 rfl ?_); refine zbx 11 #[.int .u64 0, .int .u64 0] 109 (h := ?_); intro gb182 hg w27 hbox hb; have GW182 := zkZ hg (below_set (below_set HB.out GW181.out) GW181.out); have NB171_182 := zkL hg (zkf (zkf BK171.out NB171_181.out _) NB171_181.out _); have NB182_171 := zks NB171_182; have NB172_182 := zkL hg (zkf (zkf BK172.out NB172_181.out _) NB172_181.out _); have NB182_172 := zks NB172_182; have NB175_182 := zkL hg (zkf (zkf BK175.out NB175_181.out _) NB175_181.out _); have NB182_175 := zks NB175_182; have NB181_182 := zkL hg (ob := .cells #[.int .u64 t178, .int .u64 t179] 109 (0, 0)) (blk_put (cs := #[.int .u64 t178, .int .u64 0]) (blk_put BK181.out 0 _ rfl) 1 _ rfl); have NB182_181 := zks NB181_182; replace BK171 := Aside0.mk (blk_below (zkf (zkf BK171.out NB171_181.out _) NB171_181.out _) hb); replace BK172 := Aside0.mk (blk_below (zkf (zkf BK172.out NB172_181.out _) NB172_181.out _) hb); replace BK175 := Aside0.mk (blk_below (zkf (zkf BK175.out NB175_181.out _) NB175_181.out _) hb); replace BK181 := Aside0.mk (blk_below (o := .cells #[.int .u64 t178, .int .u64 t179] 109 (0, 0)) (blk_put (cs := #[.int .u64 t178, .int .u64 0]) (blk_put BK181.out 0 _ rfl) 1 _ rfl) hb); replace HB := Aside0.mk (below_step (below_set (below_set HB.out GW181.out) GW181.out) hb); have BK182 := Aside0.mk (hbox); clear hb hbox hg; obtain ⟨_, _⟩ := zsy NB171_181; obtain ⟨_, _⟩ := zsy NB171_182; obtain ⟨_, _, _, _, _, _, _, _, _, _⟩ := zq5 BK171; obtain ⟨_, _⟩ := zsy NB172_181; obtain ⟨_, _⟩ := zsy NB172_182; obtain ⟨_, _, _, _, _, _, _, _, _, _⟩ := zq5 BK172; obtain ⟨_, _⟩ := zsy NB175_181; obtain ⟨_, _⟩ := zsy NB175_182; obtain ⟨_, _, _, _⟩ := zq2 BK175; obtain ⟨_, _⟩ := zsy NB181_182; obtain ⟨_, _, _, _⟩ := zq2 BK181) | ((with_reducible refine gtc 152 rfl ?_); refine zgL 37 Try.func152 (wide_U128_Add.calls t173 t174 t178 t179 t183 t184 t185 _ A8.out) (h := ?_); rintro w39 hb; replace BK171 := zkb BK171 hb; replace BK172 := zkb BK172 hb; replace BK175 := zkb BK175 hb; replace BK181 := zkb BK181 hb; replace BK182 := zkb BK182 hb; replace HB := zkB HB hb; (try clear hb); obtain ⟨_, _, _, _⟩ := zq2 BK182; obtain ⟨_, _, _, _, _, _, _, _, _, _⟩ := zq5 BK171) | ((with_reducible refine gtc 99 rfl ?_); refine zgL 67 Try.func99 (round_Round.calls k a0_2 t183 t184 (wrap64 (a0_4 - 70)) t180 a2 t186 t187 _ A9.out) (h := ?_); rintro w42 hb; replace BK171 := Aside0.mk (blk_below (zkf (zkf BK171.out NB171_182.out _) NB171_182.out _) hb); replace BK172 := Aside0.mk (blk_below (zkf (zkf BK172.out NB172_182.out _) NB172_182.out _) hb); replace BK175 := Aside0.mk (blk_below (zkf (zkf BK175.out NB175_182.out _) NB175_182.out _) hb); replace BK181 := Aside0.mk (blk_below (zkf (zkf BK181.out NB181_182.out _) NB181_182.out _) hb); replace BK182 := Aside0.mk (blk_below (o := .cells #[.int .u64 t183, .int .u64 t184] 109 (0, 0)) (blk_put (cs := #[.int .u64 t183, .int .u64 0]) (blk_put BK182.out 0 _ rfl) 1 _ rfl) hb); replace HB := Aside0.mk (below_step (below_set (below_set HB.out GW182.out) GW182.out) hb); (try clear hb)))
  go_ret2
  exact ⟨zaE, zaB⟩
 rw [if_neg c7] at H
 have c7b0 : (a0_2 == a1_2) = false := by simpa using c7
 (try (have c7b1 : decide (a0_2 = a1_2) = false := by simpa using c7))
 (try (have c7b2 : (a0_2 == a1_2) = false := by simpa using c7))
 (try (have c7b3 : ¬ (a0_2 = a1_2) := by simpa using c7))
 clear c7
 obtain ⟨⟨t188, t189, t190⟩, A43, H⟩ := zbs H
 try dsimp only at H
 by_cases c44 : (t188 == 0 && (t189 == 0)) = true
 ·rw [if_pos c44] at H
  have c44b0 : (t188 == 0 && (t189 == 0)) = true := c44
  (try (have c44b1 : decide (t188 = 0 && (t189 == 0)) = true := by simpa using c44))
  (try (have c44b2 : (t188 == 0 && (t189 == 0)) = true := by simpa using c44))
  clear c44
  obtain ⟨t191, A45, H⟩ := zbs H
  try dsimp only at H
  simp only [Option.some.injEq, Prod.mk.injEq] at H
  obtain ⟨rfl, rfl⟩ := H
  go_enter Try.func86, Try.ntmps86
  try go_wp2_with (first | ((with_reducible refine gtd 3 rfl ?_); refine zbx 3 #[.int .u64 a0_0, .int .u8 a0_1, .bool a0_2, .int .u64 a0_3, .int .i64 a0_4] 88 (h := ?_); intro gb171 hg w46 hbox hb; have GW171 := zkZ hg (zaB (p := Below w.heap.size w _)); replace HB := Aside0.mk (below_step zaB hb); have BK171 := Aside0.mk (hbox); clear hb hbox hg) | ((with_reducible refine gtd 4 rfl ?_); refine zbx 4 #[.int .u64 a1_0, .int .u8 a1_1, .bool a1_2, .int .u64 a1_3, .int .i64 a1_4] 88 (h := ?_); intro gb172 hg w47 hbox hb; have GW172 := zkz HB hg; have NB171_172 := zkl BK171 hg; have NB172_171 := zkr BK171 hg; replace BK171 := zkb BK171 hb; replace HB := zkB HB hb; have BK172 := Aside0.mk (hbox); clear hb hbox hg; obtain ⟨_, _⟩ := zsy NB171_172; obtain ⟨_, _, _, _, _, _, _, _, _, _⟩ := zq5 BK171) | ((with_reducible refine gtc 106 rfl ?_); refine zgL 15 Try.func106 (wide_U128_Shl.calls k 0 a0_3 70 t173 t174 _ A4.out) (h := ?_); rintro w50 hb; replace BK171 := zkb BK171 hb; replace BK172 := zkb BK172 hb; replace HB := zkB HB hb; (try clear hb)) | ((with_reducible refine gtd 8 rfl ?_); refine zbx 8 #[.int .u64 0, .int .u64 0] 109 (h := ?_); intro gb175 hg w51 hbox hb; have GW175 := zkz HB hg; have NB171_175 := zkl BK171 hg; have NB175_171 := zkr BK171 hg; have NB172_175 := zkl BK172 hg; have NB175_172 := zkr BK172 hg; replace BK171 := zkb BK171 hb; replace BK172 := zkb BK172 hb; replace HB := zkB HB hb; have BK175 := Aside0.mk (hbox); clear hb hbox hg; obtain ⟨_, _⟩ := zsy NB175_171; obtain ⟨_, _⟩ := zsy NB175_172; obtain ⟨_, _, _, _⟩ := zq2 BK175))
  generalize hW_ : ((w51.setCell ⟨gb175, 0, none⟩ (.int .u64 t173)).setCell ⟨gb175, 1, none⟩ (.int .u64 t174)) = w55
  replace BK171 := zkg hW_ (zkf (zkf BK171.out NB171_175.out _) NB171_175.out _)
  replace BK172 := zkg hW_ (zkf (zkf BK172.out NB172_175.out _) NB172_175.out _)
  replace BK175 := zkg hW_ (ob := .cells #[.int .u64 t173, .int .u64 t174] 109 (0, 0)) (blk_put (cs := #[.int .u64 t173, .int .u64 0]) (blk_put BK175.out 0 _ rfl) 1 _ rfl)
  replace HB := zkG hW_ (below_set (below_set HB.out GW175.out) GW175.out)
  clear hW_
  replace BK171 := Aside0.mk (blk_drew BK171.out)
  replace BK172 := Aside0.mk (blk_drew BK172.out)
  replace BK175 := Aside0.mk (blk_drew BK175.out)
  replace HB := Aside0.mk (below_drew1 HB.out)
  refine start_ (n := 16) (S := fun w' => w'.cell? ⟨gb172, 0, none⟩ = some (.int .u64 a1_0) ∧ w'.cell? ⟨gb172, 1, none⟩ = some (.int .u8 a1_1) ∧ w'.cell? ⟨gb172, 2, none⟩ = some (.bool a1_2) ∧ w'.cell? ⟨gb172, 3, none⟩ = some (.int .u64 a1_3) ∧ w'.cell? ⟨gb172, 4, none⟩ = some (.int .i64 a1_4) ∧ w'.cell? ⟨gb171, 0, none⟩ = some (.int .u64 a0_0) ∧ w'.cell? ⟨gb171, 1, none⟩ = some (.int .u8 a0_1) ∧ w'.cell? ⟨gb171, 2, none⟩ = some (.bool a0_2) ∧ w'.cell? ⟨gb171, 3, none⟩ = some (.int .u64 a0_3) ∧ w'.cell? ⟨gb171, 4, none⟩ = some (.int .i64 a0_4)) (ds := []) #[false, false, false, false, false, false, false, false, false, false, false, false, false, false, false, false] (by kernel_rfl) rfl rfl (zk5 BK172 (ze5 BK171)) (fun hHeld => ?_); refine with_tabW soft_num_add.tab2 soft_num_add.bits2 (fun HT_ HW_ => ?_)
  generalize w55.drew = w56 at BK171 BK172 BK175 HB hHeld ⊢
  refine zpA 0 17 (h := ?_)
  refine zpA 4 21 (h := ?_)
  refine zpA 6 23 (h := ?_)
  refine ztA 1 18 (h := ?_)
  refine zpA 2 19 (h := ?_)
  refine ztA 5 22 (h := ?_)
  refine ztA 7 24 (h := ?_)
  refine zpA 8 25 (h := ?_)
  refine join_ (σ := Nat) 2 #[true, true, true, true, true, true, true, true, true, true, true, true, true, true, false, false] (fun s_ => [(20, .agg #[.int .u64 t176, .int .u64 t177]), (26, .tuple #[.agg #[.int .u64 t178, .int .u64 t179], .bool t180]), (9, .pointer (some ⟨s_, 0, none⟩)), (16, .tuple #[.agg #[.int .u64 t178, .int .u64 t179], .bool t180]), (27, .agg #[.int .u64 t178, .int .u64 t179]), (28, .bool t180)]) (fun s_ w' => (w'.cell? ⟨gb172, 0, none⟩ = some (.int .u64 a1_0) ∧ w'.cell? ⟨gb172, 1, none⟩ = some (.int .u8 a1_1) ∧ w'.cell? ⟨gb172, 2, none⟩ = some (.bool a1_2) ∧ w'.cell? ⟨gb172, 3, none⟩ = some (.int .u64 a1_3) ∧ w'.cell? ⟨gb172, 4, none⟩ = some (.int .i64 a1_4) ∧ w'.cell? ⟨gb171, 0, none⟩ = some (.int .u64 a0_0) ∧ w'.cell? ⟨gb171, 1, none⟩ = some (.int .u8 a0_1) ∧ w'.cell? ⟨gb171, 2, none⟩ = some (.bool a0_2) ∧ w'.cell? ⟨gb171, 3, none⟩ = some (.int .u64 a0_3) ∧ w'.cell? ⟨gb171, 4, none⟩ = some (.int .i64 a0_4)) ∧ (w'.heap[gb171]? = some (.cells #[.int .u64 a0_0, .int .u8 a0_1, .bool a0_2, .int .u64 a0_3, .int .i64 a0_4] 88 (0, 0))) ∧ (w'.heap[gb172]? = some (.cells #[.int .u64 a1_0, .int .u8 a1_1, .bool a1_2, .int .u64 a1_3, .int .i64 a1_4] 88 (0, 0))) ∧ (w'.heap[gb175]? = some (.cells #[.int .u64 t173, .int .u64 t174] 109 (0, 0))) ∧ (w'.heap[s_]? = some (.cells #[.int .u64 0, .int .u64 0] 109 (0, 0))) ∧ (w.heap.size ≤ s_) ∧ (w.heap.size ≤ s_) ∧ (gb171 ≠ s_) ∧ (s_ ≠ gb171) ∧ (gb172 ≠ s_) ∧ (s_ ≠ gb172) ∧ (gb175 ≠ s_) ∧ (s_ ≠ gb175) ∧ (Below w.heap.size w w')) ?_ ?_
  rotate_left
  ·intro hCont
   refine two_ (i := 3) (j := 13) (Ni := some 20) (Nj := some 9) #[true, true, true, true, true, true, true, true, true, false, false, false, false, false, false, false] #[true, true, true, false, true, true, true, true, true, false, false, false, false, true, false, false] rfl rfl rfl rfl (two_of HT_.out (by kernel_rfl)) (by decide) (by decide) (fun K hK => ?_) (fun K hK => ?_)
   ·skip
    refine zgA Try.func106 (wide_U128_Shl.calls k 0 a1_3 70 t176 t177 _ A5.out) (h := ?_)
    rintro w57 hb
    replace BK171 := zkb BK171 hb
    replace BK172 := zkb BK172 hb
    replace BK175 := zkb BK175 hb
    replace HB := zkB HB hb
    (try clear hb)
    refine hK.out _ _ (zk5 BK172 (ze5 BK171)) (fun hHeld => ?_)
    clear hK K
    refine znA 20 (h := ?_)
    refine two_ (i := 9) (j := 13) (Ni := some 26) (Nj := some 9) #[true, true, true, true, true, true, true, true, true, true, false, false, false, false, false, false] #[true, true, true, true, true, true, true, true, true, false, false, false, false, true, false, false] rfl rfl rfl rfl (two_of HT_.out (by kernel_rfl)) (by decide) (by decide) (fun K hK => ?_) (fun K hK => ?_)
    ·skip
     refine zgA Try.func151 (wide_U128_Shr.calls k t176 t177 (wrap64 (a0_4 - a1_4)) t178 t179 t180 _ A6.out) (h := ?_)
     rintro w58 hb
     replace BK171 := zkb BK171 hb
     replace BK172 := zkb BK172 hb
     replace BK175 := zkb BK175 hb
     replace HB := zkB HB hb
     (try clear hb)
     refine hK.out _ _ (zk5 BK172 (ze5 BK171)) (fun hHeld => ?_)
     clear hK K
     refine znA 26 (h := ?_)
     refine zpA 10 16 (h := ?_)
     refine zpA 11 27 (h := ?_)
     refine zpA 12 28 (h := ?_)
     refine zoA 13 9 (h := fun K hK => ?_)
     refine box_step ?hg (N := 9) ?hd (cs := #[.int .u64 0, .int .u64 0]) (t := 109) ?hr ?_; (case hd => rfl); (case hg => rfl); (case hr => first | (go_simp; done) | (go_simp; rfl))
     intro gb181 hg w59 hbox hb
     have GW181 := zkz HB hg
     have NB171_181 := zkl BK171 hg
     have NB181_171 := zkr BK171 hg
     have NB172_181 := zkl BK172 hg
     have NB181_172 := zkr BK172 hg
     have NB175_181 := zkl BK175 hg
     have NB181_175 := zkr BK175 hg
     replace BK171 := zkb BK171 hb
     replace BK172 := zkb BK172 hb
     replace BK175 := zkb BK175 hb
     replace HB := zkB HB hb
     have BK181 := Aside0.mk (hbox)
     clear hb hbox hg
     refine hK.out _ _ (zk5 BK172 (ze5 BK171)) (fun hHeld => ?_)
     clear hK K
     refine znA 9 (h := ?_)
     exact norm_ (by simp only [putAll, Act.put, List.setIfInBounds_toArray, List.set_cons_zero, List.set_cons_succ]) (hCont (gb181) _ ⟨hHeld, (zkq BK171), (zkq BK172), (zkq BK175), (zkq BK181), GW181.out, GW181.out, NB171_181.out, NB181_171.out, NB172_181.out, NB181_172.out, NB175_181.out, NB181_175.out, zaB⟩)
    skip
    refine box_step ?hg (N := 9) ?hd (cs := #[.int .u64 0, .int .u64 0]) (t := 109) ?hr ?_; (case hd => rfl); (case hg => rfl); (case hr => first | (go_simp; done) | (go_simp; rfl))
    intro gb181 hg w58 hbox hb
    have GW181 := zkz HB hg
    have NB171_181 := zkl BK171 hg
    have NB181_171 := zkr BK171 hg
    have NB172_181 := zkl BK172 hg
    have NB181_172 := zkr BK172 hg
    have NB175_181 := zkl BK175 hg
    have NB181_175 := zkr BK175 hg
    replace BK171 := zkb BK171 hb
    replace BK172 := zkb BK172 hb
    replace BK175 := zkb BK175 hb
    replace HB := zkB HB hb
    have BK181 := Aside0.mk (hbox)
    clear hb hbox hg
    refine hK.out _ _ (zk5 BK172 (ze5 BK171)) (fun hHeld => ?_)
    clear hK K
    refine znA 9 (h := ?_)
    refine zoA 9 26 (h := fun K hK => ?_)
    refine zgA Try.func151 (wide_U128_Shr.calls k t176 t177 (wrap64 (a0_4 - a1_4)) t178 t179 t180 _ A6.out) (h := ?_)
    rintro w59 hb
    replace BK171 := zkb BK171 hb
    replace BK172 := zkb BK172 hb
    replace BK175 := zkb BK175 hb
    replace BK181 := zkb BK181 hb
    replace HB := zkB HB hb
    (try clear hb)
    refine hK.out _ _ (zk5 BK172 (ze5 BK171)) (fun hHeld => ?_)
    clear hK K
    refine znA 26 (h := ?_)
    refine zpA 10 16 (h := ?_)
    refine zpA 11 27 (h := ?_)
    refine zpA 12 28 (h := ?_)
    exact norm_ (by simp only [putAll, Act.put, List.setIfInBounds_toArray, List.set_cons_zero, List.set_cons_succ]) (hCont (gb181) _ ⟨hHeld, (zkq BK171), (zkq BK172), (zkq BK175), (zkq BK181), GW181.out, GW181.out, NB171_181.out, NB181_171.out, NB172_181.out, NB181_172.out, NB175_181.out, NB181_175.out, zaB⟩)
   skip
   refine box_step ?hg (N := 9) ?hd (cs := #[.int .u64 0, .int .u64 0]) (t := 109) ?hr ?_; (case hd => rfl); (case hg => rfl); (case hr => first | (go_simp; done) | (go_simp; rfl))
   intro gb181 hg w57 hbox hb
   have GW181 := zkz HB hg
   have NB171_181 := zkl BK171 hg
   have NB181_171 := zkr BK171 hg
   have NB172_181 := zkl BK172 hg
   have NB181_172 := zkr BK172 hg
   have NB175_181 := zkl BK175 hg
   have NB181_175 := zkr BK175 hg
   replace BK171 := zkb BK171 hb
   replace BK172 := zkb BK172 hb
   replace BK175 := zkb BK175 hb
   replace HB := zkB HB hb
   have BK181 := Aside0.mk (hbox)
   clear hb hbox hg
   refine hK.out _ _ (zk5 BK172 (ze5 BK171)) (fun hHeld => ?_)
   clear hK K
   refine znA 9 (h := ?_)
   refine zoA 3 20 (h := fun K hK => ?_)
   refine zgA Try.func106 (wide_U128_Shl.calls k 0 a1_3 70 t176 t177 _ A5.out) (h := ?_)
   rintro w58 hb
   replace BK171 := zkb BK171 hb
   replace BK172 := zkb BK172 hb
   replace BK175 := zkb BK175 hb
   replace BK181 := zkb BK181 hb
   replace HB := zkB HB hb
   (try clear hb)
   refine hK.out _ _ (zk5 BK172 (ze5 BK171)) (fun hHeld => ?_)
   clear hK K
   refine znA 20 (h := ?_)
   refine zoA 9 26 (h := fun K hK => ?_)
   refine zgA Try.func151 (wide_U128_Shr.calls k t176 t177 (wrap64 (a0_4 - a1_4)) t178 t179 t180 _ A6.out) (h := ?_)
   rintro w59 hb
   replace BK171 := zkb BK171 hb
   replace BK172 := zkb BK172 hb
   replace BK175 := zkb BK175 hb
   replace BK181 := zkb BK181 hb
   replace HB := zkB HB hb
   (try clear hb)
   refine hK.out _ _ (zk5 BK172 (ze5 BK171)) (fun hHeld => ?_)
   clear hK K
   refine znA 26 (h := ?_)
   refine zpA 10 16 (h := ?_)
   refine zpA 11 27 (h := ?_)
   refine zpA 12 28 (h := ?_)
   exact norm_ (by simp only [putAll, Act.put, List.setIfInBounds_toArray, List.set_cons_zero, List.set_cons_succ]) (hCont (gb181) _ ⟨hHeld, (zkq BK171), (zkq BK172), (zkq BK175), (zkq BK181), GW181.out, GW181.out, NB171_181.out, NB181_171.out, NB172_181.out, NB181_172.out, NB175_181.out, NB181_175.out, zaB⟩)
  rintro gb181 w60 ⟨hS_, h0_, h1_, h2_, h3_, h4_, h5_, h6_, h7_, h8_, h9_, h10_, h11_, h12_⟩
  have n0_ : Aside0 (w60.heap[gb171]? = some (.cells #[.int .u64 a0_0, .int .u8 a0_1, .bool a0_2, .int .u64 a0_3, .int .i64 a0_4] 88 (0, 0))) := ⟨h0_⟩
  have n1_ : Aside0 (w60.heap[gb172]? = some (.cells #[.int .u64 a1_0, .int .u8 a1_1, .bool a1_2, .int .u64 a1_3, .int .i64 a1_4] 88 (0, 0))) := ⟨h1_⟩
  have n2_ : Aside0 (w60.heap[gb175]? = some (.cells #[.int .u64 t173, .int .u64 t174] 109 (0, 0))) := ⟨h2_⟩
  have n3_ : Aside0 (w60.heap[gb181]? = some (.cells #[.int .u64 0, .int .u64 0] 109 (0, 0))) := ⟨h3_⟩
  have n4_ : Aside0 (w.heap.size ≤ gb181) := ⟨h4_⟩
  have n5_ : Aside0 (w.heap.size ≤ gb181) := ⟨h5_⟩
  have n6_ : Aside0 (gb171 ≠ gb181) := ⟨h6_⟩
  have n7_ : Aside0 (gb181 ≠ gb171) := ⟨h7_⟩
  have n8_ : Aside0 (gb172 ≠ gb181) := ⟨h8_⟩
  have n9_ : Aside0 (gb181 ≠ gb172) := ⟨h9_⟩
  have n10_ : Aside0 (gb175 ≠ gb181) := ⟨h10_⟩
  have n11_ : Aside0 (gb181 ≠ gb175) := ⟨h11_⟩
  have n12_ : Aside0 (Below w.heap.size w w60) := ⟨h12_⟩
  clear BK171
  clear BK172
  clear BK175
  clear HB
  clear h0_ h1_ h2_ h3_ h4_ h5_ h6_ h7_ h8_ h9_ h10_ h11_ h12_
  have BK171 := n0_
  have BK172 := n1_
  have BK175 := n2_
  have BK181 := n3_
  have GW181 := n4_
  have GW181 := n5_
  have NB171_181 := n6_
  have NB181_171 := n7_
  have NB172_181 := n8_
  have NB181_172 := n9_
  have NB175_181 := n10_
  have NB181_175 := n11_
  have HB := n12_
  clear n0_ n1_ n2_ n3_ n4_ n5_ n6_ n7_ n8_ n9_ n10_ n11_ n12_
  have hHeld : w60.cell? ⟨gb172, 0, none⟩ = some (.int .u64 a1_0) ∧ w60.cell? ⟨gb172, 1, none⟩ = some (.int .u8 a1_1) ∧ w60.cell? ⟨gb172, 2, none⟩ = some (.bool a1_2) ∧ w60.cell? ⟨gb172, 3, none⟩ = some (.int .u64 a1_3) ∧ w60.cell? ⟨gb172, 4, none⟩ = some (.int .i64 a1_4) ∧ w60.cell? ⟨gb171, 0, none⟩ = some (.int .u64 a0_0) ∧ w60.cell? ⟨gb171, 1, none⟩ = some (.int .u8 a0_1) ∧ w60.cell? ⟨gb171, 2, none⟩ = some (.bool a0_2) ∧ w60.cell? ⟨gb171, 3, none⟩ = some (.int .u64 a0_3) ∧ w60.cell? ⟨gb171, 4, none⟩ = some (.int .i64 a0_4) := hS_
  refine norm_ (a' := ?_) ?_ ?_
  rotate_left
  ·simp only [putAll, Act.put, List.setIfInBounds_toArray, List.set_cons_zero, List.set_cons_succ]
   rfl
  refine one_ (i := 14) (N := none) #[true, true, true, true, true, true, true, true, true, true, true, true, true, true, true, false] rfl rfl (one_of HT_.out (by kernel_rfl)) (by decide) (fun K hK => ?_)
  have hs61 := zc0 BK181
  have hfs61 := blk_frozen BK181.out 0
  have hns61_0 := NB171_181.out
  have hns61_1 := NB172_181.out
  have hns61_2 := NB175_181.out
  have hms61_0 := NB181_171.out
  have hms61_1 := NB181_172.out
  have hms61_2 := NB181_175.out
  have hs62 := zc1 BK181
  have hfs62 := blk_frozen BK181.out 1
  have hns62_0 := NB171_181.out
  have hns62_1 := NB172_181.out
  have hns62_2 := NB175_181.out
  have hms62_0 := NB181_171.out
  have hms62_1 := NB181_172.out
  have hms62_2 := NB181_175.out
  refine skip_ (w1 := ?_) (by rfl) rfl ?_ ?_
  rotate_left
  ·go_simp
   rfl
  refine hK.out _ _ ⟨(zff NB172_181 (zff NB172_181 hHeld.1)), (zff NB172_181 (zff NB172_181 hHeld.2.1)), (zff NB172_181 (zff NB172_181 hHeld.2.2.1)), (zff NB172_181 (zff NB172_181 hHeld.2.2.2.1)), (zff NB172_181 (zff NB172_181 hHeld.2.2.2.2.1)), (zff NB171_181 (zff NB171_181 hHeld.2.2.2.2.2.1)), (zff NB171_181 (zff NB171_181 hHeld.2.2.2.2.2.2.1)), (zff NB171_181 (zff NB171_181 hHeld.2.2.2.2.2.2.2.1)), (zff NB171_181 (zff NB171_181 hHeld.2.2.2.2.2.2.2.2.1)), (zff NB171_181 (zff NB171_181 hHeld.2.2.2.2.2.2.2.2.2))⟩ (fun hHeld => ?_)
  clear hK K
  refine zpA 15 10 (h := ?_)
  refine done_ (done_of HT_.out (by kernel_rfl)) ?_
  try go_wp2_with (first | ((with_reducible refine gtd 11 rfl ?_); refine zbx 11 #[.int .u64 0, .int .u64 0] 109 (h := ?_); intro gb182 hg w63 hbox hb; have GW182 := zkZ hg (below_set (below_set HB.out GW181.out) GW181.out); have NB171_182 := zkL hg (zkf (zkf BK171.out NB171_181.out _) NB171_181.out _); have NB182_171 := zks NB171_182; have NB172_182 := zkL hg (zkf (zkf BK172.out NB172_181.out _) NB172_181.out _); have NB182_172 := zks NB172_182; have NB175_182 := zkL hg (zkf (zkf BK175.out NB175_181.out _) NB175_181.out _); have NB182_175 := zks NB175_182; have NB181_182 := zkL hg (ob := .cells #[.int .u64 t178, .int .u64 t179] 109 (0, 0)) (blk_put (cs := #[.int .u64 t178, .int .u64 0]) (blk_put BK181.out 0 _ rfl) 1 _ rfl); have NB182_181 := zks NB181_182; replace BK171 := Aside0.mk (blk_below (zkf (zkf BK171.out NB171_181.out _) NB171_181.out _) hb); replace BK172 := Aside0.mk (blk_below (zkf (zkf BK172.out NB172_181.out _) NB172_181.out _) hb); replace BK175 := Aside0.mk (blk_below (zkf (zkf BK175.out NB175_181.out _) NB175_181.out _) hb); replace BK181 := Aside0.mk (blk_below (o := .cells #[.int .u64 t178, .int .u64 t179] 109 (0, 0)) (blk_put (cs := #[.int .u64 t178, .int .u64 0]) (blk_put BK181.out 0 _ rfl) 1 _ rfl) hb); replace HB := Aside0.mk (below_step (below_set (below_set HB.out GW181.out) GW181.out) hb); have BK182 := Aside0.mk (hbox); clear hb hbox hg; obtain ⟨_, _⟩ := zsy NB171_181; obtain ⟨_, _⟩ := zsy NB171_182; obtain ⟨_, _, _, _, _, _, _, _, _, _⟩ := zq5 BK171; obtain ⟨_, _⟩ := zsy NB172_181; obtain ⟨_, _⟩ := zsy NB172_182; obtain ⟨_, _, _, _, _, _, _, _, _, _⟩ := zq5 BK172; obtain ⟨_, _⟩ := zsy NB175_181; obtain ⟨_, _⟩ := zsy NB175_182; obtain ⟨_, _, _, _⟩ := zq2 BK175; obtain ⟨_, _⟩ := zsy NB181_182; obtain ⟨_, _, _, _⟩ := zq2 BK181) | ((with_reducible refine gtc 153 rfl ?_); refine zgL 43 Try.func153 (wide_U128_Sub.calls t173 t174 t178 t179 t188 t189 t190 _ A43.out) (h := ?_); rintro w75 hb; replace BK171 := zkb BK171 hb; replace BK172 := zkb BK172 hb; replace BK175 := zkb BK175 hb; replace BK181 := zkb BK181 hb; replace BK182 := zkb BK182 hb; replace HB := zkB HB hb; (try clear hb); obtain ⟨_, _, _, _⟩ := zq2 BK182) | ((with_reducible refine gtc 85 rfl ?_); refine zgL 51 Try.func85 (soft_zero.calls k (a2 == 2) t191 _ A45.out) (h := ?_); rintro w' ⟨nd, rfl⟩))
  go_ret2
  exact ⟨zaE, zaB⟩
 rw [if_neg c44] at H
 have c44b0 : (t188 == 0 && (t189 == 0)) = false := by simpa using c44
 (try (have c44b1 : decide (t188 = 0 && (t189 == 0)) = false := by simpa using c44))
 (try (have c44b2 : (t188 == 0 && (t189 == 0)) = false := by simpa using c44))
 (try (have c44b3 : ¬ (t188 = 0 && (t189 == 0)) := by simpa using c44))
 clear c44
 by_cases c77 : t180 = true
 ·subst c77
  replace H := zit H
  obtain ⟨⟨t192, t193, t194⟩, A78, H⟩ := zbs H
  try dsimp only at H
  obtain ⟨⟨t195, t196⟩, A79, H⟩ := zbs H
  try dsimp only at H
  simp only [Option.some.injEq, Prod.mk.injEq] at H
  obtain ⟨rfl, rfl⟩ := H
  go_enter Try.func86, Try.ntmps86
  try go_wp2_with (first | ((with_reducible refine gtd 3 rfl ?_); refine zbx 3 #[.int .u64 a0_0, .int .u8 a0_1, .bool a0_2, .int .u64 a0_3, .int .i64 a0_4] 88 (h := ?_); intro gb171 hg w80 hbox hb; have GW171 := zkZ hg (zaB (p := Below w.heap.size w _)); replace HB := Aside0.mk (below_step zaB hb); have BK171 := Aside0.mk (hbox); clear hb hbox hg) | ((with_reducible refine gtd 4 rfl ?_); refine zbx 4 #[.int .u64 a1_0, .int .u8 a1_1, .bool a1_2, .int .u64 a1_3, .int .i64 a1_4] 88 (h := ?_); intro gb172 hg w81 hbox hb; have GW172 := zkz HB hg; have NB171_172 := zkl BK171 hg; have NB172_171 := zkr BK171 hg; replace BK171 := zkb BK171 hb; replace HB := zkB HB hb; have BK172 := Aside0.mk (hbox); clear hb hbox hg; obtain ⟨_, _⟩ := zsy NB171_172; obtain ⟨_, _, _, _, _, _, _, _, _, _⟩ := zq5 BK171) | ((with_reducible refine gtc 106 rfl ?_); refine zgL 15 Try.func106 (wide_U128_Shl.calls k 0 a0_3 70 t173 t174 _ A4.out) (h := ?_); rintro w84 hb; replace BK171 := zkb BK171 hb; replace BK172 := zkb BK172 hb; replace HB := zkB HB hb; (try clear hb)) | ((with_reducible refine gtd 8 rfl ?_); refine zbx 8 #[.int .u64 0, .int .u64 0] 109 (h := ?_); intro gb175 hg w85 hbox hb; have GW175 := zkz HB hg; have NB171_175 := zkl BK171 hg; have NB175_171 := zkr BK171 hg; have NB172_175 := zkl BK172 hg; have NB175_172 := zkr BK172 hg; replace BK171 := zkb BK171 hb; replace BK172 := zkb BK172 hb; replace HB := zkB HB hb; have BK175 := Aside0.mk (hbox); clear hb hbox hg; obtain ⟨_, _⟩ := zsy NB175_171; obtain ⟨_, _⟩ := zsy NB175_172; obtain ⟨_, _, _, _⟩ := zq2 BK175))
  generalize hW_ : ((w85.setCell ⟨gb175, 0, none⟩ (.int .u64 t173)).setCell ⟨gb175, 1, none⟩ (.int .u64 t174)) = w89
  replace BK171 := zkg hW_ (zkf (zkf BK171.out NB171_175.out _) NB171_175.out _)
  replace BK172 := zkg hW_ (zkf (zkf BK172.out NB172_175.out _) NB172_175.out _)
  replace BK175 := zkg hW_ (ob := .cells #[.int .u64 t173, .int .u64 t174] 109 (0, 0)) (blk_put (cs := #[.int .u64 t173, .int .u64 0]) (blk_put BK175.out 0 _ rfl) 1 _ rfl)
  replace HB := zkG hW_ (below_set (below_set HB.out GW175.out) GW175.out)
  clear hW_
  replace BK171 := Aside0.mk (blk_drew BK171.out)
  replace BK172 := Aside0.mk (blk_drew BK172.out)
  replace BK175 := Aside0.mk (blk_drew BK175.out)
  replace HB := Aside0.mk (below_drew1 HB.out)
  refine start_ (n := 16) (S := fun w' => w'.cell? ⟨gb172, 0, none⟩ = some (.int .u64 a1_0) ∧ w'.cell? ⟨gb172, 1, none⟩ = some (.int .u8 a1_1) ∧ w'.cell? ⟨gb172, 2, none⟩ = some (.bool a1_2) ∧ w'.cell? ⟨gb172, 3, none⟩ = some (.int .u64 a1_3) ∧ w'.cell? ⟨gb172, 4, none⟩ = some (.int .i64 a1_4) ∧ w'.cell? ⟨gb171, 0, none⟩ = some (.int .u64 a0_0) ∧ w'.cell? ⟨gb171, 1, none⟩ = some (.int .u8 a0_1) ∧ w'.cell? ⟨gb171, 2, none⟩ = some (.bool a0_2) ∧ w'.cell? ⟨gb171, 3, none⟩ = some (.int .u64 a0_3) ∧ w'.cell? ⟨gb171, 4, none⟩ = some (.int .i64 a0_4)) (ds := []) #[false, false, false, false, false, false, false, false, false, false, false, false, false, false, false, false] (by kernel_rfl) rfl rfl (zk5 BK172 (ze5 BK171)) (fun hHeld => ?_); refine with_tabW soft_num_add.tab2 soft_num_add.bits2 (fun HT_ HW_ => ?_)
  generalize w89.drew = w90 at BK171 BK172 BK175 HB hHeld ⊢
  refine zpA 0 17 (h := ?_)
  refine zpA 4 21 (h := ?_)
  refine zpA 6 23 (h := ?_)
  refine ztA 1 18 (h := ?_)
  refine zpA 2 19 (h := ?_)
  refine ztA 5 22 (h := ?_)
  refine ztA 7 24 (h := ?_)
  refine zpA 8 25 (h := ?_)
  refine join_ (σ := Nat) 2 #[true, true, true, true, true, true, true, true, true, true, true, true, true, true, false, false] (fun s_ => [(20, .agg #[.int .u64 t176, .int .u64 t177]), (26, .tuple #[.agg #[.int .u64 t178, .int .u64 t179], .bool true]), (9, .pointer (some ⟨s_, 0, none⟩)), (16, .tuple #[.agg #[.int .u64 t178, .int .u64 t179], .bool true]), (27, .agg #[.int .u64 t178, .int .u64 t179]), (28, .bool true)]) (fun s_ w' => (w'.cell? ⟨gb172, 0, none⟩ = some (.int .u64 a1_0) ∧ w'.cell? ⟨gb172, 1, none⟩ = some (.int .u8 a1_1) ∧ w'.cell? ⟨gb172, 2, none⟩ = some (.bool a1_2) ∧ w'.cell? ⟨gb172, 3, none⟩ = some (.int .u64 a1_3) ∧ w'.cell? ⟨gb172, 4, none⟩ = some (.int .i64 a1_4) ∧ w'.cell? ⟨gb171, 0, none⟩ = some (.int .u64 a0_0) ∧ w'.cell? ⟨gb171, 1, none⟩ = some (.int .u8 a0_1) ∧ w'.cell? ⟨gb171, 2, none⟩ = some (.bool a0_2) ∧ w'.cell? ⟨gb171, 3, none⟩ = some (.int .u64 a0_3) ∧ w'.cell? ⟨gb171, 4, none⟩ = some (.int .i64 a0_4)) ∧ (w'.heap[gb171]? = some (.cells #[.int .u64 a0_0, .int .u8 a0_1, .bool a0_2, .int .u64 a0_3, .int .i64 a0_4] 88 (0, 0))) ∧ (w'.heap[gb172]? = some (.cells #[.int .u64 a1_0, .int .u8 a1_1, .bool a1_2, .int .u64 a1_3, .int .i64 a1_4] 88 (0, 0))) ∧ (w'.heap[gb175]? = some (.cells #[.int .u64 t173, .int .u64 t174] 109 (0, 0))) ∧ (w'.heap[s_]? = some (.cells #[.int .u64 0, .int .u64 0] 109 (0, 0))) ∧ (w.heap.size ≤ s_) ∧ (w.heap.size ≤ s_) ∧ (gb171 ≠ s_) ∧ (s_ ≠ gb171) ∧ (gb172 ≠ s_) ∧ (s_ ≠ gb172) ∧ (gb175 ≠ s_) ∧ (s_ ≠ gb175) ∧ (Below w.heap.size w w')) ?_ ?_
  rotate_left
  ·intro hCont
   refine two_ (i := 3) (j := 13) (Ni := some 20) (Nj := some 9) #[true, true, true, true, true, true, true, true, true, false, false, false, false, false, false, false] #[true, true, true, false, true, true, true, true, true, false, false, false, false, true, false, false] rfl rfl rfl rfl (two_of HT_.out (by kernel_rfl)) (by decide) (by decide) (fun K hK => ?_) (fun K hK => ?_)
   ·skip
    refine zgA Try.func106 (wide_U128_Shl.calls k 0 a1_3 70 t176 t177 _ A5.out) (h := ?_)
    rintro w91 hb
    replace BK171 := zkb BK171 hb
    replace BK172 := zkb BK172 hb
    replace BK175 := zkb BK175 hb
    replace HB := zkB HB hb
    (try clear hb)
    refine hK.out _ _ (zk5 BK172 (ze5 BK171)) (fun hHeld => ?_)
    clear hK K
    refine znA 20 (h := ?_)
    refine two_ (i := 9) (j := 13) (Ni := some 26) (Nj := some 9) #[true, true, true, true, true, true, true, true, true, true, false, false, false, false, false, false] #[true, true, true, true, true, true, true, true, true, false, false, false, false, true, false, false] rfl rfl rfl rfl (two_of HT_.out (by kernel_rfl)) (by decide) (by decide) (fun K hK => ?_) (fun K hK => ?_)
    ·skip
     refine zgA Try.func151 (wide_U128_Shr.calls k t176 t177 (wrap64 (a0_4 - a1_4)) t178 t179 true _ A6.out) (h := ?_)
     rintro w92 hb
     replace BK171 := zkb BK171 hb
     replace BK172 := zkb BK172 hb
     replace BK175 := zkb BK175 hb
     replace HB := zkB HB hb
     (try clear hb)
     refine hK.out _ _ (zk5 BK172 (ze5 BK171)) (fun hHeld => ?_)
     clear hK K
     refine znA 26 (h := ?_)
     refine zpA 10 16 (h := ?_)
     refine zpA 11 27 (h := ?_)
     refine zpA 12 28 (h := ?_)
     refine zoA 13 9 (h := fun K hK => ?_)
     refine box_step ?hg (N := 9) ?hd (cs := #[.int .u64 0, .int .u64 0]) (t := 109) ?hr ?_; (case hd => rfl); (case hg => rfl); (case hr => first | (go_simp; done) | (go_simp; rfl))
     intro gb181 hg w93 hbox hb
     have GW181 := zkz HB hg
     have NB171_181 := zkl BK171 hg
     have NB181_171 := zkr BK171 hg
     have NB172_181 := zkl BK172 hg
     have NB181_172 := zkr BK172 hg
     have NB175_181 := zkl BK175 hg
     have NB181_175 := zkr BK175 hg
     replace BK171 := zkb BK171 hb
     replace BK172 := zkb BK172 hb
     replace BK175 := zkb BK175 hb
     replace HB := zkB HB hb
     have BK181 := Aside0.mk (hbox)
     clear hb hbox hg
     refine hK.out _ _ (zk5 BK172 (ze5 BK171)) (fun hHeld => ?_)
     clear hK K
     refine znA 9 (h := ?_)
     exact norm_ (by simp only [putAll, Act.put, List.setIfInBounds_toArray, List.set_cons_zero, List.set_cons_succ]) (hCont (gb181) _ ⟨hHeld, (zkq BK171), (zkq BK172), (zkq BK175), (zkq BK181), GW181.out, GW181.out, NB171_181.out, NB181_171.out, NB172_181.out, NB181_172.out, NB175_181.out, NB181_175.out, zaB⟩)
    skip
    refine box_step ?hg (N := 9) ?hd (cs := #[.int .u64 0, .int .u64 0]) (t := 109) ?hr ?_; (case hd => rfl); (case hg => rfl); (case hr => first | (go_simp; done) | (go_simp; rfl))
    intro gb181 hg w92 hbox hb
    have GW181 := zkz HB hg
    have NB171_181 := zkl BK171 hg
    have NB181_171 := zkr BK171 hg
    have NB172_181 := zkl BK172 hg
    have NB181_172 := zkr BK172 hg
    have NB175_181 := zkl BK175 hg
    have NB181_175 := zkr BK175 hg
    replace BK171 := zkb BK171 hb
    replace BK172 := zkb BK172 hb
    replace BK175 := zkb BK175 hb
    replace HB := zkB HB hb
    have BK181 := Aside0.mk (hbox)
    clear hb hbox hg
    refine hK.out _ _ (zk5 BK172 (ze5 BK171)) (fun hHeld => ?_)
    clear hK K
    refine znA 9 (h := ?_)
    refine zoA 9 26 (h := fun K hK => ?_)
    refine zgA Try.func151 (wide_U128_Shr.calls k t176 t177 (wrap64 (a0_4 - a1_4)) t178 t179 true _ A6.out) (h := ?_)
    rintro w93 hb
    replace BK171 := zkb BK171 hb
    replace BK172 := zkb BK172 hb
    replace BK175 := zkb BK175 hb
    replace BK181 := zkb BK181 hb
    replace HB := zkB HB hb
    (try clear hb)
    refine hK.out _ _ (zk5 BK172 (ze5 BK171)) (fun hHeld => ?_)
    clear hK K
    refine znA 26 (h := ?_)
    refine zpA 10 16 (h := ?_)
    refine zpA 11 27 (h := ?_)
    refine zpA 12 28 (h := ?_)
    exact norm_ (by simp only [putAll, Act.put, List.setIfInBounds_toArray, List.set_cons_zero, List.set_cons_succ]) (hCont (gb181) _ ⟨hHeld, (zkq BK171), (zkq BK172), (zkq BK175), (zkq BK181), GW181.out, GW181.out, NB171_181.out, NB181_171.out, NB172_181.out, NB181_172.out, NB175_181.out, NB181_175.out, zaB⟩)
   skip
   refine box_step ?hg (N := 9) ?hd (cs := #[.int .u64 0, .int .u64 0]) (t := 109) ?hr ?_; (case hd => rfl); (case hg => rfl); (case hr => first | (go_simp; done) | (go_simp; rfl))
   intro gb181 hg w91 hbox hb
   have GW181 := zkz HB hg
   have NB171_181 := zkl BK171 hg
   have NB181_171 := zkr BK171 hg
   have NB172_181 := zkl BK172 hg
   have NB181_172 := zkr BK172 hg
   have NB175_181 := zkl BK175 hg
   have NB181_175 := zkr BK175 hg
   replace BK171 := zkb BK171 hb
   replace BK172 := zkb BK172 hb
   replace BK175 := zkb BK175 hb
   replace HB := zkB HB hb
   have BK181 := Aside0.mk (hbox)
   clear hb hbox hg
   refine hK.out _ _ (zk5 BK172 (ze5 BK171)) (fun hHeld => ?_)
   clear hK K
   refine znA 9 (h := ?_)
   refine zoA 3 20 (h := fun K hK => ?_)
   refine zgA Try.func106 (wide_U128_Shl.calls k 0 a1_3 70 t176 t177 _ A5.out) (h := ?_)
   rintro w92 hb
   replace BK171 := zkb BK171 hb
   replace BK172 := zkb BK172 hb
   replace BK175 := zkb BK175 hb
   replace BK181 := zkb BK181 hb
   replace HB := zkB HB hb
   (try clear hb)
   refine hK.out _ _ (zk5 BK172 (ze5 BK171)) (fun hHeld => ?_)
   clear hK K
   refine znA 20 (h := ?_)
   refine zoA 9 26 (h := fun K hK => ?_)
   refine zgA Try.func151 (wide_U128_Shr.calls k t176 t177 (wrap64 (a0_4 - a1_4)) t178 t179 true _ A6.out) (h := ?_)
   rintro w93 hb
   replace BK171 := zkb BK171 hb
   replace BK172 := zkb BK172 hb
   replace BK175 := zkb BK175 hb
   replace BK181 := zkb BK181 hb
   replace HB := zkB HB hb
   (try clear hb)
   refine hK.out _ _ (zk5 BK172 (ze5 BK171)) (fun hHeld => ?_)
   clear hK K
   refine znA 26 (h := ?_)
   refine zpA 10 16 (h := ?_)
   refine zpA 11 27 (h := ?_)
   refine zpA 12 28 (h := ?_)
   exact norm_ (by simp only [putAll, Act.put, List.setIfInBounds_toArray, List.set_cons_zero, List.set_cons_succ]) (hCont (gb181) _ ⟨hHeld, (zkq BK171), (zkq BK172), (zkq BK175), (zkq BK181), GW181.out, GW181.out, NB171_181.out, NB181_171.out, NB172_181.out, NB181_172.out, NB175_181.out, NB181_175.out, zaB⟩)
  rintro gb181 w94 ⟨hS_, h0_, h1_, h2_, h3_, h4_, h5_, h6_, h7_, h8_, h9_, h10_, h11_, h12_⟩
  have n0_ : Aside0 (w94.heap[gb171]? = some (.cells #[.int .u64 a0_0, .int .u8 a0_1, .bool a0_2, .int .u64 a0_3, .int .i64 a0_4] 88 (0, 0))) := ⟨h0_⟩
  have n1_ : Aside0 (w94.heap[gb172]? = some (.cells #[.int .u64 a1_0, .int .u8 a1_1, .bool a1_2, .int .u64 a1_3, .int .i64 a1_4] 88 (0, 0))) := ⟨h1_⟩
  have n2_ : Aside0 (w94.heap[gb175]? = some (.cells #[.int .u64 t173, .int .u64 t174] 109 (0, 0))) := ⟨h2_⟩
  have n3_ : Aside0 (w94.heap[gb181]? = some (.cells #[.int .u64 0, .int .u64 0] 109 (0, 0))) := ⟨h3_⟩
  have n4_ : Aside0 (w.heap.size ≤ gb181) := ⟨h4_⟩
  have n5_ : Aside0 (w.heap.size ≤ gb181) := ⟨h5_⟩
  have n6_ : Aside0 (gb171 ≠ gb181) := ⟨h6_⟩
  have n7_ : Aside0 (gb181 ≠ gb171) := ⟨h7_⟩
  have n8_ : Aside0 (gb172 ≠ gb181) := ⟨h8_⟩
  have n9_ : Aside0 (gb181 ≠ gb172) := ⟨h9_⟩
  have n10_ : Aside0 (gb175 ≠ gb181) := ⟨h10_⟩
  have n11_ : Aside0 (gb181 ≠ gb175) := ⟨h11_⟩
  have n12_ : Aside0 (Below w.heap.size w w94) := ⟨h12_⟩
  clear BK171
  clear BK172
  clear BK175
  clear HB
  clear h0_ h1_ h2_ h3_ h4_ h5_ h6_ h7_ h8_ h9_ h10_ h11_ h12_
  have BK171 := n0_
  have BK172 := n1_
  have BK175 := n2_
  have BK181 := n3_
  have GW181 := n4_
  have GW181 := n5_
  have NB171_181 := n6_
  have NB181_171 := n7_
  have NB172_181 := n8_
  have NB181_172 := n9_
  have NB175_181 := n10_
  have NB181_175 := n11_
  have HB := n12_
  clear n0_ n1_ n2_ n3_ n4_ n5_ n6_ n7_ n8_ n9_ n10_ n11_ n12_
  have hHeld : w94.cell? ⟨gb172, 0, none⟩ = some (.int .u64 a1_0) ∧ w94.cell? ⟨gb172, 1, none⟩ = some (.int .u8 a1_1) ∧ w94.cell? ⟨gb172, 2, none⟩ = some (.bool a1_2) ∧ w94.cell? ⟨gb172, 3, none⟩ = some (.int .u64 a1_3) ∧ w94.cell? ⟨gb172, 4, none⟩ = some (.int .i64 a1_4) ∧ w94.cell? ⟨gb171, 0, none⟩ = some (.int .u64 a0_0) ∧ w94.cell? ⟨gb171, 1, none⟩ = some (.int .u8 a0_1) ∧ w94.cell? ⟨gb171, 2, none⟩ = some (.bool a0_2) ∧ w94.cell? ⟨gb171, 3, none⟩ = some (.int .u64 a0_3) ∧ w94.cell? ⟨gb171, 4, none⟩ = some (.int .i64 a0_4) := hS_
  refine norm_ (a' := ?_) ?_ ?_
  rotate_left
  ·simp only [putAll, Act.put, List.setIfInBounds_toArray, List.set_cons_zero, List.set_cons_succ]
   rfl
  refine one_ (i := 14) (N := none) #[true, true, true, true, true, true, true, true, true, true, true, true, true, true, true, false] rfl rfl (one_of HT_.out (by kernel_rfl)) (by decide) (fun K hK => ?_)
  have hs95 := zc0 BK181
  have hfs95 := blk_frozen BK181.out 0
  have hns95_0 := NB171_181.out
  have hns95_1 := NB172_181.out
  have hns95_2 := NB175_181.out
  have hms95_0 := NB181_171.out
  have hms95_1 := NB181_172.out
  have hms95_2 := NB181_175.out
  have hs96 := zc1 BK181
  have hfs96 := blk_frozen BK181.out 1
  have hns96_0 := NB171_181.out
  have hns96_1 := NB172_181.out
  have hns96_2 := NB175_181.out
  have hms96_0 := NB181_171.out
  have hms96_1 := NB181_172.out
  have hms96_2 := NB181_175.out
  refine skip_ (w1 := ?_) (by rfl) rfl ?_ ?_
  rotate_left
  ·go_simp
   rfl
  refine hK.out _ _ ⟨(zff NB172_181 (zff NB172_181 hHeld.1)), (zff NB172_181 (zff NB172_181 hHeld.2.1)), (zff NB172_181 (zff NB172_181 hHeld.2.2.1)), (zff NB172_181 (zff NB172_181 hHeld.2.2.2.1)), (zff NB172_181 (zff NB172_181 hHeld.2.2.2.2.1)), (zff NB171_181 (zff NB171_181 hHeld.2.2.2.2.2.1)), (zff NB171_181 (zff NB171_181 hHeld.2.2.2.2.2.2.1)), (zff NB171_181 (zff NB171_181 hHeld.2.2.2.2.2.2.2.1)), (zff NB171_181 (zff NB171_181 hHeld.2.2.2.2.2.2.2.2.1)), (zff NB171_181 (zff NB171_181 hHeld.2.2.2.2.2.2.2.2.2))⟩ (fun hHeld => ?_)
  clear hK K
  refine zpA 15 10 (h := ?_)
  refine done_ (done_of HT_.out (by kernel_rfl)) ?_
  try go_wp2_with (first | ((with_reducible refine gtd 11 rfl ?_); refine zbx 11 #[.int .u64 0, .int .u64 0] 109 (h := ?_); intro gb182 hg w97 hbox hb; have GW182 := zkZ hg (below_set (below_set HB.out GW181.out) GW181.out); have NB171_182 := zkL hg (zkf (zkf BK171.out NB171_181.out _) NB171_181.out _); have NB182_171 := zks NB171_182; have NB172_182 := zkL hg (zkf (zkf BK172.out NB172_181.out _) NB172_181.out _); have NB182_172 := zks NB172_182; have NB175_182 := zkL hg (zkf (zkf BK175.out NB175_181.out _) NB175_181.out _); have NB182_175 := zks NB175_182; have NB181_182 := zkL hg (ob := .cells #[.int .u64 t178, .int .u64 t179] 109 (0, 0)) (blk_put (cs := #[.int .u64 t178, .int .u64 0]) (blk_put BK181.out 0 _ rfl) 1 _ rfl); have NB182_181 := zks NB181_182; replace BK171 := Aside0.mk (blk_below (zkf (zkf BK171.out NB171_181.out _) NB171_181.out _) hb); replace BK172 := Aside0.mk (blk_below (zkf (zkf BK172.out NB172_181.out _) NB172_181.out _) hb); replace BK175 := Aside0.mk (blk_below (zkf (zkf BK175.out NB175_181.out _) NB175_181.out _) hb); replace BK181 := Aside0.mk (blk_below (o := .cells #[.int .u64 t178, .int .u64 t179] 109 (0, 0)) (blk_put (cs := #[.int .u64 t178, .int .u64 0]) (blk_put BK181.out 0 _ rfl) 1 _ rfl) hb); replace HB := Aside0.mk (below_step (below_set (below_set HB.out GW181.out) GW181.out) hb); have BK182 := Aside0.mk (hbox); clear hb hbox hg; obtain ⟨_, _⟩ := zsy NB171_181; obtain ⟨_, _⟩ := zsy NB171_182; obtain ⟨_, _, _, _, _, _, _, _, _, _⟩ := zq5 BK171; obtain ⟨_, _⟩ := zsy NB172_181; obtain ⟨_, _⟩ := zsy NB172_182; obtain ⟨_, _, _, _, _, _, _, _, _, _⟩ := zq5 BK172; obtain ⟨_, _⟩ := zsy NB175_181; obtain ⟨_, _⟩ := zsy NB175_182; obtain ⟨_, _, _, _⟩ := zq2 BK175; obtain ⟨_, _⟩ := zsy NB181_182; obtain ⟨_, _, _, _⟩ := zq2 BK181) | ((with_reducible refine gtc 153 rfl ?_); refine zgL 43 Try.func153 (wide_U128_Sub.calls t173 t174 t178 t179 t188 t189 t190 _ A43.out) (h := ?_); rintro w109 hb; replace BK171 := zkb BK171 hb; replace BK172 := zkb BK172 hb; replace BK175 := zkb BK175 hb; replace BK181 := zkb BK181 hb; replace BK182 := zkb BK182 hb; replace HB := zkB HB hb; (try clear hb); obtain ⟨_, _, _, _⟩ := zq2 BK182) | ((with_reducible refine gtc 153 rfl ?_); refine zgL 56 Try.func153 (wide_U128_Sub.calls t188 t189 0 1 t192 t193 t194 _ A78.out) (h := ?_); rintro w111 hb; replace BK171 := Aside0.mk (blk_below (zkf (zkf BK171.out NB171_182.out _) NB171_182.out _) hb); replace BK172 := Aside0.mk (blk_below (zkf (zkf BK172.out NB172_182.out _) NB172_182.out _) hb); replace BK175 := Aside0.mk (blk_below (zkf (zkf BK175.out NB175_182.out _) NB175_182.out _) hb); replace BK181 := Aside0.mk (blk_below (zkf (zkf BK181.out NB181_182.out _) NB181_182.out _) hb); replace BK182 := Aside0.mk (blk_below (o := .cells #[.int .u64 t188, .int .u64 t189] 109 (0, 0)) (blk_put (cs := #[.int .u64 t188, .int .u64 0]) (blk_put BK182.out 0 _ rfl) 1 _ rfl) hb); replace HB := Aside0.mk (below_step (below_set (below_set HB.out GW182.out) GW182.out) hb); (try clear hb); obtain ⟨_, _, _, _⟩ := zq2 BK182; obtain ⟨_, _, _, _, _, _, _, _, _, _⟩ := zq5 BK171) | ((with_reducible refine gtc 99 rfl ?_); refine zgL 67 Try.func99 (round_Round.calls k a0_2 t192 t193 (wrap64 (a0_4 - 70)) true a2 t195 t196 _ A79.out) (h := ?_); rintro w114 hb; replace BK171 := Aside0.mk (blk_below (zkf (zkf BK171.out NB171_182.out _) NB171_182.out _) hb); replace BK172 := Aside0.mk (blk_below (zkf (zkf BK172.out NB172_182.out _) NB172_182.out _) hb); replace BK175 := Aside0.mk (blk_below (zkf (zkf BK175.out NB175_182.out _) NB175_182.out _) hb); replace BK181 := Aside0.mk (blk_below (zkf (zkf BK181.out NB181_182.out _) NB181_182.out _) hb); replace BK182 := Aside0.mk (blk_below (o := .cells #[.int .u64 t192, .int .u64 t193] 109 (0, 0)) (blk_put (cs := #[.int .u64 t192, .int .u64 t189]) (blk_put BK182.out 0 _ rfl) 1 _ rfl) hb); replace HB := Aside0.mk (below_step (below_set (below_set HB.out GW182.out) GW182.out) hb); (try clear hb)))
  go_ret2
  exact ⟨zaE, zaB⟩
 replace c77 := Bool.eq_false_iff.mpr c77
 subst c77
 replace H := zif H
 obtain ⟨⟨t197, t198⟩, A115, H⟩ := zbs H
 try dsimp only at H
 simp only [Option.some.injEq, Prod.mk.injEq] at H
 obtain ⟨rfl, rfl⟩ := H
 go_enter Try.func86, Try.ntmps86
 try go_wp2_with (first | ((with_reducible refine gtd 3 rfl ?_); refine zbx 3 #[.int .u64 a0_0, .int .u8 a0_1, .bool a0_2, .int .u64 a0_3, .int .i64 a0_4] 88 (h := ?_); intro gb171 hg w116 hbox hb; have GW171 := zkZ hg (zaB (p := Below w.heap.size w _)); replace HB := Aside0.mk (below_step zaB hb); have BK171 := Aside0.mk (hbox); clear hb hbox hg) | ((with_reducible refine gtd 4 rfl ?_); refine zbx 4 #[.int .u64 a1_0, .int .u8 a1_1, .bool a1_2, .int .u64 a1_3, .int .i64 a1_4] 88 (h := ?_); intro gb172 hg w117 hbox hb; have GW172 := zkz HB hg; have NB171_172 := zkl BK171 hg; have NB172_171 := zkr BK171 hg; replace BK171 := zkb BK171 hb; replace HB := zkB HB hb; have BK172 := Aside0.mk (hbox); clear hb hbox hg; obtain ⟨_, _⟩ := zsy NB171_172; obtain ⟨_, _, _, _, _, _, _, _, _, _⟩ := zq5 BK171) | ((with_reducible refine gtc 106 rfl ?_); refine zgL 15 Try.func106 (wide_U128_Shl.calls k 0 a0_3 70 t173 t174 _ A4.out) (h := ?_); rintro w120 hb; replace BK171 := zkb BK171 hb; replace BK172 := zkb BK172 hb; replace HB := zkB HB hb; (try clear hb)) | ((with_reducible refine gtd 8 rfl ?_); refine zbx 8 #[.int .u64 0, .int .u64 0] 109 (h := ?_); intro gb175 hg w121 hbox hb; have GW175 := zkz HB hg; have NB171_175 := zkl BK171 hg; have NB175_171 := zkr BK171 hg; have NB172_175 := zkl BK172 hg; have NB175_172 := zkr BK172 hg; replace BK171 := zkb BK171 hb; replace BK172 := zkb BK172 hb; replace HB := zkB HB hb; have BK175 := Aside0.mk (hbox); clear hb hbox hg; obtain ⟨_, _⟩ := zsy NB175_171; obtain ⟨_, _⟩ := zsy NB175_172; obtain ⟨_, _, _, _⟩ := zq2 BK175))
 generalize hW_ : ((w121.setCell ⟨gb175, 0, none⟩ (.int .u64 t173)).setCell ⟨gb175, 1, none⟩ (.int .u64 t174)) = w125
 replace BK171 := zkg hW_ (zkf (zkf BK171.out NB171_175.out _) NB171_175.out _)
 replace BK172 := zkg hW_ (zkf (zkf BK172.out NB172_175.out _) NB172_175.out _)
 replace BK175 := zkg hW_ (ob := .cells #[.int .u64 t173, .int .u64 t174] 109 (0, 0)) (blk_put (cs := #[.int .u64 t173, .int .u64 0]) (blk_put BK175.out 0 _ rfl) 1 _ rfl)
 replace HB := zkG hW_ (below_set (below_set HB.out GW175.out) GW175.out)
 clear hW_
 replace BK171 := Aside0.mk (blk_drew BK171.out)
 replace BK172 := Aside0.mk (blk_drew BK172.out)
 replace BK175 := Aside0.mk (blk_drew BK175.out)
 replace HB := Aside0.mk (below_drew1 HB.out)
 refine start_ (n := 16) (S := fun w' => w'.cell? ⟨gb172, 0, none⟩ = some (.int .u64 a1_0) ∧ w'.cell? ⟨gb172, 1, none⟩ = some (.int .u8 a1_1) ∧ w'.cell? ⟨gb172, 2, none⟩ = some (.bool a1_2) ∧ w'.cell? ⟨gb172, 3, none⟩ = some (.int .u64 a1_3) ∧ w'.cell? ⟨gb172, 4, none⟩ = some (.int .i64 a1_4) ∧ w'.cell? ⟨gb171, 0, none⟩ = some (.int .u64 a0_0) ∧ w'.cell? ⟨gb171, 1, none⟩ = some (.int .u8 a0_1) ∧ w'.cell? ⟨gb171, 2, none⟩ = some (.bool a0_2) ∧ w'.cell? ⟨gb171, 3, none⟩ = some (.int .u64 a0_3) ∧ w'.cell? ⟨gb171, 4, none⟩ = some (.int .i64 a0_4)) (ds := []) #[false, false, false, false, false, false, false, false, false, false, false, false, false, false, false, false] (by kernel_rfl) rfl rfl (zk5 BK172 (ze5 BK171)) (fun hHeld => ?_); refine with_tabW soft_num_add.tab2 soft_num_add.bits2 (fun HT_ HW_ => ?_)
 generalize w125.drew = w126 at BK171 BK172 BK175 HB hHeld ⊢
 refine zpA 0 17 (h := ?_)
 refine zpA 4 21 (h := ?_)
 refine zpA 6 23 (h := ?_)
 refine ztA 1 18 (h := ?_)
 refine zpA 2 19 (h := ?_)
 refine ztA 5 22 (h := ?_)
 refine ztA 7 24 (h := ?_)
 refine zpA 8 25 (h := ?_)
 refine join_ (σ := Nat) 2 #[true, true, true, true, true, true, true, true, true, true, true, true, true, true, false, false] (fun s_ => [(20, .agg #[.int .u64 t176, .int .u64 t177]), (26, .tuple #[.agg #[.int .u64 t178, .int .u64 t179], .bool false]), (9, .pointer (some ⟨s_, 0, none⟩)), (16, .tuple #[.agg #[.int .u64 t178, .int .u64 t179], .bool false]), (27, .agg #[.int .u64 t178, .int .u64 t179]), (28, .bool false)]) (fun s_ w' => (w'.cell? ⟨gb172, 0, none⟩ = some (.int .u64 a1_0) ∧ w'.cell? ⟨gb172, 1, none⟩ = some (.int .u8 a1_1) ∧ w'.cell? ⟨gb172, 2, none⟩ = some (.bool a1_2) ∧ w'.cell? ⟨gb172, 3, none⟩ = some (.int .u64 a1_3) ∧ w'.cell? ⟨gb172, 4, none⟩ = some (.int .i64 a1_4) ∧ w'.cell? ⟨gb171, 0, none⟩ = some (.int .u64 a0_0) ∧ w'.cell? ⟨gb171, 1, none⟩ = some (.int .u8 a0_1) ∧ w'.cell? ⟨gb171, 2, none⟩ = some (.bool a0_2) ∧ w'.cell? ⟨gb171, 3, none⟩ = some (.int .u64 a0_3) ∧ w'.cell? ⟨gb171, 4, none⟩ = some (.int .i64 a0_4)) ∧ (w'.heap[gb171]? = some (.cells #[.int .u64 a0_0, .int .u8 a0_1, .bool a0_2, .int .u64 a0_3, .int .i64 a0_4] 88 (0, 0))) ∧ (w'.heap[gb172]? = some (.cells #[.int .u64 a1_0, .int .u8 a1_1, .bool a1_2, .int .u64 a1_3, .int .i64 a1_4] 88 (0, 0))) ∧ (w'.heap[gb175]? = some (.cells #[.int .u64 t173, .int .u64 t174] 109 (0, 0))) ∧ (w'.heap[s_]? = some (.cells #[.int .u64 0, .int .u64 0] 109 (0, 0))) ∧ (w.heap.size ≤ s_) ∧ (w.heap.size ≤ s_) ∧ (gb171 ≠ s_) ∧ (s_ ≠ gb171) ∧ (gb172 ≠ s_) ∧ (s_ ≠ gb172) ∧ (gb175 ≠ s_) ∧ (s_ ≠ gb175) ∧ (Below w.heap.size w w')) ?_ ?_
 rotate_left
 ·intro hCont
  refine two_ (i := 3) (j := 13) (Ni := some 20) (Nj := some 9) #[true, true, true, true, true, true, true, true, true, false, false, false, false, false, false, false] #[true, true, true, false, true, true, true, true, true, false, false, false, false, true, false, false] rfl rfl rfl rfl (two_of HT_.out (by kernel_rfl)) (by decide) (by decide) (fun K hK => ?_) (fun K hK => ?_)
  ·skip
   refine zgA Try.func106 (wide_U128_Shl.calls k 0 a1_3 70 t176 t177 _ A5.out) (h := ?_)
   rintro w127 hb
   replace BK171 := zkb BK171 hb
   replace BK172 := zkb BK172 hb
   replace BK175 := zkb BK175 hb
   replace HB := zkB HB hb
   (try clear hb)
   refine hK.out _ _ (zk5 BK172 (ze5 BK171)) (fun hHeld => ?_)
   clear hK K
   refine znA 20 (h := ?_)
   refine two_ (i := 9) (j := 13) (Ni := some 26) (Nj := some 9) #[true, true, true, true, true, true, true, true, true, true, false, false, false, false, false, false] #[true, true, true, true, true, true, true, true, true, false, false, false, false, true, false, false] rfl rfl rfl rfl (two_of HT_.out (by kernel_rfl)) (by decide) (by decide) (fun K hK => ?_) (fun K hK => ?_)
   ·skip
    refine zgA Try.func151 (wide_U128_Shr.calls k t176 t177 (wrap64 (a0_4 - a1_4)) t178 t179 false _ A6.out) (h := ?_)
    rintro w128 hb
    replace BK171 := zkb BK171 hb
    replace BK172 := zkb BK172 hb
    replace BK175 := zkb BK175 hb
    replace HB := zkB HB hb
    (try clear hb)
    refine hK.out _ _ (zk5 BK172 (ze5 BK171)) (fun hHeld => ?_)
    clear hK K
    refine znA 26 (h := ?_)
    refine zpA 10 16 (h := ?_)
    refine zpA 11 27 (h := ?_)
    refine zpA 12 28 (h := ?_)
    refine zoA 13 9 (h := fun K hK => ?_)
    refine box_step ?hg (N := 9) ?hd (cs := #[.int .u64 0, .int .u64 0]) (t := 109) ?hr ?_; (case hd => rfl); (case hg => rfl); (case hr => first | (go_simp; done) | (go_simp; rfl))
    intro gb181 hg w129 hbox hb
    have GW181 := zkz HB hg
    have NB171_181 := zkl BK171 hg
    have NB181_171 := zkr BK171 hg
    have NB172_181 := zkl BK172 hg
    have NB181_172 := zkr BK172 hg
    have NB175_181 := zkl BK175 hg
    have NB181_175 := zkr BK175 hg
    replace BK171 := zkb BK171 hb
    replace BK172 := zkb BK172 hb
    replace BK175 := zkb BK175 hb
    replace HB := zkB HB hb
    have BK181 := Aside0.mk (hbox)
    clear hb hbox hg
    refine hK.out _ _ (zk5 BK172 (ze5 BK171)) (fun hHeld => ?_)
    clear hK K
    refine znA 9 (h := ?_)
    exact norm_ (by simp only [putAll, Act.put, List.setIfInBounds_toArray, List.set_cons_zero, List.set_cons_succ]) (hCont (gb181) _ ⟨hHeld, (zkq BK171), (zkq BK172), (zkq BK175), (zkq BK181), GW181.out, GW181.out, NB171_181.out, NB181_171.out, NB172_181.out, NB181_172.out, NB175_181.out, NB181_175.out, zaB⟩)
   skip
   refine box_step ?hg (N := 9) ?hd (cs := #[.int .u64 0, .int .u64 0]) (t := 109) ?hr ?_; (case hd => rfl); (case hg => rfl); (case hr => first | (go_simp; done) | (go_simp; rfl))
   intro gb181 hg w128 hbox hb
   have GW181 := zkz HB hg
   have NB171_181 := zkl BK171 hg
   have NB181_171 := zkr BK171 hg
   have NB172_181 := zkl BK172 hg
   have NB181_172 := zkr BK172 hg
   have NB175_181 := zkl BK175 hg
   have NB181_175 := zkr BK175 hg
   replace BK171 := zkb BK171 hb
   replace BK172 := zkb BK172 hb
   replace BK175 := zkb BK175 hb
   replace HB := zkB HB hb
   have BK181 := Aside0.mk (hbox)
   clear hb hbox hg
   refine hK.out _ _ (zk5 BK172 (ze5 BK171)) (fun hHeld => ?_)
   clear hK K
   refine znA 9 (h := ?_)
   refine zoA 9 26 (h := fun K hK => ?_)
   refine zgA Try.func151 (wide_U128_Shr.calls k t176 t177 (wrap64 (a0_4 - a1_4)) t178 t179 false _ A6.out) (h := ?_)
   rintro w129 hb
   replace BK171 := zkb BK171 hb
   replace BK172 := zkb BK172 hb
   replace BK175 := zkb BK175 hb
   replace BK181 := zkb BK181 hb
   replace HB := zkB HB hb
   (try clear hb)
   refine hK.out _ _ (zk5 BK172 (ze5 BK171)) (fun hHeld => ?_)
   clear hK K
   refine znA 26 (h := ?_)
   refine zpA 10 16 (h := ?_)
   refine zpA 11 27 (h := ?_)
   refine zpA 12 28 (h := ?_)
   exact norm_ (by simp only [putAll, Act.put, List.setIfInBounds_toArray, List.set_cons_zero, List.set_cons_succ]) (hCont (gb181) _ ⟨hHeld, (zkq BK171), (zkq BK172), (zkq BK175), (zkq BK181), GW181.out, GW181.out, NB171_181.out, NB181_171.out, NB172_181.out, NB181_172.out, NB175_181.out, NB181_175.out, zaB⟩)
  skip
  refine box_step ?hg (N := 9) ?hd (cs := #[.int .u64 0, .int .u64 0]) (t := 109) ?hr ?_; (case hd => rfl); (case hg => rfl); (case hr => first | (go_simp; done) | (go_simp; rfl))
  intro gb181 hg w127 hbox hb
  have GW181 := zkz HB hg
  have NB171_181 := zkl BK171 hg
  have NB181_171 := zkr BK171 hg
  have NB172_181 := zkl BK172 hg
  have NB181_172 := zkr BK172 hg
  have NB175_181 := zkl BK175 hg
  have NB181_175 := zkr BK175 hg
  replace BK171 := zkb BK171 hb
  replace BK172 := zkb BK172 hb
  replace BK175 := zkb BK175 hb
  replace HB := zkB HB hb
  have BK181 := Aside0.mk (hbox)
  clear hb hbox hg
  refine hK.out _ _ (zk5 BK172 (ze5 BK171)) (fun hHeld => ?_)
  clear hK K
  refine znA 9 (h := ?_)
  refine zoA 3 20 (h := fun K hK => ?_)
  refine zgA Try.func106 (wide_U128_Shl.calls k 0 a1_3 70 t176 t177 _ A5.out) (h := ?_)
  rintro w128 hb
  replace BK171 := zkb BK171 hb
  replace BK172 := zkb BK172 hb
  replace BK175 := zkb BK175 hb
  replace BK181 := zkb BK181 hb
  replace HB := zkB HB hb
  (try clear hb)
  refine hK.out _ _ (zk5 BK172 (ze5 BK171)) (fun hHeld => ?_)
  clear hK K
  refine znA 20 (h := ?_)
  refine zoA 9 26 (h := fun K hK => ?_)
  refine zgA Try.func151 (wide_U128_Shr.calls k t176 t177 (wrap64 (a0_4 - a1_4)) t178 t179 false _ A6.out) (h := ?_)
  rintro w129 hb
  replace BK171 := zkb BK171 hb
  replace BK172 := zkb BK172 hb
  replace BK175 := zkb BK175 hb
  replace BK181 := zkb BK181 hb
  replace HB := zkB HB hb
  (try clear hb)
  refine hK.out _ _ (zk5 BK172 (ze5 BK171)) (fun hHeld => ?_)
  clear hK K
  refine znA 26 (h := ?_)
  refine zpA 10 16 (h := ?_)
  refine zpA 11 27 (h := ?_)
  refine zpA 12 28 (h := ?_)
  exact norm_ (by simp only [putAll, Act.put, List.setIfInBounds_toArray, List.set_cons_zero, List.set_cons_succ]) (hCont (gb181) _ ⟨hHeld, (zkq BK171), (zkq BK172), (zkq BK175), (zkq BK181), GW181.out, GW181.out, NB171_181.out, NB181_171.out, NB172_181.out, NB181_172.out, NB175_181.out, NB181_175.out, zaB⟩)
 rintro gb181 w130 ⟨hS_, h0_, h1_, h2_, h3_, h4_, h5_, h6_, h7_, h8_, h9_, h10_, h11_, h12_⟩
 have n0_ : Aside0 (w130.heap[gb171]? = some (.cells #[.int .u64 a0_0, .int .u8 a0_1, .bool a0_2, .int .u64 a0_3, .int .i64 a0_4] 88 (0, 0))) := ⟨h0_⟩
 have n1_ : Aside0 (w130.heap[gb172]? = some (.cells #[.int .u64 a1_0, .int .u8 a1_1, .bool a1_2, .int .u64 a1_3, .int .i64 a1_4] 88 (0, 0))) := ⟨h1_⟩
 have n2_ : Aside0 (w130.heap[gb175]? = some (.cells #[.int .u64 t173, .int .u64 t174] 109 (0, 0))) := ⟨h2_⟩
 have n3_ : Aside0 (w130.heap[gb181]? = some (.cells #[.int .u64 0, .int .u64 0] 109 (0, 0))) := ⟨h3_⟩
 have n4_ : Aside0 (w.heap.size ≤ gb181) := ⟨h4_⟩
 have n5_ : Aside0 (w.heap.size ≤ gb181) := ⟨h5_⟩
 have n6_ : Aside0 (gb171 ≠ gb181) := ⟨h6_⟩
 have n7_ : Aside0 (gb181 ≠ gb171) := ⟨h7_⟩
 have n8_ : Aside0 (gb172 ≠ gb181) := ⟨h8_⟩
 have n9_ : Aside0 (gb181 ≠ gb172) := ⟨h9_⟩
 have n10_ : Aside0 (gb175 ≠ gb181) := ⟨h10_⟩
 have n11_ : Aside0 (gb181 ≠ gb175) := ⟨h11_⟩
 have n12_ : Aside0 (Below w.heap.size w w130) := ⟨h12_⟩
 clear BK171
 clear BK172
 clear BK175
 clear HB
 clear h0_ h1_ h2_ h3_ h4_ h5_ h6_ h7_ h8_ h9_ h10_ h11_ h12_
 have BK171 := n0_
 have BK172 := n1_
 have BK175 := n2_
 have BK181 := n3_
 have GW181 := n4_
 have GW181 := n5_
 have NB171_181 := n6_
 have NB181_171 := n7_
 have NB172_181 := n8_
 have NB181_172 := n9_
 have NB175_181 := n10_
 have NB181_175 := n11_
 have HB := n12_
 clear n0_ n1_ n2_ n3_ n4_ n5_ n6_ n7_ n8_ n9_ n10_ n11_ n12_
 have hHeld : w130.cell? ⟨gb172, 0, none⟩ = some (.int .u64 a1_0) ∧ w130.cell? ⟨gb172, 1, none⟩ = some (.int .u8 a1_1) ∧ w130.cell? ⟨gb172, 2, none⟩ = some (.bool a1_2) ∧ w130.cell? ⟨gb172, 3, none⟩ = some (.int .u64 a1_3) ∧ w130.cell? ⟨gb172, 4, none⟩ = some (.int .i64 a1_4) ∧ w130.cell? ⟨gb171, 0, none⟩ = some (.int .u64 a0_0) ∧ w130.cell? ⟨gb171, 1, none⟩ = some (.int .u8 a0_1) ∧ w130.cell? ⟨gb171, 2, none⟩ = some (.bool a0_2) ∧ w130.cell? ⟨gb171, 3, none⟩ = some (.int .u64 a0_3) ∧ w130.cell? ⟨gb171, 4, none⟩ = some (.int .i64 a0_4) := hS_
 refine norm_ (a' := ?_) ?_ ?_
 rotate_left
 ·simp only [putAll, Act.put, List.setIfInBounds_toArray, List.set_cons_zero, List.set_cons_succ]
  rfl
 refine one_ (i := 14) (N := none) #[true, true, true, true, true, true, true, true, true, true, true, true, true, true, true, false] rfl rfl (one_of HT_.out (by kernel_rfl)) (by decide) (fun K hK => ?_)
 have hs131 := zc0 BK181
 have hfs131 := blk_frozen BK181.out 0
 have hns131_0 := NB171_181.out
 have hns131_1 := NB172_181.out
 have hns131_2 := NB175_181.out
 have hms131_0 := NB181_171.out
 have hms131_1 := NB181_172.out
 have hms131_2 := NB181_175.out
 have hs132 := zc1 BK181
 have hfs132 := blk_frozen BK181.out 1
 have hns132_0 := NB171_181.out
 have hns132_1 := NB172_181.out
 have hns132_2 := NB175_181.out
 have hms132_0 := NB181_171.out
 have hms132_1 := NB181_172.out
 have hms132_2 := NB181_175.out
 refine skip_ (w1 := ?_) (by rfl) rfl ?_ ?_
 rotate_left
 ·go_simp
  rfl
 refine hK.out _ _ ⟨(zff NB172_181 (zff NB172_181 hHeld.1)), (zff NB172_181 (zff NB172_181 hHeld.2.1)), (zff NB172_181 (zff NB172_181 hHeld.2.2.1)), (zff NB172_181 (zff NB172_181 hHeld.2.2.2.1)), (zff NB172_181 (zff NB172_181 hHeld.2.2.2.2.1)), (zff NB171_181 (zff NB171_181 hHeld.2.2.2.2.2.1)), (zff NB171_181 (zff NB171_181 hHeld.2.2.2.2.2.2.1)), (zff NB171_181 (zff NB171_181 hHeld.2.2.2.2.2.2.2.1)), (zff NB171_181 (zff NB171_181 hHeld.2.2.2.2.2.2.2.2.1)), (zff NB171_181 (zff NB171_181 hHeld.2.2.2.2.2.2.2.2.2))⟩ (fun hHeld => ?_)
 clear hK K
 refine zpA 15 10 (h := ?_)
 refine done_ (done_of HT_.out (by kernel_rfl)) ?_
 try go_wp2_with (first | ((with_reducible refine gtd 11 rfl ?_); refine zbx 11 #[.int .u64 0, .int .u64 0] 109 (h := ?_); intro gb182 hg w133 hbox hb; have GW182 := zkZ hg (below_set (below_set HB.out GW181.out) GW181.out); have NB171_182 := zkL hg (zkf (zkf BK171.out NB171_181.out _) NB171_181.out _); have NB182_171 := zks NB171_182; have NB172_182 := zkL hg (zkf (zkf BK172.out NB172_181.out _) NB172_181.out _); have NB182_172 := zks NB172_182; have NB175_182 := zkL hg (zkf (zkf BK175.out NB175_181.out _) NB175_181.out _); have NB182_175 := zks NB175_182; have NB181_182 := zkL hg (ob := .cells #[.int .u64 t178, .int .u64 t179] 109 (0, 0)) (blk_put (cs := #[.int .u64 t178, .int .u64 0]) (blk_put BK181.out 0 _ rfl) 1 _ rfl); have NB182_181 := zks NB181_182; replace BK171 := Aside0.mk (blk_below (zkf (zkf BK171.out NB171_181.out _) NB171_181.out _) hb); replace BK172 := Aside0.mk (blk_below (zkf (zkf BK172.out NB172_181.out _) NB172_181.out _) hb); replace BK175 := Aside0.mk (blk_below (zkf (zkf BK175.out NB175_181.out _) NB175_181.out _) hb); replace BK181 := Aside0.mk (blk_below (o := .cells #[.int .u64 t178, .int .u64 t179] 109 (0, 0)) (blk_put (cs := #[.int .u64 t178, .int .u64 0]) (blk_put BK181.out 0 _ rfl) 1 _ rfl) hb); replace HB := Aside0.mk (below_step (below_set (below_set HB.out GW181.out) GW181.out) hb); have BK182 := Aside0.mk (hbox); clear hb hbox hg; obtain ⟨_, _⟩ := zsy NB171_181; obtain ⟨_, _⟩ := zsy NB171_182; obtain ⟨_, _, _, _, _, _, _, _, _, _⟩ := zq5 BK171; obtain ⟨_, _⟩ := zsy NB172_181; obtain ⟨_, _⟩ := zsy NB172_182; obtain ⟨_, _, _, _, _, _, _, _, _, _⟩ := zq5 BK172; obtain ⟨_, _⟩ := zsy NB175_181; obtain ⟨_, _⟩ := zsy NB175_182; obtain ⟨_, _, _, _⟩ := zq2 BK175; obtain ⟨_, _⟩ := zsy NB181_182; obtain ⟨_, _, _, _⟩ := zq2 BK181) | ((with_reducible refine gtc 153 rfl ?_); refine zgL 43 Try.func153 (wide_U128_Sub.calls t173 t174 t178 t179 t188 t189 t190 _ A43.out) (h := ?_); rintro w145 hb; replace BK171 := zkb BK171 hb; replace BK172 := zkb BK172 hb; replace BK175 := zkb BK175 hb; replace BK181 := zkb BK181 hb; replace BK182 := zkb BK182 hb; replace HB := zkB HB hb; (try clear hb); obtain ⟨_, _, _, _⟩ := zq2 BK182; obtain ⟨_, _, _, _, _, _, _, _, _, _⟩ := zq5 BK171) | ((with_reducible refine gtc 99 rfl ?_); refine zgL 67 Try.func99 (round_Round.calls k a0_2 t188 t189 (wrap64 (a0_4 - 70)) false a2 t197 t198 _ A115.out) (h := ?_); rintro w148 hb; replace BK171 := Aside0.mk (blk_below (zkf (zkf BK171.out NB171_182.out _) NB171_182.out _) hb); replace BK172 := Aside0.mk (blk_below (zkf (zkf BK172.out NB172_182.out _) NB172_182.out _) hb); replace BK175 := Aside0.mk (blk_below (zkf (zkf BK175.out NB175_182.out _) NB175_182.out _) hb); replace BK181 := Aside0.mk (blk_below (zkf (zkf BK181.out NB181_182.out _) NB181_182.out _) hb); replace BK182 := Aside0.mk (blk_below (o := .cells #[.int .u64 t188, .int .u64 t189] 109 (0, 0)) (blk_put (cs := #[.int .u64 t188, .int .u64 0]) (blk_put BK182.out 0 _ rfl) 1 _ rfl) hb); replace HB := Aside0.mk (below_step (below_set (below_set HB.out GW182.out) GW182.out) hb); (try clear hb)))
 go_ret2
 exact ⟨zaE, zaB⟩
end Go.Proofs.Ytmadjhmecfbcmaa.F
end
section
namespace Go.Proofs.Ytmadjhmecfbcmaa.F
open Go.RowKit Go.Proofs.YtmadjhmecfbcmaaW.PrintWords Go.Proofs.YtmadjhmecfbcmaaW.PrintLast Go.Proofs.YtmadjhmecfbcmaaW.PrintMore
attribute [local go_sem] max2_int min2_int max_two min_two max_three min_three max_four min_four
set_option linter.unusedVariables false
set_option linter.unusedSimpArgs false
set_option maxHeartbeats 8000000
set_option maxRecDepth 100000
theorem soft_Add.calls (k : Nat) (a0 : Int) (a1 : Int) (a2 : Int) (r1 : Int) (r2 : Int) (w : World) (h : soft_Add.f k a0 a1 a2 = some (r1, r2)) :
  Calls Try.prog 21 #[.int .u64 a0, .int .u64 a1, .int .u8 a2] w fun e w' => e = .returned (.tuple #[.int .u64 r1, .int .u8 r2]) ∧ Below w.heap.size w w' := by
 have hu88 := Try.underlying88
 have HB := Aside0.mk (Below.refl w.heap.size w)
 have H : ((soft_of.f k a0).bind fun bt199 => ((soft_of.f k a1).bind fun bt204 => ((soft_either.f bt199.1 bt199.2.1 bt199.2.2.1 bt199.2.2.2.1 bt199.2.2.2.2 bt204.1 bt204.2.1 bt204.2.2.1 bt204.2.2.2.1 bt204.2.2.2.2 4).bind fun t211 => (if t211 = true then ((pattern_Quiet.f).bind fun t212 => (some (t212, 0))) else (if bt199.2.1 = 3 then (if bt204.2.1 = 3 then (soft_Add.j0 k a0 a1 a2 (bt199.2.2.1 != bt204.2.2.1) bt199.1 bt199.2.1 bt199.2.2.1 bt199.2.2.2.1 bt199.2.2.2.2 bt204.1 bt204.2.1 bt204.2.2.1 bt204.2.2.2.1 bt204.2.2.2.2) else (soft_Add.j0 k a0 a1 a2 false bt199.1 bt199.2.1 bt199.2.2.1 bt199.2.2.2.1 bt199.2.2.2.2 bt204.1 bt204.2.1 bt204.2.2.1 bt204.2.2.2.1 bt204.2.2.2.2)) else (soft_Add.j0 k a0 a1 a2 false bt199.1 bt199.2.1 bt199.2.2.1 bt199.2.2.2.1 bt199.2.2.2.2 bt204.1 bt204.2.1 bt204.2.2.1 bt204.2.2.2.1 bt204.2.2.2.2)))))) = some (r1, r2) := h
 clear h
 obtain ⟨⟨t199, t200, t201, t202, t203⟩, A4, H⟩ := zbs H
 try dsimp only at H
 obtain ⟨⟨t204, t205, t206, t207, t208⟩, A5, H⟩ := zbs H
 try dsimp only at H
 obtain ⟨t211, A6, H⟩ := zbs H
 try dsimp only at H
 by_cases c7 : t211 = true
 ·subst c7
  replace H := zit H
  obtain ⟨t212, A8, H⟩ := zbs H
  try dsimp only at H
  simp only [Option.some.injEq, Prod.mk.injEq] at H
  obtain ⟨rfl, rfl⟩ := H
  go_enter Try.func21, Try.ntmps21
  go_wp2_with (first | ((with_reducible refine gtc 82 rfl ?_); refine zgL 11 Try.func82 (soft_of.calls k a0 t199 t200 t201 t202 t203 _ A4.out) (h := ?_); rintro w9 hb; replace HB := Aside0.mk (below_step zaB hb); (try clear hb)) | ((with_reducible refine gtc 82 rfl ?_); refine zgL 13 Try.func82 (soft_of.calls k a1 t204 t205 t206 t207 t208 _ A5.out) (h := ?_); rintro w10 hb; replace HB := Aside0.mk (below_step zaB hb); (try clear hb)) | ((with_reducible refine gtd 8 rfl ?_); refine zbx 8 #[.int .u64 0, .int .u8 0, .bool false, .int .u64 0, .int .i64 0] 88 (h := ?_); intro gb209 hg w11 hbox hb; have GW209 := zkZ hg (zaB (p := Below w.heap.size w _)); replace HB := Aside0.mk (below_step zaB hb); have BK209 := Aside0.mk (hbox); clear hb hbox hg) | ((with_reducible refine gtd 9 rfl ?_); refine zbx 9 #[.int .u64 0, .int .u8 0, .bool false, .int .u64 0, .int .i64 0] 88 (h := ?_); intro gb210 hg w12 hbox hb; have GW210 := zkz HB hg; have NB209_210 := zkl BK209 hg; have NB210_209 := zkr BK209 hg; replace BK209 := zkb BK209 hb; replace HB := zkB HB hb; have BK210 := Aside0.mk (hbox); clear hb hbox hg; obtain ⟨_, _⟩ := zsy NB209_210; obtain ⟨z14_0, z14_1, z14_2, z14_3, z14_4, f14_0, f14_1, f14_2, f14_3, f14_4⟩ := zq5 BK209; obtain ⟨z15_0, z15_1, z15_2, z15_3, z15_4, f15_0, f15_1, f15_2, f15_3, f15_4⟩ := zq5 BK210) | ((with_reducible refine gtc 83 rfl ?_); refine zgL 17 Try.func83 (soft_either.calls t199 t200 t201 t202 t203 t204 t205 t206 t207 t208 4 true _ A6.out) (h := ?_); rintro w16 hb; replace BK209 := Aside0.mk (blk_below (o := .cells #[.int .u64 t199, .int .u8 t200, .bool t201, .int .u64 t202, .int .i64 t203] 88 (0, 0)) (zkf (zkf (zkf (zkf (zkf (blk_put (cs := #[.int .u64 t199, .int .u8 t200, .bool t201, .int .u64 t202, .int .i64 0]) (blk_put (cs := #[.int .u64 t199, .int .u8 t200, .bool t201, .int .u64 0, .int .i64 0]) (blk_put (cs := #[.int .u64 t199, .int .u8 t200, .bool false, .int .u64 0, .int .i64 0]) (blk_put (cs := #[.int .u64 t199, .int .u8 0, .bool false, .int .u64 0, .int .i64 0]) (blk_put BK209.out 0 _ rfl) 1 _ rfl) 2 _ rfl) 3 _ rfl) 4 _ rfl) NB209_210.out _) NB209_210.out _) NB209_210.out _) NB209_210.out _) NB209_210.out _) hb); replace BK210 := Aside0.mk (blk_below (o := .cells #[.int .u64 t204, .int .u8 t205, .bool t206, .int .u64 t207, .int .i64 t208] 88 (0, 0)) (blk_put (cs := #[.int .u64 t204, .int .u8 t205, .bool t206, .int .u64 t207, .int .i64 0]) (blk_put (cs := #[.int .u64 t204, .int .u8 t205, .bool t206, .int .u64 0, .int .i64 0]) (blk_put (cs := #[.int .u64 t204, .int .u8 t205, .bool false, .int .u64 0, .int .i64 0]) (blk_put (cs := #[.int .u64 t204, .int .u8 0, .bool false, .int .u64 0, .int .i64 0]) (blk_put (zkf (zkf (zkf (zkf (zkf BK210.out NB210_209.out _) NB210_209.out _) NB210_209.out _) NB210_209.out _) NB210_209.out _) 0 _ rfl) 1 _ rfl) 2 _ rfl) 3 _ rfl) 4 _ rfl) hb); replace HB := Aside0.mk (below_step (below_set (below_set (below_set (below_set (below_set (below_set (below_set (below_set (below_set (below_set HB.out GW209.out) GW209.out) GW209.out) GW209.out) GW209.out) GW210.out) GW210.out) GW210.out) GW210.out) GW210.out) hb); (try clear hb)) | ((with_reducible refine gtc 81 rfl ?_); refine zgL 18 Try.func81 (pattern_Quiet.calls  t212 _ A8.out) (h := ?_); rintro w' ⟨nd, rfl⟩))
  go_ret2
  exact ⟨zaE, zaB⟩
 replace c7 := Bool.eq_false_iff.mpr c7
 subst c7
 replace H := zif H
 have HC17 := Aside0.mk H
 clear H
 go_enter Try.func21, Try.ntmps21
 go_upto_region 4 with (first | ((with_reducible refine gtc 82 rfl ?_); refine zgL 11 Try.func82 (soft_of.calls k a0 t199 t200 t201 t202 t203 _ A4.out) (h := ?_); rintro w18 hb; replace HB := Aside0.mk (below_step zaB hb); (try clear hb)) | ((with_reducible refine gtc 82 rfl ?_); refine zgL 13 Try.func82 (soft_of.calls k a1 t204 t205 t206 t207 t208 _ A5.out) (h := ?_); rintro w19 hb; replace HB := Aside0.mk (below_step zaB hb); (try clear hb)) | ((with_reducible refine gtd 8 rfl ?_); refine zbx 8 #[.int .u64 0, .int .u8 0, .bool false, .int .u64 0, .int .i64 0] 88 (h := ?_); intro gb209 hg w20 hbox hb; have GW209 := zkZ hg (zaB (p := Below w.heap.size w _)); replace HB := Aside0.mk (below_step zaB hb); have BK209 := Aside0.mk (hbox); clear hb hbox hg) | ((with_reducible refine gtd 9 rfl ?_); refine zbx 9 #[.int .u64 0, .int .u8 0, .bool false, .int .u64 0, .int .i64 0] 88 (h := ?_); intro gb210 hg w21 hbox hb; have GW210 := zkz HB hg; have NB209_210 := zkl BK209 hg; have NB210_209 := zkr BK209 hg; replace BK209 := zkb BK209 hb; replace HB := zkB HB hb; have BK210 := Aside0.mk (hbox); clear hb hbox hg; obtain ⟨_, _⟩ := zsy NB209_210; obtain ⟨z23_0, z23_1, z23_2, z23_3, z23_4, f23_0, f23_1, f23_2, f23_3, f23_4⟩ := zq5 BK209; obtain ⟨z24_0, z24_1, z24_2, z24_3, z24_4, f24_0, f24_1, f24_2, f24_3, f24_4⟩ := zq5 BK210) | ((with_reducible refine gtc 83 rfl ?_); refine zgL 17 Try.func83 (soft_either.calls t199 t200 t201 t202 t203 t204 t205 t206 t207 t208 4 false _ A6.out) (h := ?_); rintro w25 hb; replace BK209 := Aside0.mk (blk_below (o := .cells #[.int .u64 t199, .int .u8 t200, .bool t201, .int .u64 t202, .int .i64 t203] 88 (0, 0)) (zkf (zkf (zkf (zkf (zkf (blk_put (cs := #[.int .u64 t199, .int .u8 t200, .bool t201, .int .u64 t202, .int .i64 0]) (blk_put (cs := #[.int .u64 t199, .int .u8 t200, .bool t201, .int .u64 0, .int .i64 0]) (blk_put (cs := #[.int .u64 t199, .int .u8 t200, .bool false, .int .u64 0, .int .i64 0]) (blk_put (cs := #[.int .u64 t199, .int .u8 0, .bool false, .int .u64 0, .int .i64 0]) (blk_put BK209.out 0 _ rfl) 1 _ rfl) 2 _ rfl) 3 _ rfl) 4 _ rfl) NB209_210.out _) NB209_210.out _) NB209_210.out _) NB209_210.out _) NB209_210.out _) hb); replace BK210 := Aside0.mk (blk_below (o := .cells #[.int .u64 t204, .int .u8 t205, .bool t206, .int .u64 t207, .int .i64 t208] 88 (0, 0)) (blk_put (cs := #[.int .u64 t204, .int .u8 t205, .bool t206, .int .u64 t207, .int .i64 0]) (blk_put (cs := #[.int .u64 t204, .int .u8 t205, .bool t206, .int .u64 0, .int .i64 0]) (blk_put (cs := #[.int .u64 t204, .int .u8 t205, .bool false, .int .u64 0, .int .i64 0]) (blk_put (cs := #[.int .u64 t204, .int .u8 0, .bool false, .int .u64 0, .int .i64 0]) (blk_put (zkf (zkf (zkf (zkf (zkf BK210.out NB210_209.out _) NB210_209.out _) NB210_209.out _) NB210_209.out _) NB210_209.out _) 0 _ rfl) 1 _ rfl) 2 _ rfl) 3 _ rfl) 4 _ rfl) hb); replace HB := Aside0.mk (below_step (below_set (below_set (below_set (below_set (below_set (below_set (below_set (below_set (below_set (below_set HB.out GW209.out) GW209.out) GW209.out) GW209.out) GW209.out) GW210.out) GW210.out) GW210.out) GW210.out) GW210.out) hb); (try clear hb)))
 (try simp only [Act.put, List.setIfInBounds_toArray, List.set_cons_zero, List.set_cons_succ])
 go_cut [19] (fun v19 wc => ∃ (kq : Nat) (x19_16 : Bool), v19 = .bool x19_16 ∧ Aside0 (soft_Add.j0 kq a0 a1 a2 x19_16 t199 t200 t201 t202 t203 t204 t205 t206 t207 t208 = some (r1, r2)) ∧ Aside0 (kq ≤ k) ∧ Aside0 (wc.heap[gb209]? = some (.cells #[.int .u64 t199, .int .u8 t200, .bool t201, .int .u64 t202, .int .i64 t203] 88 (0, 0))) ∧ Aside0 (wc.heap[gb210]? = some (.cells #[.int .u64 t204, .int .u8 t205, .bool t206, .int .u64 t207, .int .i64 t208] 88 (0, 0))) ∧ Aside0 (Below w.heap.size w wc))
 case first =>
  have H := HC17.out
  clear HC17
  by_cases c26 : t200 = 3
  ·rw [if_pos c26] at H
   have c26b0 : (t200 == 3) = true := beq_iff_eq.mpr c26
   have c26b1 : (t200 != 3) = false := bne_eq_false_iff_eq.mpr c26
   clear c26
   (first | rw [c26b0] | (simp only [i64_w, i32_w]; rw [c26b0]) | skip)
   by_cases c27 : t205 = 3
   ·rw [if_pos c27] at H
    have c27b0 : (t205 == 3) = true := beq_iff_eq.mpr c27
    have c27b1 : (t205 != 3) = false := bne_eq_false_iff_eq.mpr c27
    clear c27
    have H' := Aside0.mk H
    clear H
    obtain ⟨_, _⟩ := zsy NB209_210
    obtain ⟨z29_0, z29_1, z29_2, z29_3, z29_4, f29_0, f29_1, f29_2, f29_3, f29_4⟩ := zq5 BK209
    obtain ⟨z30_0, z30_1, z30_2, z30_3, z30_4, f30_0, f30_1, f30_2, f30_3, f30_4⟩ := zq5 BK210
    go_wp2
    go_meet
    case rel => exact ⟨_, ((t201 != t206)), zrl, H', ⟨zle⟩, ⟨zkq BK209⟩, ⟨zkq BK210⟩, ⟨zaB⟩⟩
   rw [if_neg c27] at H
   have c27b0 : (t205 == 3) = false := beq_eq_false_iff_ne.mpr c27
   have c27b1 : (t205 != 3) = true := bne_iff_ne.mpr c27
   have H' := Aside0.mk H
   clear H
   obtain ⟨_, _⟩ := zsy NB209_210
   obtain ⟨z32_0, z32_1, z32_2, z32_3, z32_4, f32_0, f32_1, f32_2, f32_3, f32_4⟩ := zq5 BK209
   obtain ⟨z33_0, z33_1, z33_2, z33_3, z33_4, f33_0, f33_1, f33_2, f33_3, f33_4⟩ := zq5 BK210
   go_wp2
   go_meet
   case rel => exact ⟨_, (false), zrl, H', ⟨zle⟩, ⟨zkq BK209⟩, ⟨zkq BK210⟩, ⟨zaB⟩⟩
  rw [if_neg c26] at H
  have c26b0 : (t200 == 3) = false := beq_eq_false_iff_ne.mpr c26
  have c26b1 : (t200 != 3) = true := bne_iff_ne.mpr c26
  (first | rw [c26b0] | (simp only [i64_w, i32_w]; rw [c26b0]) | skip)
  have H' := Aside0.mk H
  clear H
  obtain ⟨_, _⟩ := zsy NB209_210
  obtain ⟨z35_0, z35_1, z35_2, z35_3, z35_4, f35_0, f35_1, f35_2, f35_3, f35_4⟩ := zq5 BK209
  go_wp2
  go_meet
  case rel => exact ⟨_, (false), zrl, H', ⟨zle⟩, ⟨zkq BK209⟩, ⟨zkq BK210⟩, ⟨zaB⟩⟩
 case rest =>
  clear HC17
  try clear c1
  try clear c2
  try clear p2
  try clear c3
  try clear c7
  try clear c8
  try clear c13
  try clear c21
  try clear c22
  try clear c26
  try clear c26b0
  try clear c26b1
  try clear c27
  try clear c27b0
  try clear c27b1
  try clear c28
  try clear c31
  try clear c34
  try clear z14_0
  try clear z14_1
  try clear z14_2
  try clear z14_3
  try clear z14_4
  try clear z15_0
  try clear z15_1
  try clear z15_2
  try clear z15_3
  try clear z15_4
  try clear z23_0
  try clear z23_1
  try clear z23_2
  try clear z23_3
  try clear z23_4
  try clear z24_0
  try clear z24_1
  try clear z24_2
  try clear z24_3
  try clear z24_4
  try clear z29_0
  try clear z29_1
  try clear z29_2
  try clear z29_3
  try clear z29_4
  try clear z30_0
  try clear z30_1
  try clear z30_2
  try clear z30_3
  try clear z30_4
  try clear z32_0
  try clear z32_1
  try clear z32_2
  try clear z32_3
  try clear z32_4
  try clear z33_0
  try clear z33_1
  try clear z33_2
  try clear z33_3
  try clear z33_4
  try clear z35_0
  try clear z35_1
  try clear z35_2
  try clear z35_3
  try clear z35_4
  try clear f14_0
  try clear f14_1
  try clear f14_2
  try clear f14_3
  try clear f14_4
  try clear f15_0
  try clear f15_1
  try clear f15_2
  try clear f15_3
  try clear f15_4
  try clear f23_0
  try clear f23_1
  try clear f23_2
  try clear f23_3
  try clear f23_4
  try clear f24_0
  try clear f24_1
  try clear f24_2
  try clear f24_3
  try clear f24_4
  try clear f29_0
  try clear f29_1
  try clear f29_2
  try clear f29_3
  try clear f29_4
  try clear f30_0
  try clear f30_1
  try clear f30_2
  try clear f30_3
  try clear f30_4
  try clear f32_0
  try clear f32_1
  try clear f32_2
  try clear f32_3
  try clear f32_4
  try clear f33_0
  try clear f33_1
  try clear f33_2
  try clear f33_3
  try clear f33_4
  try clear f35_0
  try clear f35_1
  try clear f35_2
  try clear f35_3
  try clear f35_4
  obtain ⟨kq, x19_16, rfl, HA, HJ16, BK209, BK210, HB⟩ := hcut
  cases kq with
  | zero => exact absurd HA.out (by simp [soft_Add.j0])
  | succ kj16 =>
   have H := HA.out
   clear HA
   simp only [soft_Add.j0] at H
   by_cases c36 : x19_16 = true
   ·subst c36
    replace H := zit H
    obtain ⟨⟨t213, t214⟩, A37, H⟩ := zbs H
    try dsimp only at H
    simp only [Option.some.injEq, Prod.mk.injEq] at H
    obtain ⟨rfl, rfl⟩ := H
    go_wp2_with (first | ((with_reducible refine gtc 84 rfl ?_); refine zgL 35 Try.func84 (soft_invalid.calls  t213 t214 _ A37.out) (h := ?_); rintro w' ⟨nd, rfl⟩))
    go_ret2
    exact ⟨zaE, zaB⟩
   replace c36 := Bool.eq_false_iff.mpr c36
   subst c36
   replace H := zif H
   by_cases c38 : t200 = 3
   ·rw [if_pos c38] at H
    have c38b0 : (t200 == 3) = true := beq_iff_eq.mpr c38
    have c38b1 : (t200 != 3) = false := bne_eq_false_iff_eq.mpr c38
    clear c38
    simp only [Option.some.injEq, Prod.mk.injEq] at H
    obtain ⟨rfl, rfl⟩ := H
    obtain ⟨_, _⟩ := zsy NB209_210
    obtain ⟨z40_0, z40_1, z40_2, z40_3, z40_4, f40_0, f40_1, f40_2, f40_3, f40_4⟩ := zq5 BK209
    go_wp2
    go_ret2
    exact ⟨zaE, zaB⟩
   rw [if_neg c38] at H
   have c38b0 : (t200 == 3) = false := beq_eq_false_iff_ne.mpr c38
   have c38b1 : (t200 != 3) = true := bne_iff_ne.mpr c38
   by_cases c41 : t205 = 3
   ·rw [if_pos c41] at H
    have c41b0 : (t205 == 3) = true := beq_iff_eq.mpr c41
    have c41b1 : (t205 != 3) = false := bne_eq_false_iff_eq.mpr c41
    clear c41
    simp only [Option.some.injEq, Prod.mk.injEq] at H
    obtain ⟨rfl, rfl⟩ := H
    obtain ⟨_, _⟩ := zsy NB209_210
    obtain ⟨z43_0, z43_1, z43_2, z43_3, z43_4, f43_0, f43_1, f43_2, f43_3, f43_4⟩ := zq5 BK209
    obtain ⟨z44_0, z44_1, z44_2, z44_3, z44_4, f44_0, f44_1, f44_2, f44_3, f44_4⟩ := zq5 BK210
    go_wp2
    go_ret2
    exact ⟨zaE, zaB⟩
   rw [if_neg c41] at H
   have c41b0 : (t205 == 3) = false := beq_eq_false_iff_ne.mpr c41
   have c41b1 : (t205 != 3) = true := bne_iff_ne.mpr c41
   have HC45 := Aside0.mk H
   clear H
   obtain ⟨_, _⟩ := zsy NB209_210
   obtain ⟨z47_0, z47_1, z47_2, z47_3, z47_4, f47_0, f47_1, f47_2, f47_3, f47_4⟩ := zq5 BK209
   obtain ⟨z48_0, z48_1, z48_2, z48_3, z48_4, f48_0, f48_1, f48_2, f48_3, f48_4⟩ := zq5 BK210
   go_upto_region 10 with (fail)
   go_cut [48] (fun v48 wc => ∃ (kq : Nat) (x48_44 : Bool), v48 = .bool x48_44 ∧ Aside0 (soft_Add.j1 kq a0 a1 a2 x48_44 t199 t200 t201 t202 t203 t204 t205 t206 t207 t208 = some (r1, r2)) ∧ Aside0 (kq ≤ kj16) ∧ Aside0 (wc.heap[gb209]? = some (.cells #[.int .u64 t199, .int .u8 t200, .bool t201, .int .u64 t202, .int .i64 t203] 88 (0, 0))) ∧ Aside0 (wc.heap[gb210]? = some (.cells #[.int .u64 t204, .int .u8 t205, .bool t206, .int .u64 t207, .int .i64 t208] 88 (0, 0))) ∧ Aside0 (Below w.heap.size w wc))
   case first =>
    have H := HC45.out
    clear HC45
    by_cases c49 : t202 = 0
    ·rw [if_pos c49] at H
     have c49b0 : (t202 == 0) = true := beq_iff_eq.mpr c49
     have c49b1 : (t202 != 0) = false := bne_eq_false_iff_eq.mpr c49
     clear c49
     (first | rw [c49b0] | (simp only [i64_w, i32_w]; rw [c49b0]) | skip)
     by_cases c50 : t207 = 0
     ·rw [if_pos c50] at H
      have c50b0 : (t207 == 0) = true := beq_iff_eq.mpr c50
      have c50b1 : (t207 != 0) = false := bne_eq_false_iff_eq.mpr c50
      clear c50
      have H' := Aside0.mk H
      clear H
      obtain ⟨_, _⟩ := zsy NB209_210
      obtain ⟨z52_0, z52_1, z52_2, z52_3, z52_4, f52_0, f52_1, f52_2, f52_3, f52_4⟩ := zq5 BK209
      obtain ⟨z53_0, z53_1, z53_2, z53_3, z53_4, f53_0, f53_1, f53_2, f53_3, f53_4⟩ := zq5 BK210
      go_wp2
      go_meet
      case rel => exact ⟨_, ((t201 == t206)), zrl, H', ⟨by have := HJ16.out; first | omega | exact Nat.le_refl _⟩, ⟨zkq BK209⟩, ⟨zkq BK210⟩, ⟨zaB⟩⟩
     rw [if_neg c50] at H
     have c50b0 : (t207 == 0) = false := beq_eq_false_iff_ne.mpr c50
     have c50b1 : (t207 != 0) = true := bne_iff_ne.mpr c50
     have H' := Aside0.mk H
     clear H
     obtain ⟨_, _⟩ := zsy NB209_210
     obtain ⟨z55_0, z55_1, z55_2, z55_3, z55_4, f55_0, f55_1, f55_2, f55_3, f55_4⟩ := zq5 BK209
     obtain ⟨z56_0, z56_1, z56_2, z56_3, z56_4, f56_0, f56_1, f56_2, f56_3, f56_4⟩ := zq5 BK210
     go_wp2
     go_meet
     case rel => exact ⟨_, (false), zrl, H', ⟨by have := HJ16.out; first | omega | exact Nat.le_refl _⟩, ⟨zkq BK209⟩, ⟨zkq BK210⟩, ⟨zaB⟩⟩
    rw [if_neg c49] at H
    have c49b0 : (t202 == 0) = false := beq_eq_false_iff_ne.mpr c49
    have c49b1 : (t202 != 0) = true := bne_iff_ne.mpr c49
    (first | rw [c49b0] | (simp only [i64_w, i32_w]; rw [c49b0]) | skip)
    have H' := Aside0.mk H
    clear H
    obtain ⟨_, _⟩ := zsy NB209_210
    obtain ⟨z58_0, z58_1, z58_2, z58_3, z58_4, f58_0, f58_1, f58_2, f58_3, f58_4⟩ := zq5 BK209
    go_wp2
    go_meet
    case rel => exact ⟨_, (false), zrl, H', ⟨by have := HJ16.out; first | omega | exact Nat.le_refl _⟩, ⟨zkq BK209⟩, ⟨zkq BK210⟩, ⟨zaB⟩⟩
   case rest =>
    clear HC45
    try clear c1
    try clear c2
    try clear p2
    try clear c3
    try clear c4
    try clear c5
    try clear c7
    try clear c8
    try clear c13
    try clear c21
    try clear c22
    try clear c26
    try clear c26b0
    try clear c26b1
    try clear c27
    try clear c27b0
    try clear c27b1
    try clear c28
    try clear c31
    try clear c34
    try clear c36
    try clear c38
    try clear c38b0
    try clear c38b1
    try clear c39
    try clear c41
    try clear c41b0
    try clear c41b1
    try clear c42
    try clear c46
    try clear c49
    try clear c49b0
    try clear c49b1
    try clear c50
    try clear c50b0
    try clear c50b1
    try clear c51
    try clear c54
    try clear c57
    try clear z14_0
    try clear z14_1
    try clear z14_2
    try clear z14_3
    try clear z14_4
    try clear z15_0
    try clear z15_1
    try clear z15_2
    try clear z15_3
    try clear z15_4
    try clear z23_0
    try clear z23_1
    try clear z23_2
    try clear z23_3
    try clear z23_4
    try clear z24_0
    try clear z24_1
    try clear z24_2
    try clear z24_3
    try clear z24_4
    try clear z29_0
    try clear z29_1
    try clear z29_2
    try clear z29_3
    try clear z29_4
    try clear z30_0
    try clear z30_1
    try clear z30_2
    try clear z30_3
    try clear z30_4
    try clear z32_0
    try clear z32_1
    try clear z32_2
    try clear z32_3
    try clear z32_4
    try clear z33_0
    try clear z33_1
    try clear z33_2
    try clear z33_3
    try clear z33_4
    try clear z35_0
    try clear z35_1
    try clear z35_2
    try clear z35_3
    try clear z35_4
    try clear z40_0
    try clear z40_1
    try clear z40_2
    try clear z40_3
    try clear z40_4
    try clear z43_0
    try clear z43_1
    try clear z43_2
    try clear z43_3
    try clear z43_4
    try clear z44_0
    try clear z44_1
    try clear z44_2
    try clear z44_3
    try clear z44_4
    try clear z47_0
    try clear z47_1
    try clear z47_2
    try clear z47_3
    try clear z47_4
    try clear z48_0
    try clear z48_1
    try clear z48_2
    try clear z48_3
    try clear z48_4
    try clear z52_0
    try clear z52_1
    try clear z52_2
    try clear z52_3
    try clear z52_4
    try clear z53_0
    try clear z53_1
    try clear z53_2
    try clear z53_3
    try clear z53_4
    try clear z55_0
    try clear z55_1
    try clear z55_2
    try clear z55_3
    try clear z55_4
    try clear z56_0
    try clear z56_1
    try clear z56_2
    try clear z56_3
    try clear z56_4
    try clear z58_0
    try clear z58_1
    try clear z58_2
    try clear z58_3
    try clear z58_4
    try clear f14_0
    try clear f14_1
    try clear f14_2
    try clear f14_3
    try clear f14_4
    try clear f15_0
    try clear f15_1
    try clear f15_2
    try clear f15_3
    try clear f15_4
    try clear f23_0
    try clear f23_1
    try clear f23_2
    try clear f23_3
    try clear f23_4
    try clear f24_0
    try clear f24_1
    try clear f24_2
    try clear f24_3
    try clear f24_4
    try clear f29_0
    try clear f29_1
    try clear f29_2
    try clear f29_3
    try clear f29_4
    try clear f30_0
    try clear f30_1
    try clear f30_2
    try clear f30_3
    try clear f30_4
    try clear f32_0
    try clear f32_1
    try clear f32_2
    try clear f32_3
    try clear f32_4
    try clear f33_0
    try clear f33_1
    try clear f33_2
    try clear f33_3
    try clear f33_4
    try clear f35_0
    try clear f35_1
    try clear f35_2
    try clear f35_3
    try clear f35_4
    try clear f40_0
    try clear f40_1
    try clear f40_2
    try clear f40_3
    try clear f40_4
    try clear f43_0
    try clear f43_1
    try clear f43_2
    try clear f43_3
    try clear f43_4
    try clear f44_0
    try clear f44_1
    try clear f44_2
    try clear f44_3
    try clear f44_4
    try clear f47_0
    try clear f47_1
    try clear f47_2
    try clear f47_3
    try clear f47_4
    try clear f48_0
    try clear f48_1
    try clear f48_2
    try clear f48_3
    try clear f48_4
    try clear f52_0
    try clear f52_1
    try clear f52_2
    try clear f52_3
    try clear f52_4
    try clear f53_0
    try clear f53_1
    try clear f53_2
    try clear f53_3
    try clear f53_4
    try clear f55_0
    try clear f55_1
    try clear f55_2
    try clear f55_3
    try clear f55_4
    try clear f56_0
    try clear f56_1
    try clear f56_2
    try clear f56_3
    try clear f56_4
    try clear f58_0
    try clear f58_1
    try clear f58_2
    try clear f58_3
    try clear f58_4
    try clear p2
    obtain ⟨kq, x48_44, rfl, HA, HJ44, BK209, BK210, HB⟩ := hcut
    cases kq with
    | zero => exact absurd HA.out (by simp [soft_Add.j1])
    | succ kj44 =>
     have H := HA.out
     clear HA
     simp only [soft_Add.j1] at H
     by_cases c59 : x48_44 = true
     ·subst c59
      replace H := zit H
      simp only [Option.some.injEq, Prod.mk.injEq] at H
      obtain ⟨rfl, rfl⟩ := H
      go_wp2
      go_ret2
      exact ⟨zaE, zaB⟩
     replace c59 := Bool.eq_false_iff.mpr c59
     subst c59
     replace H := zif H
     have HC60 := Aside0.mk H
     clear H
     go_upto_region 12 with (fail)
     go_cut [65] (fun v65 wc => ∃ (kq : Nat) (x65_59 : Bool), v65 = .bool x65_59 ∧ Aside0 (soft_Add.j2 kq a0 a1 a2 x65_59 t199 t200 t201 t202 t203 t204 t205 t206 t207 t208 = some (r1, r2)) ∧ Aside0 (kq ≤ kj44) ∧ Aside0 (wc.heap[gb209]? = some (.cells #[.int .u64 t199, .int .u8 t200, .bool t201, .int .u64 t202, .int .i64 t203] 88 (0, 0))) ∧ Aside0 (wc.heap[gb210]? = some (.cells #[.int .u64 t204, .int .u8 t205, .bool t206, .int .u64 t207, .int .i64 t208] 88 (0, 0))) ∧ Aside0 (Below w.heap.size w wc))
     case first =>
      have H := HC60.out
      clear HC60
      by_cases c61 : t202 = 0
      ·rw [if_pos c61] at H
       have c61b0 : (t202 == 0) = true := beq_iff_eq.mpr c61
       have c61b1 : (t202 != 0) = false := bne_eq_false_iff_eq.mpr c61
       clear c61
       (first | rw [c61b0] | (simp only [i64_w, i32_w]; rw [c61b0]) | skip)
       have H' := Aside0.mk H
       clear H
       obtain ⟨_, _⟩ := zsy NB209_210
       obtain ⟨z63_0, z63_1, z63_2, z63_3, z63_4, f63_0, f63_1, f63_2, f63_3, f63_4⟩ := zq5 BK209
       obtain ⟨z64_0, z64_1, z64_2, z64_3, z64_4, f64_0, f64_1, f64_2, f64_3, f64_4⟩ := zq5 BK210
       go_wp2
       go_meet
       case rel => exact ⟨_, ((t207 == 0)), zrl, H', ⟨by have := HJ16.out; have := HJ44.out; first | omega | exact Nat.le_refl _⟩, ⟨zkq BK209⟩, ⟨zkq BK210⟩, ⟨zaB⟩⟩
      rw [if_neg c61] at H
      have c61b0 : (t202 == 0) = false := beq_eq_false_iff_ne.mpr c61
      have c61b1 : (t202 != 0) = true := bne_iff_ne.mpr c61
      (first | rw [c61b0] | (simp only [i64_w, i32_w]; rw [c61b0]) | skip)
      have H' := Aside0.mk H
      clear H
      obtain ⟨_, _⟩ := zsy NB209_210
      obtain ⟨z66_0, z66_1, z66_2, z66_3, z66_4, f66_0, f66_1, f66_2, f66_3, f66_4⟩ := zq5 BK209
      go_wp2
      go_meet
      case rel => exact ⟨_, (false), zrl, H', ⟨by have := HJ16.out; have := HJ44.out; first | omega | exact Nat.le_refl _⟩, ⟨zkq BK209⟩, ⟨zkq BK210⟩, ⟨zaB⟩⟩
     case rest =>
      clear HC60
      try clear c1
      try clear c2
      try clear p2
      try clear c3
      try clear c4
      try clear c5
      try clear c6
      try clear c7
      try clear c8
      try clear c13
      try clear c21
      try clear c22
      try clear c26
      try clear c26b0
      try clear c26b1
      try clear c27
      try clear c27b0
      try clear c27b1
      try clear c28
      try clear c31
      try clear c34
      try clear c36
      try clear c38
      try clear c38b0
      try clear c38b1
      try clear c39
      try clear c41
      try clear c41b0
      try clear c41b1
      try clear c42
      try clear c46
      try clear c49
      try clear c49b0
      try clear c49b1
      try clear c50
      try clear c50b0
      try clear c50b1
      try clear c51
      try clear c54
      try clear c57
      try clear c59
      try clear c61
      try clear c61b0
      try clear c61b1
      try clear c62
      try clear c65
      try clear z14_0
      try clear z14_1
      try clear z14_2
      try clear z14_3
      try clear z14_4
      try clear z15_0
      try clear z15_1
      try clear z15_2
      try clear z15_3
      try clear z15_4
      try clear z23_0
      try clear z23_1
      try clear z23_2
      try clear z23_3
      try clear z23_4
      try clear z24_0
      try clear z24_1
      try clear z24_2
      try clear z24_3
      try clear z24_4
      try clear z29_0
      try clear z29_1
      try clear z29_2
      try clear z29_3
      try clear z29_4
      try clear z30_0
      try clear z30_1
      try clear z30_2
      try clear z30_3
      try clear z30_4
      try clear z32_0
      try clear z32_1
      try clear z32_2
      try clear z32_3
      try clear z32_4
      try clear z33_0
      try clear z33_1
      try clear z33_2
      try clear z33_3
      try clear z33_4
      try clear z35_0
      try clear z35_1
      try clear z35_2
      try clear z35_3
      try clear z35_4
      try clear z40_0
      try clear z40_1
      try clear z40_2
      try clear z40_3
      try clear z40_4
      try clear z43_0
      try clear z43_1
      try clear z43_2
      try clear z43_3
      try clear z43_4
      try clear z44_0
      try clear z44_1
      try clear z44_2
      try clear z44_3
      try clear z44_4
      try clear z47_0
      try clear z47_1
      try clear z47_2
      try clear z47_3
      try clear z47_4
      try clear z48_0
      try clear z48_1
      try clear z48_2
      try clear z48_3
      try clear z48_4
      try clear z52_0
      try clear z52_1
      try clear z52_2
      try clear z52_3
      try clear z52_4
      try clear z53_0
      try clear z53_1
      try clear z53_2
      try clear z53_3
      try clear z53_4
      try clear z55_0
      try clear z55_1
      try clear z55_2
      try clear z55_3
      try clear z55_4
      try clear z56_0
      try clear z56_1
      try clear z56_2
      try clear z56_3
      try clear z56_4
      try clear z58_0
      try clear z58_1
      try clear z58_2
      try clear z58_3
      try clear z58_4
      try clear z63_0
      try clear z63_1
      try clear z63_2
      try clear z63_3
      try clear z63_4
      try clear z64_0
      try clear z64_1
      try clear z64_2
      try clear z64_3
      try clear z64_4
      try clear z66_0
      try clear z66_1
      try clear z66_2
      try clear z66_3
      try clear z66_4
      try clear f14_0
      try clear f14_1
      try clear f14_2
      try clear f14_3
      try clear f14_4
      try clear f15_0
      try clear f15_1
      try clear f15_2
      try clear f15_3
      try clear f15_4
      try clear f23_0
      try clear f23_1
      try clear f23_2
      try clear f23_3
      try clear f23_4
      try clear f24_0
      try clear f24_1
      try clear f24_2
      try clear f24_3
      try clear f24_4
      try clear f29_0
      try clear f29_1
      try clear f29_2
      try clear f29_3
      try clear f29_4
      try clear f30_0
      try clear f30_1
      try clear f30_2
      try clear f30_3
      try clear f30_4
      try clear f32_0
      try clear f32_1
      try clear f32_2
      try clear f32_3
      try clear f32_4
      try clear f33_0
      try clear f33_1
      try clear f33_2
      try clear f33_3
      try clear f33_4
      try clear f35_0
      try clear f35_1
      try clear f35_2
      try clear f35_3
      try clear f35_4
      try clear f40_0
      try clear f40_1
      try clear f40_2
      try clear f40_3
      try clear f40_4
      try clear f43_0
      try clear f43_1
      try clear f43_2
      try clear f43_3
      try clear f43_4
      try clear f44_0
      try clear f44_1
      try clear f44_2
      try clear f44_3
      try clear f44_4
      try clear f47_0
      try clear f47_1
      try clear f47_2
      try clear f47_3
      try clear f47_4
      try clear f48_0
      try clear f48_1
      try clear f48_2
      try clear f48_3
      try clear f48_4
      try clear f52_0
      try clear f52_1
      try clear f52_2
      try clear f52_3
      try clear f52_4
      try clear f53_0
      try clear f53_1
      try clear f53_2
      try clear f53_3
      try clear f53_4
      try clear f55_0
      try clear f55_1
      try clear f55_2
      try clear f55_3
      try clear f55_4
      try clear f56_0
      try clear f56_1
      try clear f56_2
      try clear f56_3
      try clear f56_4
      try clear f58_0
      try clear f58_1
      try clear f58_2
      try clear f58_3
      try clear f58_4
      try clear f63_0
      try clear f63_1
      try clear f63_2
      try clear f63_3
      try clear f63_4
      try clear f64_0
      try clear f64_1
      try clear f64_2
      try clear f64_3
      try clear f64_4
      try clear f66_0
      try clear f66_1
      try clear f66_2
      try clear f66_3
      try clear f66_4
      try clear p2
      obtain ⟨kq, x65_59, rfl, HA, HJ59, BK209, BK210, HB⟩ := hcut
      cases kq with
      | zero => exact absurd HA.out (by simp [soft_Add.j2])
      | succ kj59 =>
       have H := HA.out
       clear HA
       simp only [soft_Add.j2] at H
       by_cases c67 : x65_59 = true
       ·subst c67
        replace H := zit H
        obtain ⟨t215, A68, H⟩ := zbs H
        try dsimp only at H
        simp only [Option.some.injEq, Prod.mk.injEq] at H
        obtain ⟨rfl, rfl⟩ := H
        go_wp2_with (first | ((with_reducible refine gtc 85 rfl ?_); refine zgL 76 Try.func85 (soft_zero.calls kj59 (a2 == 2) t215 _ A68.out) (h := ?_); rintro w' ⟨nd, rfl⟩))
        go_ret2
        exact ⟨zaE, zaB⟩
       replace c67 := Bool.eq_false_iff.mpr c67
       subst c67
       replace H := zif H
       by_cases c69 : t202 = 0
       ·rw [if_pos c69] at H
        have c69b0 : (t202 == 0) = true := beq_iff_eq.mpr c69
        have c69b1 : (t202 != 0) = false := bne_eq_false_iff_eq.mpr c69
        clear c69
        simp only [Option.some.injEq, Prod.mk.injEq] at H
        obtain ⟨rfl, rfl⟩ := H
        obtain ⟨_, _⟩ := zsy NB209_210
        obtain ⟨_, _, _, _, _, _, _, _, _, _⟩ := zq5 BK209
        go_wp2
        go_ret2
        exact ⟨zaE, zaB⟩
       rw [if_neg c69] at H
       have c69b0 : (t202 == 0) = false := beq_eq_false_iff_ne.mpr c69
       have c69b1 : (t202 != 0) = true := bne_iff_ne.mpr c69
       by_cases c72 : t207 = 0
       ·rw [if_pos c72] at H
        have c72b0 : (t207 == 0) = true := beq_iff_eq.mpr c72
        have c72b1 : (t207 != 0) = false := bne_eq_false_iff_eq.mpr c72
        clear c72
        simp only [Option.some.injEq, Prod.mk.injEq] at H
        obtain ⟨rfl, rfl⟩ := H
        obtain ⟨_, _⟩ := zsy NB209_210
        obtain ⟨_, _, _, _, _, _, _, _, _, _⟩ := zq5 BK209
        obtain ⟨_, _, _, _, _, _, _, _, _, _⟩ := zq5 BK210
        go_wp2
        go_ret2
        exact ⟨zaE, zaB⟩
       rw [if_neg c72] at H
       have c72b0 : (t207 == 0) = false := beq_eq_false_iff_ne.mpr c72
       have c72b1 : (t207 != 0) = true := bne_iff_ne.mpr c72
       by_cases c76 : t203 < t208
       ·rw [if_pos c76] at H
        have c76b0 : decide (t203 < t208) = true := decide_eq_true c76
        clear c76
        obtain ⟨⟨t216, t217⟩, A77, H⟩ := zbs H
        try dsimp only at H
        simp only [Option.some.injEq, Prod.mk.injEq] at H
        obtain ⟨rfl, rfl⟩ := H
        obtain ⟨_, _⟩ := zsy NB209_210
        obtain ⟨_, _, _, _, _, _, _, _, _, _⟩ := zq5 BK209
        obtain ⟨_, _, _, _, _, _, _, _, _, _⟩ := zq5 BK210
        go_wp2_with (first | ((with_reducible refine gtc 86 rfl ?_); refine zgL 111 Try.func86 (soft_num_add.calls kj59 t204 t205 t206 t207 t208 t199 t200 t201 t202 t203 a2 t216 t217 _ A77.out) (h := ?_); rintro w81 hb; replace BK209 := Aside0.mk (blk_below (o := .cells #[.int .u64 t204, .int .u8 t205, .bool t206, .int .u64 t207, .int .i64 t208] 88 (0, 0)) (zkf (zkf (zkf (zkf (zkf (blk_put (cs := #[.int .u64 t204, .int .u8 t205, .bool t206, .int .u64 t207, .int .i64 t203]) (blk_put (cs := #[.int .u64 t204, .int .u8 t205, .bool t206, .int .u64 t202, .int .i64 t203]) (blk_put (cs := #[.int .u64 t204, .int .u8 t205, .bool t201, .int .u64 t202, .int .i64 t203]) (blk_put (cs := #[.int .u64 t204, .int .u8 t200, .bool t201, .int .u64 t202, .int .i64 t203]) (blk_put BK209.out 0 _ rfl) 1 _ rfl) 2 _ rfl) 3 _ rfl) 4 _ rfl) NB209_210.out _) NB209_210.out _) NB209_210.out _) NB209_210.out _) NB209_210.out _) hb); replace BK210 := Aside0.mk (blk_below (o := .cells #[.int .u64 t199, .int .u8 t200, .bool t201, .int .u64 t202, .int .i64 t203] 88 (0, 0)) (blk_put (cs := #[.int .u64 t199, .int .u8 t200, .bool t201, .int .u64 t202, .int .i64 t208]) (blk_put (cs := #[.int .u64 t199, .int .u8 t200, .bool t201, .int .u64 t207, .int .i64 t208]) (blk_put (cs := #[.int .u64 t199, .int .u8 t200, .bool t206, .int .u64 t207, .int .i64 t208]) (blk_put (cs := #[.int .u64 t199, .int .u8 t205, .bool t206, .int .u64 t207, .int .i64 t208]) (blk_put (zkf (zkf (zkf (zkf (zkf BK210.out NB210_209.out _) NB210_209.out _) NB210_209.out _) NB210_209.out _) NB210_209.out _) 0 _ rfl) 1 _ rfl) 2 _ rfl) 3 _ rfl) 4 _ rfl) hb); replace HB := Aside0.mk (below_step (below_set (below_set (below_set (below_set (below_set (below_set (below_set (below_set (below_set (below_set HB.out GW209.out) GW209.out) GW209.out) GW209.out) GW209.out) GW210.out) GW210.out) GW210.out) GW210.out) GW210.out) hb); (try clear hb)))
        go_ret2
        exact ⟨zaE, zaB⟩
       rw [if_neg c76] at H
       have c76b0 : decide (t203 < t208) = false := decide_eq_false c76
       clear c76
       by_cases c82 : t203 = t208
       ·rw [if_pos c82] at H
        have c82b0 : (t203 == t208) = true := beq_iff_eq.mpr c82
        have c82b1 : (t203 != t208) = false := bne_eq_false_iff_eq.mpr c82
        clear c82
        by_cases c83 : t202 < t207
        ·rw [if_pos c83] at H
         have c83b0 : decide (t202 < t207) = true := decide_eq_true c83
         clear c83
         obtain ⟨⟨t218, t219⟩, A84, H⟩ := zbs H
         try dsimp only at H
         simp only [Option.some.injEq, Prod.mk.injEq] at H
         obtain ⟨rfl, rfl⟩ := H
         obtain ⟨_, _⟩ := zsy NB209_210
         obtain ⟨_, _, _, _, _, _, _, _, _, _⟩ := zq5 BK209
         obtain ⟨_, _, _, _, _, _, _, _, _, _⟩ := zq5 BK210
         go_wp2_with (first | ((with_reducible refine gtc 86 rfl ?_); refine zgL 111 Try.func86 (soft_num_add.calls kj59 t204 t205 t206 t207 t208 t199 t200 t201 t202 t203 a2 t218 t219 _ A84.out) (h := ?_); rintro w88 hb; replace BK209 := Aside0.mk (blk_below (o := .cells #[.int .u64 t204, .int .u8 t205, .bool t206, .int .u64 t207, .int .i64 t208] 88 (0, 0)) (zkf (zkf (zkf (zkf (zkf (blk_put (cs := #[.int .u64 t204, .int .u8 t205, .bool t206, .int .u64 t207, .int .i64 t203]) (blk_put (cs := #[.int .u64 t204, .int .u8 t205, .bool t206, .int .u64 t202, .int .i64 t203]) (blk_put (cs := #[.int .u64 t204, .int .u8 t205, .bool t201, .int .u64 t202, .int .i64 t203]) (blk_put (cs := #[.int .u64 t204, .int .u8 t200, .bool t201, .int .u64 t202, .int .i64 t203]) (blk_put BK209.out 0 _ rfl) 1 _ rfl) 2 _ rfl) 3 _ rfl) 4 _ rfl) NB209_210.out _) NB209_210.out _) NB209_210.out _) NB209_210.out _) NB209_210.out _) hb); replace BK210 := Aside0.mk (blk_below (o := .cells #[.int .u64 t199, .int .u8 t200, .bool t201, .int .u64 t202, .int .i64 t203] 88 (0, 0)) (blk_put (cs := #[.int .u64 t199, .int .u8 t200, .bool t201, .int .u64 t202, .int .i64 t208]) (blk_put (cs := #[.int .u64 t199, .int .u8 t200, .bool t201, .int .u64 t207, .int .i64 t208]) (blk_put (cs := #[.int .u64 t199, .int .u8 t200, .bool t206, .int .u64 t207, .int .i64 t208]) (blk_put (cs := #[.int .u64 t199, .int .u8 t205, .bool t206, .int .u64 t207, .int .i64 t208]) (blk_put (zkf (zkf (zkf (zkf (zkf BK210.out NB210_209.out _) NB210_209.out _) NB210_209.out _) NB210_209.out _) NB210_209.out _) 0 _ rfl) 1 _ rfl) 2 _ rfl) 3 _ rfl) 4 _ rfl) hb); replace HB := Aside0.mk (below_step (below_set (below_set (below_set (below_set (below_set (below_set (below_set (below_set (below_set (below_set HB.out GW209.out) GW209.out) GW209.out) GW209.out) GW209.out) GW210.out) GW210.out) GW210.out) GW210.out) GW210.out) hb); (try clear hb)))
         go_ret2
         exact ⟨zaE, zaB⟩
        rw [if_neg c83] at H
        have c83b0 : decide (t202 < t207) = false := decide_eq_false c83
        clear c83
        obtain ⟨⟨t220, t221⟩, A89, H⟩ := zbs H
        try dsimp only at H
        simp only [Option.some.injEq, Prod.mk.injEq] at H
        obtain ⟨rfl, rfl⟩ := H
        obtain ⟨_, _⟩ := zsy NB209_210
        obtain ⟨_, _, _, _, _, _, _, _, _, _⟩ := zq5 BK209
        obtain ⟨_, _, _, _, _, _, _, _, _, _⟩ := zq5 BK210
        go_wp2_with (first | ((with_reducible refine gtc 86 rfl ?_); refine zgL 111 Try.func86 (soft_num_add.calls kj59 t199 t200 t201 t202 t203 t204 t205 t206 t207 t208 a2 t220 t221 _ A89.out) (h := ?_); rintro w93 hb; replace BK209 := zkb BK209 hb; replace BK210 := zkb BK210 hb; replace HB := zkB HB hb; (try clear hb)))
        go_ret2
        exact ⟨zaE, zaB⟩
       rw [if_neg c82] at H
       have c82b0 : (t203 == t208) = false := beq_eq_false_iff_ne.mpr c82
       have c82b1 : (t203 != t208) = true := bne_iff_ne.mpr c82
       obtain ⟨⟨t222, t223⟩, A94, H⟩ := zbs H
       try dsimp only at H
       simp only [Option.some.injEq, Prod.mk.injEq] at H
       obtain ⟨rfl, rfl⟩ := H
       obtain ⟨_, _⟩ := zsy NB209_210
       obtain ⟨_, _, _, _, _, _, _, _, _, _⟩ := zq5 BK209
       obtain ⟨_, _, _, _, _, _, _, _, _, _⟩ := zq5 BK210
       go_wp2_with (first | ((with_reducible refine gtc 86 rfl ?_); refine zgL 111 Try.func86 (soft_num_add.calls kj59 t199 t200 t201 t202 t203 t204 t205 t206 t207 t208 a2 t222 t223 _ A94.out) (h := ?_); rintro w98 hb; replace BK209 := zkb BK209 hb; replace BK210 := zkb BK210 hb; replace HB := zkB HB hb; (try clear hb)))
       go_ret2
       exact ⟨zaE, zaB⟩
theorem span_Add.calls (k : Nat) (a0_0 : Bool) (a0_1 : Int) (a0_2 : Int) (a1_0 : Bool) (a1_1 : Int) (a1_2 : Int) (r1 : Bool) (r2 : Int) (r3 : Int) (w : World) (h : span_Add.f k a0_0 a0_1 a0_2 a1_0 a1_1 a1_2 = some (r1, r2, r3)) :
  Calls Try.prog 65 #[.agg #[.bool a0_0, .int .u64 a0_1, .int .u64 a0_2], .agg #[.bool a1_0, .int .u64 a1_1, .int .u64 a1_2]] w fun e w' => e = .returned (.agg #[.bool r1, .int .u64 r2, .int .u64 r3]) ∧ Below w.heap.size w w' := by
 have hu43 := Try.underlying43
 have HB := Aside0.mk (Below.refl w.heap.size w)
 have H : ((span_norm.f k a0_0 a0_1 a0_2).bind fun bt1673 => ((span_norm.f k a1_0 a1_1 a1_2).bind fun bt1676 => (if bt1673.1 = true then (span_Add.j0 k true bt1673.1 bt1673.2.1 bt1673.2.2 bt1676.1 bt1676.2.1 bt1676.2.2) else (span_Add.j0 k bt1676.1 bt1673.1 bt1673.2.1 bt1673.2.2 bt1676.1 bt1676.2.1 bt1676.2.2)))) = some (r1, r2, r3) := h
 clear h
 obtain ⟨⟨t1673, t1674, t1675⟩, A3, H⟩ := zbs H
 try dsimp only at H
 obtain ⟨⟨t1676, t1677, t1678⟩, A4, H⟩ := zbs H
 try dsimp only at H
 have HC5 := Aside0.mk H
 clear H
 go_enter Try.func65, Try.ntmps65
 try go_wp2_with (first | ((with_reducible refine gtd 2 rfl ?_); refine zbx 2 #[.bool a0_0, .int .u64 a0_1, .int .u64 a0_2] 43 (h := ?_); intro gb1670 hg w6 hbox hb; have GW1670 := zkZ hg (zaB (p := Below w.heap.size w _)); replace HB := Aside0.mk (below_step zaB hb); have BK1670 := Aside0.mk (hbox); clear hb hbox hg) | ((with_reducible refine gtd 3 rfl ?_); refine zbx 3 #[.bool a1_0, .int .u64 a1_1, .int .u64 a1_2] 43 (h := ?_); intro gb1671 hg w7 hbox hb; have GW1671 := zkz HB hg; have NB1670_1671 := zkl BK1670 hg; have NB1671_1670 := zkr BK1670 hg; replace BK1670 := zkb BK1670 hb; replace HB := zkB HB hb; have BK1671 := Aside0.mk (hbox); clear hb hbox hg) | ((with_reducible refine gtd 4 rfl ?_); refine zbx 4 #[.bool false, .int .u64 0, .int .u64 0] 43 (h := ?_); intro gb1672 hg w8 hbox hb; have GW1672 := zkz HB hg; have NB1670_1672 := zkl BK1670 hg; have NB1672_1670 := zkr BK1670 hg; have NB1671_1672 := zkl BK1671 hg; have NB1672_1671 := zkr BK1671 hg; replace BK1670 := zkb BK1670 hb; replace BK1671 := zkb BK1671 hb; replace HB := zkB HB hb; have BK1672 := Aside0.mk (hbox); clear hb hbox hg))
 replace BK1670 := Aside0.mk (blk_drew BK1670.out)
 replace BK1671 := Aside0.mk (blk_drew BK1671.out)
 replace BK1672 := Aside0.mk (blk_drew BK1672.out)
 replace HB := Aside0.mk (below_drew1 HB.out)
 refine start_ (n := 6) (S := fun w' => w'.cell? ⟨gb1670, 0, none⟩ = some (.bool a0_0) ∧ w'.cell? ⟨gb1670, 1, none⟩ = some (.int .u64 a0_1) ∧ w'.cell? ⟨gb1670, 2, none⟩ = some (.int .u64 a0_2) ∧ w'.cell? ⟨gb1671, 0, none⟩ = some (.bool a1_0) ∧ w'.cell? ⟨gb1671, 1, none⟩ = some (.int .u64 a1_1) ∧ w'.cell? ⟨gb1671, 2, none⟩ = some (.int .u64 a1_2)) (ds := [4, 5]) #[false, false, false, false, false, false] (by kernel_rfl) rfl rfl (zk3 BK1670 (ze3 BK1671)) (fun hHeld => ?_)
 generalize w8.drew = w9 at BK1670 BK1671 BK1672 HB hHeld ⊢
 refine take_ (i := 0) (N := some 9) (v := ?_) (a' := ?_) #[true, false, false, false, false, false] rfl rfl (by kernel_rfl) (fun _ _ _ h => h) (Or.inl ⟨by rfl, ?_⟩) hHeld ?_ ?_
 rotate_left
 ·rintro w' ⟨s0, s1, s2, s3, s4, s5⟩
  go_simp
  with_reducible rfl
 rotate_left
 ·simp only [Act.put, List.setIfInBounds_toArray, List.set_cons_zero, List.set_cons_succ, i64_w, i32_w]
  rfl
 refine take_ (i := 2) (N := some 11) (v := ?_) (a' := ?_) #[true, false, true, false, false, false] rfl rfl (by kernel_rfl) (fun _ _ _ h => h) (Or.inl ⟨by rfl, ?_⟩) hHeld ?_ ?_
 rotate_left
 ·rintro w' ⟨s0, s1, s2, s3, s4, s5⟩
  go_simp
  with_reducible rfl
 rotate_left
 ·simp only [Act.put, List.setIfInBounds_toArray, List.set_cons_zero, List.set_cons_succ, i64_w, i32_w]
  rfl
 refine one_ (i := 1) (N := some 10) #[true, true, true, false, false, false] rfl rfl (by kernel_rfl) (by decide) (fun K hK => ?_)
 refine zgA Try.func112 (span_norm.calls k a0_0 a0_1 a0_2 t1673 t1674 t1675 _ A3.out) (h := ?_)
 rintro w10 hb
 replace BK1670 := zkb BK1670 hb
 replace BK1671 := zkb BK1671 hb
 replace BK1672 := zkb BK1672 hb
 replace HB := zkB HB hb
 (try clear hb)
 refine hK.out _ _ (zk3 BK1670 (ze3 BK1671)) (fun hHeld => ?_)
 clear hK K
 refine znA 10 (h := ?_)
 refine one_ (i := 3) (N := some 12) #[true, true, true, true, false, false] rfl rfl (by kernel_rfl) (by decide) (fun K hK => ?_)
 refine zgA Try.func112 (span_norm.calls k a1_0 a1_1 a1_2 t1676 t1677 t1678 _ A4.out) (h := ?_)
 rintro w11 hb
 replace BK1670 := zkb BK1670 hb
 replace BK1671 := zkb BK1671 hb
 replace BK1672 := zkb BK1672 hb
 replace HB := zkB HB hb
 (try clear hb)
 refine hK.out _ _ (zk3 BK1670 (ze3 BK1671)) (fun hHeld => ?_)
 clear hK K
 refine znA 12 (h := ?_)
 refine last_ (i := 4) (N := none) #[true, true, true, true, true, false] rfl rfl (by kernel_rfl) (by decide) (fun K hK => ?_)
 have hs12 := zc0 BK1670
 have hfs12 := blk_frozen BK1670.out 0
 have hns12_1 := NB1671_1670.out
 have hns12_2 := NB1672_1670.out
 have hms12_1 := NB1670_1671.out
 have hms12_2 := NB1670_1672.out
 have hs13 := zc1 BK1670
 have hfs13 := blk_frozen BK1670.out 1
 have hns13_1 := NB1671_1670.out
 have hns13_2 := NB1672_1670.out
 have hms13_1 := NB1670_1671.out
 have hms13_2 := NB1670_1672.out
 have hs14 := zc2 BK1670
 have hfs14 := blk_frozen BK1670.out 2
 have hns14_1 := NB1671_1670.out
 have hns14_2 := NB1672_1670.out
 have hms14_1 := NB1670_1671.out
 have hms14_2 := NB1670_1672.out
 refine skip_ (w1 := ?_) (by rfl) rfl ?_ ?_
 rotate_left
 ·go_simp
  rfl
 refine hK.out _ _ ?_
 clear hK K
 refine last_ (i := 5) (N := none) #[true, true, true, true, true, true] rfl rfl (by kernel_rfl) (by decide) (fun K hK => ?_)
 have hs15 := zc0 BK1671
 have hfs15 := blk_frozen BK1671.out 0
 have hns15_0 := NB1670_1671.out
 have hns15_2 := NB1672_1671.out
 have hms15_0 := NB1671_1670.out
 have hms15_2 := NB1671_1672.out
 have hs16 := zc1 BK1671
 have hfs16 := blk_frozen BK1671.out 1
 have hns16_0 := NB1670_1671.out
 have hns16_2 := NB1672_1671.out
 have hms16_0 := NB1671_1670.out
 have hms16_2 := NB1671_1672.out
 have hs17 := zc2 BK1671
 have hfs17 := blk_frozen BK1671.out 2
 have hns17_0 := NB1670_1671.out
 have hns17_2 := NB1672_1671.out
 have hms17_0 := NB1671_1670.out
 have hms17_2 := NB1671_1672.out
 refine skip_ (w1 := ?_) (by rfl) rfl ?_ ?_
 rotate_left
 ·go_simp
  rfl
 refine hK.out _ _ ?_
 clear hK K
 refine done_ (by kernel_rfl) ?_
 go_upto_region 2 with (fail)
 go_cut [18] (fun v18 wc => ∃ (kq : Nat) (x18_4 : Bool), v18 = .bool x18_4 ∧ Aside0 (span_Add.j0 kq x18_4 t1673 t1674 t1675 t1676 t1677 t1678 = some (r1, r2, r3)) ∧ Aside0 (kq ≤ k) ∧ Aside0 (wc.heap[gb1670]? = some (.cells #[.bool t1673, .int .u64 t1674, .int .u64 t1675] 43 (0, 0))) ∧ Aside0 (wc.heap[gb1671]? = some (.cells #[.bool t1676, .int .u64 t1677, .int .u64 t1678] 43 (0, 0))) ∧ Aside0 (wc.heap[gb1672]? = some (.cells #[.bool false, .int .u64 0, .int .u64 0] 43 (0, 0))) ∧ Aside0 (Below w.heap.size w wc))
 case first =>
  have H := HC5.out
  clear HC5
  by_cases c18 : t1673 = true
  ·subst c18
   replace H := zit H
   have H' := Aside0.mk H
   clear H
   obtain ⟨_, _⟩ := zsy NB1670_1671
   obtain ⟨_, _⟩ := zsy NB1670_1672
   obtain ⟨z21_0, z21_1, z21_2, f21_0, f21_1, f21_2⟩ := zq3 BK1670
   go_wp2
   go_meet
   case rel => exact ⟨_, (true), zrl, H', ⟨zle⟩, ⟨(zkf (zkf (zkf (blk_put (cs := #[.bool true, .int .u64 t1674, .int .u64 a0_2]) (blk_put (cs := #[.bool true, .int .u64 a0_1, .int .u64 a0_2]) (blk_put (zkq BK1670) 0 _ rfl) 1 _ rfl) 2 _ rfl) NB1670_1671.out _) NB1670_1671.out _) NB1670_1671.out _)⟩, ⟨(blk_put (cs := #[.bool t1676, .int .u64 t1677, .int .u64 a1_2]) (blk_put (cs := #[.bool t1676, .int .u64 a1_1, .int .u64 a1_2]) (blk_put (zkf (zkf (zkf (zkq BK1671) NB1671_1670.out _) NB1671_1670.out _) NB1671_1670.out _) 0 _ rfl) 1 _ rfl) 2 _ rfl)⟩, ⟨(zkf (zkf (zkf (zkf (zkf (zkf (zkq BK1672) NB1672_1670.out _) NB1672_1670.out _) NB1672_1670.out _) NB1672_1671.out _) NB1672_1671.out _) NB1672_1671.out _)⟩, ⟨zaB⟩⟩
  replace c18 := Bool.eq_false_iff.mpr c18
  subst c18
  replace H := zif H
  have H' := Aside0.mk H
  clear H
  obtain ⟨_, _⟩ := zsy NB1670_1671
  obtain ⟨_, _⟩ := zsy NB1670_1672
  obtain ⟨z24_0, z24_1, z24_2, f24_0, f24_1, f24_2⟩ := zq3 BK1670
  obtain ⟨_, _⟩ := zsy NB1671_1672
  obtain ⟨z26_0, z26_1, z26_2, f26_0, f26_1, f26_2⟩ := zq3 BK1671
  go_wp2
  go_meet
  case rel => exact ⟨_, (t1676), zrl, H', ⟨zle⟩, ⟨(zkf (zkf (zkf (blk_put (cs := #[.bool false, .int .u64 t1674, .int .u64 a0_2]) (blk_put (cs := #[.bool false, .int .u64 a0_1, .int .u64 a0_2]) (blk_put (zkq BK1670) 0 _ rfl) 1 _ rfl) 2 _ rfl) NB1670_1671.out _) NB1670_1671.out _) NB1670_1671.out _)⟩, ⟨(blk_put (cs := #[.bool t1676, .int .u64 t1677, .int .u64 a1_2]) (blk_put (cs := #[.bool t1676, .int .u64 a1_1, .int .u64 a1_2]) (blk_put (zkf (zkf (zkf (zkq BK1671) NB1671_1670.out _) NB1671_1670.out _) NB1671_1670.out _) 0 _ rfl) 1 _ rfl) 2 _ rfl)⟩, ⟨(zkf (zkf (zkf (zkf (zkf (zkf (zkq BK1672) NB1672_1670.out _) NB1672_1670.out _) NB1672_1670.out _) NB1672_1671.out _) NB1672_1671.out _) NB1672_1671.out _)⟩, ⟨zaB⟩⟩
 case rest =>
  clear HC5
  try clear c1
  try clear c2
  try clear p2
  try clear c6
  try clear c11
  try clear c18
  try clear c19
  try clear c20
  try clear c22
  try clear c23
  try clear c25
  try clear z21_0
  try clear z21_1
  try clear z21_2
  try clear z24_0
  try clear z24_1
  try clear z24_2
  try clear z26_0
  try clear z26_1
  try clear z26_2
  try clear f21_0
  try clear f21_1
  try clear f21_2
  try clear f24_0
  try clear f24_1
  try clear f24_2
  try clear f26_0
  try clear f26_1
  try clear f26_2
  obtain ⟨kq, x18_4, rfl, HA, HJ4, BK1670, BK1671, BK1672, HB⟩ := hcut
  cases kq with
  | zero => exact absurd HA.out (by simp [span_Add.j0])
  | succ kj4 =>
   have H := HA.out
   clear HA
   simp only [span_Add.j0] at H
   by_cases c27 : x18_4 = true
   ·subst c27
    replace H := zit H
    obtain ⟨⟨t1679, t1680, t1681⟩, A28, H⟩ := zbs H
    try dsimp only at H
    simp only [Option.some.injEq, Prod.mk.injEq] at H
    obtain ⟨rfl, rfl, rfl⟩ := H
    go_wp2_with (first | ((with_reducible refine gtc 118 rfl ?_); refine zgL 19 Try.func118 (span_none.calls  t1679 t1680 t1681 _ A28.out) (h := ?_); rintro w29 hb; replace BK1670 := zkb BK1670 hb; replace BK1671 := zkb BK1671 hb; replace BK1672 := zkb BK1672 hb; replace HB := zkB HB hb; (try clear hb); obtain ⟨_, _⟩ := zsy NB1672_1670; obtain ⟨_, _⟩ := zsy NB1672_1671; obtain ⟨_, _, _, _, _, _⟩ := zq3 BK1672))
    refine bodyPost_ret (results_cell_row rfl _ _ gb1672 43 #[.bool t1679, .int .u64 t1680, .int .u64 t1681] (0, 0) _ rfl (blk_put (cs := #[.bool t1679, .int .u64 t1680, .int .u64 0]) (blk_put (cs := #[.bool t1679, .int .u64 0, .int .u64 0]) (blk_put (zkq BK1672) 0 _ rfl) 1 _ rfl) 2 _ rfl) Try.underlying43 rfl (by kernel_rfl)) rfl ?_
    exact ⟨zaE, zaB⟩
   replace c27 := Bool.eq_false_iff.mpr c27
   subst c27
   replace H := zif H
   obtain ⟨⟨t1682, t1683⟩, A33, H⟩ := zbs H
   try dsimp only at H
   obtain ⟨⟨t1684, t1685⟩, A34, H⟩ := zbs H
   try dsimp only at H
   obtain ⟨⟨t1686, t1687, t1688⟩, A35, H⟩ := zbs H
   try dsimp only at H
   simp only [Option.some.injEq, Prod.mk.injEq] at H
   obtain ⟨rfl, rfl, rfl⟩ := H
   obtain ⟨_, _⟩ := zsy NB1670_1671
   obtain ⟨_, _⟩ := zsy NB1670_1672
   obtain ⟨_, _, _, _, _, _⟩ := zq3 BK1670
   obtain ⟨_, _⟩ := zsy NB1671_1672
   obtain ⟨_, _, _, _, _, _⟩ := zq3 BK1671
   go_wp2_with (first | ((with_reducible refine gtc 21 rfl ?_); refine zgL 25 Try.func21 (soft_Add.calls kj4 t1674 t1677 2 t1682 t1683 _ A33.out) (h := ?_); rintro w41 hb; replace BK1670 := zkb BK1670 hb; replace BK1671 := zkb BK1671 hb; replace BK1672 := zkb BK1672 hb; replace HB := zkB HB hb; (try clear hb); obtain ⟨_, _, _, _, _, _⟩ := zq3 BK1670; obtain ⟨_, _, _, _, _, _⟩ := zq3 BK1671) | ((with_reducible refine gtc 21 rfl ?_); refine zgL 33 Try.func21 (soft_Add.calls kj4 t1675 t1678 1 t1684 t1685 _ A34.out) (h := ?_); rintro w44 hb; replace BK1670 := zkb BK1670 hb; replace BK1671 := zkb BK1671 hb; replace BK1672 := zkb BK1672 hb; replace HB := zkB HB hb; (try clear hb)) | ((with_reducible refine gtc 37 rfl ?_); refine zgL 38 Try.func37 (span_Make.calls kj4 t1682 t1684 t1686 t1687 t1688 _ A35.out) (h := ?_); rintro w45 hb; replace BK1670 := zkb BK1670 hb; replace BK1671 := zkb BK1671 hb; replace BK1672 := zkb BK1672 hb; replace HB := zkB HB hb; (try clear hb); obtain ⟨_, _, _, _, _, _⟩ := zq3 BK1672))
   refine bodyPost_ret (results_cell_row rfl _ _ gb1672 43 #[.bool t1686, .int .u64 t1687, .int .u64 t1688] (0, 0) _ rfl (blk_put (cs := #[.bool t1686, .int .u64 t1687, .int .u64 0]) (blk_put (cs := #[.bool t1686, .int .u64 0, .int .u64 0]) (blk_put (zkq BK1672) 0 _ rfl) 1 _ rfl) 2 _ rfl) Try.underlying43 rfl (by kernel_rfl)) rfl ?_
   exact ⟨zaE, zaB⟩
theorem span_Sub.calls (k : Nat) (a0_0 : Bool) (a0_1 : Int) (a0_2 : Int) (a1_0 : Bool) (a1_1 : Int) (a1_2 : Int) (r1 : Bool) (r2 : Int) (r3 : Int) (w : World) (h : span_Sub.f k a0_0 a0_1 a0_2 a1_0 a1_1 a1_2 = some (r1, r2, r3)) :
  Calls Try.prog 66 #[.agg #[.bool a0_0, .int .u64 a0_1, .int .u64 a0_2], .agg #[.bool a1_0, .int .u64 a1_1, .int .u64 a1_2]] w fun e w' => e = .returned (.agg #[.bool r1, .int .u64 r2, .int .u64 r3]) ∧ Below w.heap.size w w' := by
 have hu43 := Try.underlying43
 have HB := Aside0.mk (Below.refl w.heap.size w)
 have H : ((span_Neg.f k a1_0 a1_1 a1_2).bind fun bt1692 => ((span_Add.f k a0_0 a0_1 a0_2 bt1692.1 bt1692.2.1 bt1692.2.2).bind fun bt1695 => (some (bt1695.1, bt1695.2.1, bt1695.2.2)))) = some (r1, r2, r3) := h
 clear h
 obtain ⟨⟨t1692, t1693, t1694⟩, A3, H⟩ := zbs H
 try dsimp only at H
 obtain ⟨⟨t1695, t1696, t1697⟩, A4, H⟩ := zbs H
 try dsimp only at H
 simp only [Option.some.injEq, Prod.mk.injEq] at H
 obtain ⟨rfl, rfl, rfl⟩ := H
 go_enter Try.func66, Try.ntmps66
 try go_wp2_with (first | ((with_reducible refine gtd 2 rfl ?_); refine zbx 2 #[.bool a0_0, .int .u64 a0_1, .int .u64 a0_2] 43 (h := ?_); intro gb1689 hg w5 hbox hb; have GW1689 := zkZ hg (zaB (p := Below w.heap.size w _)); replace HB := Aside0.mk (below_step zaB hb); have BK1689 := Aside0.mk (hbox); clear hb hbox hg) | ((with_reducible refine gtd 3 rfl ?_); refine zbx 3 #[.bool a1_0, .int .u64 a1_1, .int .u64 a1_2] 43 (h := ?_); intro gb1690 hg w6 hbox hb; have GW1690 := zkz HB hg; have NB1689_1690 := zkl BK1689 hg; have NB1690_1689 := zkr BK1689 hg; replace BK1689 := zkb BK1689 hb; replace HB := zkB HB hb; have BK1690 := Aside0.mk (hbox); clear hb hbox hg) | ((with_reducible refine gtd 4 rfl ?_); refine zbx 4 #[.bool false, .int .u64 0, .int .u64 0] 43 (h := ?_); intro gb1691 hg w7 hbox hb; have GW1691 := zkz HB hg; have NB1689_1691 := zkl BK1689 hg; have NB1691_1689 := zkr BK1689 hg; have NB1690_1691 := zkl BK1690 hg; have NB1691_1690 := zkr BK1690 hg; replace BK1689 := zkb BK1689 hb; replace BK1690 := zkb BK1690 hb; replace HB := zkB HB hb; have BK1691 := Aside0.mk (hbox); clear hb hbox hg))
 replace BK1689 := Aside0.mk (blk_drew BK1689.out)
 replace BK1690 := Aside0.mk (blk_drew BK1690.out)
 replace BK1691 := Aside0.mk (blk_drew BK1691.out)
 replace HB := Aside0.mk (below_drew1 HB.out)
 refine start_ (n := 5) (S := fun w' => w'.cell? ⟨gb1689, 0, none⟩ = some (.bool a0_0) ∧ w'.cell? ⟨gb1689, 1, none⟩ = some (.int .u64 a0_1) ∧ w'.cell? ⟨gb1689, 2, none⟩ = some (.int .u64 a0_2) ∧ w'.cell? ⟨gb1690, 0, none⟩ = some (.bool a1_0) ∧ w'.cell? ⟨gb1690, 1, none⟩ = some (.int .u64 a1_1) ∧ w'.cell? ⟨gb1690, 2, none⟩ = some (.int .u64 a1_2)) (ds := []) #[false, false, false, false, false] (by kernel_rfl) rfl rfl (zk3 BK1689 (ze3 BK1690)) (fun hHeld => ?_)
 generalize w7.drew = w8 at BK1689 BK1690 BK1691 HB hHeld ⊢
 refine take_ (i := 0) (N := some 5) (v := ?_) (a' := ?_) #[true, false, false, false, false] rfl rfl (by kernel_rfl) (fun _ _ _ h => h) (Or.inl ⟨by rfl, ?_⟩) hHeld ?_ ?_
 rotate_left
 ·rintro w' ⟨s0, s1, s2, s3, s4, s5⟩
  go_simp
  with_reducible rfl
 rotate_left
 ·simp only [Act.put, List.setIfInBounds_toArray, List.set_cons_zero, List.set_cons_succ, i64_w, i32_w]
  rfl
 refine take_ (i := 1) (N := some 6) (v := ?_) (a' := ?_) #[true, true, false, false, false] rfl rfl (by kernel_rfl) (fun _ _ _ h => h) (Or.inl ⟨by rfl, ?_⟩) hHeld ?_ ?_
 rotate_left
 ·rintro w' ⟨s0, s1, s2, s3, s4, s5⟩
  go_simp
  with_reducible rfl
 rotate_left
 ·simp only [Act.put, List.setIfInBounds_toArray, List.set_cons_zero, List.set_cons_succ, i64_w, i32_w]
  rfl
 refine one_ (i := 2) (N := some 7) #[true, true, true, false, false] rfl rfl (by kernel_rfl) (by decide) (fun K hK => ?_)
 refine zgA Try.func111 (span_Neg.calls k a1_0 a1_1 a1_2 t1692 t1693 t1694 _ A3.out) (h := ?_)
 rintro w9 hb
 replace BK1689 := zkb BK1689 hb
 replace BK1690 := zkb BK1690 hb
 replace BK1691 := zkb BK1691 hb
 replace HB := zkB HB hb
 (try clear hb)
 refine hK.out _ _ (zk3 BK1689 (ze3 BK1690)) (fun hHeld => ?_)
 clear hK K
 refine znA 7 (h := ?_)
 refine one_ (i := 3) (N := some 8) #[true, true, true, true, false] rfl rfl (by kernel_rfl) (by decide) (fun K hK => ?_)
 refine zgA Try.func65 (span_Add.calls k a0_0 a0_1 a0_2 t1692 t1693 t1694 t1695 t1696 t1697 _ A4.out) (h := ?_)
 rintro w10 hb
 replace BK1689 := zkb BK1689 hb
 replace BK1690 := zkb BK1690 hb
 replace BK1691 := zkb BK1691 hb
 replace HB := zkB HB hb
 (try clear hb)
 refine hK.out _ _ (zk3 BK1689 (ze3 BK1690)) (fun hHeld => ?_)
 clear hK K
 refine znA 8 (h := ?_)
 refine one_ (i := 4) (N := none) #[true, true, true, true, true] rfl rfl (by kernel_rfl) (by decide) (fun K hK => ?_)
 have hs11 := zc0 BK1691
 have hfs11 := blk_frozen BK1691.out 0
 have hns11_0 := NB1689_1691.out
 have hns11_1 := NB1690_1691.out
 have hms11_0 := NB1691_1689.out
 have hms11_1 := NB1691_1690.out
 have hs12 := zc1 BK1691
 have hfs12 := blk_frozen BK1691.out 1
 have hns12_0 := NB1689_1691.out
 have hns12_1 := NB1690_1691.out
 have hms12_0 := NB1691_1689.out
 have hms12_1 := NB1691_1690.out
 have hs13 := zc2 BK1691
 have hfs13 := blk_frozen BK1691.out 2
 have hns13_0 := NB1689_1691.out
 have hns13_1 := NB1690_1691.out
 have hms13_0 := NB1691_1689.out
 have hms13_1 := NB1691_1690.out
 refine skip_ (w1 := ?_) (by rfl) rfl ?_ ?_
 rotate_left
 ·go_simp
  rfl
 refine hK.out _ _ ⟨(zff NB1689_1691 (zff NB1689_1691 (zff NB1689_1691 hHeld.1))), (zff NB1689_1691 (zff NB1689_1691 (zff NB1689_1691 hHeld.2.1))), (zff NB1689_1691 (zff NB1689_1691 (zff NB1689_1691 hHeld.2.2.1))), (zff NB1690_1691 (zff NB1690_1691 (zff NB1690_1691 hHeld.2.2.2.1))), (zff NB1690_1691 (zff NB1690_1691 (zff NB1690_1691 hHeld.2.2.2.2.1))), (zff NB1690_1691 (zff NB1690_1691 (zff NB1690_1691 hHeld.2.2.2.2.2)))⟩ (fun hHeld => ?_)
 clear hK K
 refine done_ (by kernel_rfl) ?_
 try go_wp2
 refine bodyPost_ret (results_cell_row rfl _ _ gb1691 43 #[.bool t1695, .int .u64 t1696, .int .u64 t1697] (0, 0) _ rfl (blk_put (cs := #[.bool t1695, .int .u64 t1696, .int .u64 0]) (blk_put (cs := #[.bool t1695, .int .u64 0, .int .u64 0]) (blk_put (zkq BK1691) 0 _ rfl) 1 _ rfl) 2 _ rfl) Try.underlying43 rfl (by kernel_rfl)) rfl ?_
 exact ⟨zaE, zaB⟩
def flyballlaw16_SpanOrder.T9 : Bool × List (List Nat × List Nat) := (true, [([], []), ([0], [0]), ([1], [1]), ([1], [1]), ([2, 3, 1, 1], [1, 2, 3]), ([1], [1]), ([1], [1]), ([5, 6, 4, 1], [1, 5, 6]), ([4, 7, 7, 1], [1, 4, 7]), ([1, 8], [1, 8]), ([9, 8], [9]), ([10], [10]), ([10], [10]), ([11, 12, 10, 10], [10, 11, 12]), ([10], [10]), ([10], [10]), ([14, 15, 13, 10], [10, 14, 15]), ([13, 16, 16, 10], [10, 13, 16]), ([10, 17], [10, 17]), ([18, 17], [18]), ([19], [19]), ([19], [19]), ([20, 21, 19, 19], [19, 20, 21]), ([19], [19]), ([19], [19]), ([23, 24, 22, 19], [19, 23, 24]), ([22, 25, 25, 19], [19, 22, 25]), ([19, 26], [19, 26]), ([27, 26], [27]), ([28], [28]), ([28], [28]), ([29, 30, 28, 28], [28, 29, 30]), ([28], [28]), ([28], [28]), ([32, 33, 31, 28], [28, 32, 33]), ([31, 34, 34, 28], [28, 31, 34]), ([28, 35], [28, 35]), ([36, 35], [36]), ([37], [37]), ([38, 37, 37], [37, 38]), ([37], [37]), ([40, 39, 37], [37, 40]), ([39, 41, 41, 37], [37, 39, 41]), ([37, 42], [37, 42]), ([43, 42, 0, 1, 2, 3, 4, 5, 6, 7, 8, 9, 10, 11, 12, 13, 14, 15, 16, 17, 18, 19, 20, 21, 22, 23, 24, 25, 26, 27, 28, 29, 30, 31, 32, 33, 34, 35, 36, 37, 38, 39, 40, 41, 42, 43], [43])])
def flyballlaw16_SpanOrder.B9 : List Nat := [0, 1, 3, 3, 15, 3, 3, 127, 255, 511, 1023, 2047, 2047, 8191, 2047, 2047, 65535, 131071, 262143, 524287, 1048575, 1048575, 4194303, 1048575, 1048575, 33554431, 67108863, 134217727, 268435455, 536870911, 536870911, 2147483647, 536870911, 536870911, 17179869183, 34359738367, 68719476735, 137438953471, 274877906943, 549755813887, 274877906943, 2199023255551, 4398046511103, 8796093022207, 17592186044415]
theorem flyballlaw16_SpanOrder.tab9 : rtab .any (opsOf Try.f16 9) = flyballlaw16_SpanOrder.T9 := by kernel_rfl
theorem flyballlaw16_SpanOrder.bits9 : waitsOk flyballlaw16_SpanOrder.T9.2 flyballlaw16_SpanOrder.B9 = true := by kernel_rfl
theorem flyballlaw16_SpanOrder.calls (k : Nat) (a0_0 : Bool) (a0_1 : Int) (a0_2 : Int) (a1_0 : Bool) (a1_1 : Int) (a1_2 : Int) (a2_0 : Bool) (a2_1 : Int) (a2_2 : Int) (a3_0 : Bool) (a3_1 : Int) (a3_2 : Int) (r : Bool) (w : World) (h : flyballlaw16_SpanOrder.f k a0_0 a0_1 a0_2 a1_0 a1_1 a1_2 a2_0 a2_1 a2_2 a3_0 a3_1 a3_2 = some r) (hr_ : r = true) :
  Calls Try.prog 16 #[.agg #[.bool a0_0, .int .u64 a0_1, .int .u64 a0_2], .agg #[.bool a1_0, .int .u64 a1_1, .int .u64 a1_2], .agg #[.bool a2_0, .int .u64 a2_1, .int .u64 a2_2], .agg #[.bool a3_0, .int .u64 a3_1, .int .u64 a3_2]] w fun e w' => e = .returned (.bool r) ∧ Below w.heap.size w w' := by
 have hu43 := Try.underlying43
 have HB := Aside0.mk (Below.refl w.heap.size w)
 have H : ((flyballlaw16_works.f k).bind fun t1702 => (if t1702 = true then ((span_Join.f k (([(⟨a0_0, a0_1, a0_2⟩ : S43), (⟨a2_0, a2_1, a2_2⟩ : S43)] : List (S43)))).bind fun bt1706 => ((span_Meet.f k a0_0 a0_1 a0_2 a2_0 a2_1 a2_2).bind fun bt1710 => ((span_Join.f k (([(⟨a1_0, a1_1, a1_2⟩ : S43), (⟨a3_0, a3_1, a3_2⟩ : S43)] : List (S43)))).bind fun bt1717 => ((span_Inside.f k a0_0 a0_1 a0_2 bt1706.1 bt1706.2.1 bt1706.2.2).bind fun t1721 => (if t1721 = true then ((span_Inside.f k a2_0 a2_1 a2_2 bt1706.1 bt1706.2.1 bt1706.2.2).bind fun t1722 => (if t1722 = true then ((span_Inside.f k bt1710.1 bt1710.2.1 bt1710.2.2 a0_0 a0_1 a0_2).bind fun t1723 => (if t1723 = true then ((span_Inside.f k bt1710.1 bt1710.2.1 bt1710.2.2 a2_0 a2_1 a2_2).bind fun t1724 => (flyballlaw16_SpanOrder.j0 k t1702 (!t1724) a0_0 a0_1 a0_2 a1_0 a1_1 a1_2 bt1706.1 bt1706.2.1 bt1706.2.2 bt1717.1 bt1717.2.1 bt1717.2.2)) else (flyballlaw16_SpanOrder.j0 k t1702 true a0_0 a0_1 a0_2 a1_0 a1_1 a1_2 bt1706.1 bt1706.2.1 bt1706.2.2 bt1717.1 bt1717.2.1 bt1717.2.2))) else (flyballlaw16_SpanOrder.j0 k t1702 true a0_0 a0_1 a0_2 a1_0 a1_1 a1_2 bt1706.1 bt1706.2.1 bt1706.2.2 bt1717.1 bt1717.2.1 bt1717.2.2))) else (flyballlaw16_SpanOrder.j0 k t1702 true a0_0 a0_1 a0_2 a1_0 a1_1 a1_2 bt1706.1 bt1706.2.1 bt1706.2.2 bt1717.1 bt1717.2.1 bt1717.2.2)))))) else (some false))) = some r := h
 clear h
 obtain ⟨t1702, A5, H⟩ := zbs H
 try dsimp only at H
 by_cases c6 : t1702 = true
 ·subst c6
  replace H := zit H
  obtain ⟨y1703, hy1703⟩ : ∃ y_ : List (S43), y_ = (([(⟨a0_0, a0_1, a0_2⟩ : S43), (⟨a2_0, a2_1, a2_2⟩ : S43)] : List (S43))) := ⟨_, rfl⟩
  replace H : ((span_Join.f k y1703).bind fun bt1706 => ((span_Meet.f k a0_0 a0_1 a0_2 a2_0 a2_1 a2_2).bind fun bt1710 => ((span_Join.f k (([(⟨a1_0, a1_1, a1_2⟩ : S43), (⟨a3_0, a3_1, a3_2⟩ : S43)] : List (S43)))).bind fun bt1717 => ((span_Inside.f k a0_0 a0_1 a0_2 bt1706.1 bt1706.2.1 bt1706.2.2).bind fun t1721 => (if t1721 = true then ((span_Inside.f k a2_0 a2_1 a2_2 bt1706.1 bt1706.2.1 bt1706.2.2).bind fun t1722 => (if t1722 = true then ((span_Inside.f k bt1710.1 bt1710.2.1 bt1710.2.2 a0_0 a0_1 a0_2).bind fun t1723 => (if t1723 = true then ((span_Inside.f k bt1710.1 bt1710.2.1 bt1710.2.2 a2_0 a2_1 a2_2).bind fun t1724 => (flyballlaw16_SpanOrder.j0 k true (!t1724) a0_0 a0_1 a0_2 a1_0 a1_1 a1_2 bt1706.1 bt1706.2.1 bt1706.2.2 bt1717.1 bt1717.2.1 bt1717.2.2)) else (flyballlaw16_SpanOrder.j0 k true true a0_0 a0_1 a0_2 a1_0 a1_1 a1_2 bt1706.1 bt1706.2.1 bt1706.2.2 bt1717.1 bt1717.2.1 bt1717.2.2))) else (flyballlaw16_SpanOrder.j0 k true true a0_0 a0_1 a0_2 a1_0 a1_1 a1_2 bt1706.1 bt1706.2.1 bt1706.2.2 bt1717.1 bt1717.2.1 bt1717.2.2))) else (flyballlaw16_SpanOrder.j0 k true true a0_0 a0_1 a0_2 a1_0 a1_1 a1_2 bt1706.1 bt1706.2.1 bt1706.2.2 bt1717.1 bt1717.2.1 bt1717.2.2)))))) = some r := by first | (rw [hy1703]; with_reducible exact H) | (have H2_ := (Option.bind_some _ _).symm.trans H; rw [hy1703]; with_reducible exact H2_) | (have H2_ := (Option.bind_some _ _).symm.trans H; with_reducible exact H2_) | with_reducible exact H | (rw [hy1703]; exact H) | exact H
  have Ny1703 := Aside0.mk hy1703
  clear hy1703
  obtain ⟨⟨t1706, t1707, t1708⟩, A7, H⟩ := zbs H
  try dsimp only at H
  obtain ⟨⟨t1710, t1711, t1712⟩, A8, H⟩ := zbs H
  try dsimp only at H
  obtain ⟨y1714, hy1714⟩ : ∃ y_ : List (S43), y_ = (([(⟨a1_0, a1_1, a1_2⟩ : S43), (⟨a3_0, a3_1, a3_2⟩ : S43)] : List (S43))) := ⟨_, rfl⟩
  replace H : ((span_Join.f k y1714).bind fun bt1717 => ((span_Inside.f k a0_0 a0_1 a0_2 t1706 t1707 t1708).bind fun t1721 => (if t1721 = true then ((span_Inside.f k a2_0 a2_1 a2_2 t1706 t1707 t1708).bind fun t1722 => (if t1722 = true then ((span_Inside.f k t1710 t1711 t1712 a0_0 a0_1 a0_2).bind fun t1723 => (if t1723 = true then ((span_Inside.f k t1710 t1711 t1712 a2_0 a2_1 a2_2).bind fun t1724 => (flyballlaw16_SpanOrder.j0 k true (!t1724) a0_0 a0_1 a0_2 a1_0 a1_1 a1_2 t1706 t1707 t1708 bt1717.1 bt1717.2.1 bt1717.2.2)) else (flyballlaw16_SpanOrder.j0 k true true a0_0 a0_1 a0_2 a1_0 a1_1 a1_2 t1706 t1707 t1708 bt1717.1 bt1717.2.1 bt1717.2.2))) else (flyballlaw16_SpanOrder.j0 k true true a0_0 a0_1 a0_2 a1_0 a1_1 a1_2 t1706 t1707 t1708 bt1717.1 bt1717.2.1 bt1717.2.2))) else (flyballlaw16_SpanOrder.j0 k true true a0_0 a0_1 a0_2 a1_0 a1_1 a1_2 t1706 t1707 t1708 bt1717.1 bt1717.2.1 bt1717.2.2)))) = some r := by first | (rw [hy1714]; with_reducible exact H) | (have H2_ := (Option.bind_some _ _).symm.trans H; rw [hy1714]; with_reducible exact H2_) | (have H2_ := (Option.bind_some _ _).symm.trans H; with_reducible exact H2_) | with_reducible exact H | (rw [hy1714]; exact H) | exact H
  have Ny1714 := Aside0.mk hy1714
  clear hy1714
  obtain ⟨⟨t1717, t1718, t1719⟩, A9, H⟩ := zbs H
  try dsimp only at H
  have HC10 := Aside0.mk H
  clear H
  go_enter Try.func16, Try.ntmps16
  go_upto_region 7 with (first | ((with_reducible refine gtd 4 rfl ?_); refine zbx 4 #[.bool a0_0, .int .u64 a0_1, .int .u64 a0_2] 43 (h := ?_); intro gb1698 hg w11 hbox hb; have GW1698 := zkZ hg (zaB (p := Below w.heap.size w _)); replace HB := Aside0.mk (below_step zaB hb); have BK1698 := Aside0.mk (hbox); clear hb hbox hg) | ((with_reducible refine gtd 5 rfl ?_); refine zbx 5 #[.bool a1_0, .int .u64 a1_1, .int .u64 a1_2] 43 (h := ?_); intro gb1699 hg w12 hbox hb; have GW1699 := zkz HB hg; have NB1698_1699 := zkl BK1698 hg; have NB1699_1698 := zkr BK1698 hg; replace BK1698 := zkb BK1698 hb; replace HB := zkB HB hb; have BK1699 := Aside0.mk (hbox); clear hb hbox hg) | ((with_reducible refine gtd 6 rfl ?_); refine zbx 6 #[.bool a2_0, .int .u64 a2_1, .int .u64 a2_2] 43 (h := ?_); intro gb1700 hg w13 hbox hb; have GW1700 := zkz HB hg; have NB1698_1700 := zkl BK1698 hg; have NB1700_1698 := zkr BK1698 hg; have NB1699_1700 := zkl BK1699 hg; have NB1700_1699 := zkr BK1699 hg; replace BK1698 := zkb BK1698 hb; replace BK1699 := zkb BK1699 hb; replace HB := zkB HB hb; have BK1700 := Aside0.mk (hbox); clear hb hbox hg) | ((with_reducible refine gtd 7 rfl ?_); refine zbx 7 #[.bool a3_0, .int .u64 a3_1, .int .u64 a3_2] 43 (h := ?_); intro gb1701 hg w14 hbox hb; have GW1701 := zkz HB hg; have NB1698_1701 := zkl BK1698 hg; have NB1701_1698 := zkr BK1698 hg; have NB1699_1701 := zkl BK1699 hg; have NB1701_1699 := zkr BK1699 hg; have NB1700_1701 := zkl BK1700 hg; have NB1701_1700 := zkr BK1700 hg; replace BK1698 := zkb BK1698 hb; replace BK1699 := zkb BK1699 hb; replace BK1700 := zkb BK1700 hb; replace HB := zkB HB hb; have BK1701 := Aside0.mk (hbox); clear hb hbox hg) | ((with_reducible refine gtc 36 rfl ?_); refine zgL 13 Try.func36 (flyballlaw16_works.calls k  true _ A5.out rfl) (h := ?_); rintro w15 hb; replace BK1698 := zkb BK1698 hb; replace BK1699 := zkb BK1699 hb; replace BK1700 := zkb BK1700 hb; replace BK1701 := zkb BK1701 hb; replace HB := zkB HB hb; (try clear hb); obtain ⟨_, _⟩ := zsy NB1698_1699; obtain ⟨_, _⟩ := zsy NB1698_1700; obtain ⟨_, _⟩ := zsy NB1698_1701; obtain ⟨z19_0, z19_1, z19_2, f19_0, f19_1, f19_2⟩ := zq3 BK1698; obtain ⟨_, _⟩ := zsy NB1700_1699; obtain ⟨_, _⟩ := zsy NB1700_1701; obtain ⟨z22_0, z22_1, z22_2, f22_0, f22_1, f22_2⟩ := zq3 BK1700) | ((with_reducible refine gtd 18 rfl ?_); refine Kd.R_lit k43 _ 43 ?hg (N := 18) ?hd (xs := ([(⟨a0_0, a0_1, a0_2⟩ : S43), (⟨a2_0, a2_1, a2_2⟩ : S43)] : List (S43))) (inner := [.bool a0_0, .int .u64 a0_1, .int .u64 a0_2, .bool a2_0, .int .u64 a2_1, .int .u64 a2_2]) (ok := fun _ => True) (okp := fun _ => True) ?hr ?hp (fun _ hk => hk) trivial (Below.refl _ _) (Nat.le_refl _) (by simp) ?_; (case hd => rfl); (case hg => rfl); (case hr => first | (go_simp; done) | (go_simp; rfl)); (case hp => exact (Reps.c3 (show Kd.M k43 _ _ _ (⟨a0_0, a0_1, a0_2⟩ : S43) [.bool a0_0, .int .u64 a0_1, .int .u64 a0_2] from (k43_mkM _ _ _ (⟨a0_0, a0_1, a0_2⟩ : S43) )) (Reps.c3 (show Kd.M k43 _ _ _ (⟨a2_0, a2_1, a2_2⟩ : S43) [.bool a2_0, .int .u64 a2_1, .int .u64 a2_2] from (k43_mkM _ _ _ (⟨a2_0, a2_1, a2_2⟩ : S43) )) (Reps.none _ _)))); intro v1704 w23 ho24 hb hg_ hnew_; clear hg_ hnew_; (first | rw [← Ny1703.out] at ho24 | (simp only [Int.reduceToNat] at ho24; rw [← Ny1703.out] at ho24)); have HO1705 := Aside0.mk (Kd.R_lower (Kd.R_newB (Kd.R_newB (Kd.R_newB (Kd.R_newB ho24 (g := gb1698) (o := .cells #[.bool a0_0, .int .u64 a0_1, .int .u64 a0_2] 43 (0, 0)) (zkq BK1698)) (g := gb1699) (o := .cells #[.bool a1_0, .int .u64 a1_1, .int .u64 a1_2] 43 (0, 0)) (zkq BK1699)) (g := gb1700) (o := .cells #[.bool a2_0, .int .u64 a2_1, .int .u64 a2_2] 43 (0, 0)) (zkq BK1700)) (g := gb1701) (o := .cells #[.bool a3_0, .int .u64 a3_1, .int .u64 a3_2] 43 (0, 0)) (zkq BK1701)) (below_size zaB)); replace BK1698 := zkb BK1698 hb; replace BK1699 := zkb BK1699 hb; replace BK1700 := zkb BK1700 hb; replace BK1701 := zkb BK1701 hb; replace HB := zkB HB hb; clear hb ho24; obtain ⟨Ao25, co25, eo25⟩ := Kd.R_slice HO1705.out; subst eo25) | ((with_reducible refine gtc 45 rfl ?_); refine goesL_ (some 19) rfl rfl Try.func45 (by kernel_rfl) rfl #[.slice Ao25 y1703.length co25] rfl (by (try simp only [List.map_toArray, List.map_cons, List.map_nil]); first | done | rfl | (simp only [List.length_drop, List.length_take]; rfl)) ?_; (with_reducible refine (span_Join.calls k _ _ y1703 t1706 t1707 t1708 _ ?side1 ?side2 A7.out).mono ?_); (case side1 => repeat (first | exact (Kd.R_reads' HO1705.out).2.2 | (with_reducible refine Kd.C_alloc ?_ _) | (with_reducible refine Kd.C_drewN ?_ _) | (with_reducible refine Kd.C_drew ?_))); (case side2 => exact (Kd.R_reads' HO1705.out).2.1); rintro e w26 ⟨rfl, hb⟩; refine ⟨_, rfl, ?_⟩; replace HO1705 := Aside0.mk (Kd.R_below (by (with_reducible repeat (first | apply Kd.R_alloc | apply Kd.R_drewN | apply Kd.R_drew)); exact HO1705.out) hb); replace BK1698 := zkb BK1698 hb; replace BK1699 := zkb BK1699 hb; replace BK1700 := zkb BK1700 hb; replace BK1701 := zkb BK1701 hb; replace HB := zkB HB hb; (try clear hb)) | ((with_reducible refine gtd 10 rfl ?_); refine zbx 10 #[.bool false, .int .u64 0, .int .u64 0] 43 (h := ?_); intro gb1709 hg w27 hbox hb; have GW1709 := zkz HB hg; have NB1698_1709 := zkl BK1698 hg; have NB1709_1698 := zkr BK1698 hg; have NB1699_1709 := zkl BK1699 hg; have NB1709_1699 := zkr BK1699 hg; have NB1700_1709 := zkl BK1700 hg; have NB1709_1700 := zkr BK1700 hg; have NB1701_1709 := zkl BK1701 hg; have NB1709_1701 := zkr BK1701 hg; replace HO1705 := Aside0.mk (Kd.R_below (Kd.R_elderB (by (with_reducible repeat (first | apply Kd.R_alloc | apply Kd.R_drewN | apply Kd.R_drew)); exact HO1705.out) gb1709 (Nat.le_of_eq hg.symm)) hb); replace BK1698 := zkb BK1698 hb; replace BK1699 := zkb BK1699 hb; replace BK1700 := zkb BK1700 hb; replace BK1701 := zkb BK1701 hb; replace HB := zkB HB hb; have BK1709 := Aside0.mk (hbox); clear hb hbox hg; obtain ⟨_, _⟩ := zsy NB1709_1698; obtain ⟨_, _⟩ := zsy NB1709_1699; obtain ⟨_, _⟩ := zsy NB1709_1700; obtain ⟨_, _⟩ := zsy NB1709_1701; obtain ⟨z32_0, z32_1, z32_2, f32_0, f32_1, f32_2⟩ := zq3 BK1709; obtain ⟨z33_0, z33_1, z33_2, f33_0, f33_1, f33_2⟩ := zq3 BK1698; obtain ⟨z34_0, z34_1, z34_2, f34_0, f34_1, f34_2⟩ := zq3 BK1700) | ((with_reducible refine gtc 47 rfl ?_); refine zgL 22 Try.func47 (span_Meet.calls k a0_0 a0_1 a0_2 a2_0 a2_1 a2_2 t1710 t1711 t1712 _ A8.out) (h := ?_); rintro w35 hb; replace HO1705 := Aside0.mk (Kd.R_below (by (with_reducible repeat (first | apply Kd.R_alloc | apply Kd.R_drewN | apply Kd.R_drew)); exact (Kd.R_mono (Kd.R_far (p := ⟨gb1709, 2, none⟩) (Kd.R_far (p := ⟨gb1709, 1, none⟩) (Kd.R_far (p := ⟨gb1709, 0, none⟩) (Kd.R_mono HO1705.out (fun k_ hk => (⟨hk, hk.2⟩ : _ ∧ k_ ≠ gb1709))) (fun _ hk => hk.2) (.bool t1706)) (fun _ hk => hk.2) (.int .u64 t1707)) (fun _ hk => hk.2) (.int .u64 t1708)) (fun _ h_ => h_.1))) hb); replace BK1698 := Aside0.mk (blk_below (zkf (zkf (zkf BK1698.out NB1698_1709.out _) NB1698_1709.out _) NB1698_1709.out _) hb); replace BK1699 := Aside0.mk (blk_below (zkf (zkf (zkf BK1699.out NB1699_1709.out _) NB1699_1709.out _) NB1699_1709.out _) hb); replace BK1700 := Aside0.mk (blk_below (zkf (zkf (zkf BK1700.out NB1700_1709.out _) NB1700_1709.out _) NB1700_1709.out _) hb); replace BK1701 := Aside0.mk (blk_below (zkf (zkf (zkf BK1701.out NB1701_1709.out _) NB1701_1709.out _) NB1701_1709.out _) hb); replace BK1709 := Aside0.mk (blk_below (o := .cells #[.bool t1706, .int .u64 t1707, .int .u64 t1708] 43 (0, 0)) (blk_put (cs := #[.bool t1706, .int .u64 t1707, .int .u64 0]) (blk_put (cs := #[.bool t1706, .int .u64 0, .int .u64 0]) (blk_put BK1709.out 0 _ rfl) 1 _ rfl) 2 _ rfl) hb); replace HB := Aside0.mk (below_step (below_set (below_set (below_set HB.out GW1709.out) GW1709.out) GW1709.out) hb); (try clear hb)) | ((with_reducible refine gtd 11 rfl ?_); refine zbx 11 #[.bool false, .int .u64 0, .int .u64 0] 43 (h := ?_); intro gb1713 hg w36 hbox hb; have GW1713 := zkz HB hg; have NB1698_1713 := zkl BK1698 hg; have NB1713_1698 := zkr BK1698 hg; have NB1699_1713 := zkl BK1699 hg; have NB1713_1699 := zkr BK1699 hg; have NB1700_1713 := zkl BK1700 hg; have NB1713_1700 := zkr BK1700 hg; have NB1701_1713 := zkl BK1701 hg; have NB1713_1701 := zkr BK1701 hg; have NB1709_1713 := zkl BK1709 hg; have NB1713_1709 := zkr BK1709 hg; replace HO1705 := Aside0.mk (Kd.R_below (Kd.R_elderB (by (with_reducible repeat (first | apply Kd.R_alloc | apply Kd.R_drewN | apply Kd.R_drew)); exact HO1705.out) gb1713 (Nat.le_of_eq hg.symm)) hb); replace BK1698 := zkb BK1698 hb; replace BK1699 := zkb BK1699 hb; replace BK1700 := zkb BK1700 hb; replace BK1701 := zkb BK1701 hb; replace BK1709 := zkb BK1709 hb; replace HB := zkB HB hb; have BK1713 := Aside0.mk (hbox); clear hb hbox hg; obtain ⟨_, _⟩ := zsy NB1713_1698; obtain ⟨_, _⟩ := zsy NB1713_1699; obtain ⟨_, _⟩ := zsy NB1713_1700; obtain ⟨_, _⟩ := zsy NB1713_1701; obtain ⟨_, _⟩ := zsy NB1713_1709; obtain ⟨z42_0, z42_1, z42_2, f42_0, f42_1, f42_2⟩ := zq3 BK1713; obtain ⟨_, _⟩ := zsy NB1699_1701; obtain ⟨z44_0, z44_1, z44_2, f44_0, f44_1, f44_2⟩ := zq3 BK1699; obtain ⟨z45_0, z45_1, z45_2, f45_0, f45_1, f45_2⟩ := zq3 BK1701) | ((with_reducible refine gtd 25 rfl ?_); refine Kd.R_lit k43 _ 43 ?hg (N := 25) ?hd (xs := ([(⟨a1_0, a1_1, a1_2⟩ : S43), (⟨a3_0, a3_1, a3_2⟩ : S43)] : List (S43))) (inner := [.bool a1_0, .int .u64 a1_1, .int .u64 a1_2, .bool a3_0, .int .u64 a3_1, .int .u64 a3_2]) (ok := fun _ => True) (okp := fun _ => True) ?hr ?hp (fun _ hk => hk) trivial (Below.refl _ _) (Nat.le_refl _) (by simp) ?_; (case hd => rfl); (case hg => rfl); (case hr => first | (go_simp; done) | (go_simp; rfl)); (case hp => exact (Reps.c3 (show Kd.M k43 _ _ _ (⟨a1_0, a1_1, a1_2⟩ : S43) [.bool a1_0, .int .u64 a1_1, .int .u64 a1_2] from (k43_mkM _ _ _ (⟨a1_0, a1_1, a1_2⟩ : S43) )) (Reps.c3 (show Kd.M k43 _ _ _ (⟨a3_0, a3_1, a3_2⟩ : S43) [.bool a3_0, .int .u64 a3_1, .int .u64 a3_2] from (k43_mkM _ _ _ (⟨a3_0, a3_1, a3_2⟩ : S43) )) (Reps.none _ _)))); intro v1715 w46 ho47 hb hg_ hnew_; clear hg_ hnew_; (first | rw [← Ny1714.out] at ho47 | (simp only [Int.reduceToNat] at ho47; rw [← Ny1714.out] at ho47)); have HO1716 := Aside0.mk (Kd.R_lower (Kd.R_newB (Kd.R_newB (Kd.R_newB (Kd.R_newB (Kd.R_newB (Kd.R_newB (Kd.R_new' ho47 (Kd.R_lt (by (with_reducible repeat (first | apply Kd.R_alloc | apply Kd.R_drewN | apply Kd.R_drew)); exact (Kd.R_mono (Kd.R_far (p := ⟨gb1713, 2, none⟩) (Kd.R_far (p := ⟨gb1713, 1, none⟩) (Kd.R_far (p := ⟨gb1713, 0, none⟩) (Kd.R_mono HO1705.out (fun k_ hk => (⟨hk, hk.2⟩ : _ ∧ k_ ≠ gb1713))) (fun _ hk => hk.2) (.bool t1710)) (fun _ hk => hk.2) (.int .u64 t1711)) (fun _ hk => hk.2) (.int .u64 t1712)) (fun _ h_ => h_.1))))) (g := gb1698) (o := .cells #[.bool a0_0, .int .u64 a0_1, .int .u64 a0_2] 43 (0, 0)) (zkf (zkf (zkf (zkq BK1698) NB1698_1713.out _) NB1698_1713.out _) NB1698_1713.out _)) (g := gb1699) (o := .cells #[.bool a1_0, .int .u64 a1_1, .int .u64 a1_2] 43 (0, 0)) (zkf (zkf (zkf (zkq BK1699) NB1699_1713.out _) NB1699_1713.out _) NB1699_1713.out _)) (g := gb1700) (o := .cells #[.bool a2_0, .int .u64 a2_1, .int .u64 a2_2] 43 (0, 0)) (zkf (zkf (zkf (zkq BK1700) NB1700_1713.out _) NB1700_1713.out _) NB1700_1713.out _)) (g := gb1701) (o := .cells #[.bool a3_0, .int .u64 a3_1, .int .u64 a3_2] 43 (0, 0)) (zkf (zkf (zkf (zkq BK1701) NB1701_1713.out _) NB1701_1713.out _) NB1701_1713.out _)) (g := gb1709) (o := .cells #[.bool t1706, .int .u64 t1707, .int .u64 t1708] 43 (0, 0)) (zkf (zkf (zkf (zkq BK1709) NB1709_1713.out _) NB1709_1713.out _) NB1709_1713.out _)) (g := gb1713) (o := .cells #[.bool t1710, .int .u64 t1711, .int .u64 t1712] 43 (0, 0)) (blk_put (cs := #[.bool t1710, .int .u64 t1711, .int .u64 0]) (blk_put (cs := #[.bool t1710, .int .u64 0, .int .u64 0]) (blk_put (zkq BK1713) 0 _ rfl) 1 _ rfl) 2 _ rfl)) (below_size zaB)); replace HO1705 := Aside0.mk (Kd.R_elder' (by (with_reducible repeat (first | apply Kd.R_alloc | apply Kd.R_drewN | apply Kd.R_drew)); exact (Kd.R_mono (Kd.R_far (p := ⟨gb1713, 2, none⟩) (Kd.R_far (p := ⟨gb1713, 1, none⟩) (Kd.R_far (p := ⟨gb1713, 0, none⟩) (Kd.R_mono HO1705.out (fun k_ hk => (⟨hk, hk.2⟩ : _ ∧ k_ ≠ gb1713))) (fun _ hk => hk.2) (.bool t1710)) (fun _ hk => hk.2) (.int .u64 t1711)) (fun _ hk => hk.2) (.int .u64 t1712)) (fun _ h_ => h_.1))) (Kd.R_base ho47) hb); replace BK1698 := Aside0.mk (blk_below (zkf (zkf (zkf BK1698.out NB1698_1713.out _) NB1698_1713.out _) NB1698_1713.out _) hb); replace BK1699 := Aside0.mk (blk_below (zkf (zkf (zkf BK1699.out NB1699_1713.out _) NB1699_1713.out _) NB1699_1713.out _) hb); replace BK1700 := Aside0.mk (blk_below (zkf (zkf (zkf BK1700.out NB1700_1713.out _) NB1700_1713.out _) NB1700_1713.out _) hb); replace BK1701 := Aside0.mk (blk_below (zkf (zkf (zkf BK1701.out NB1701_1713.out _) NB1701_1713.out _) NB1701_1713.out _) hb); replace BK1709 := Aside0.mk (blk_below (zkf (zkf (zkf BK1709.out NB1709_1713.out _) NB1709_1713.out _) NB1709_1713.out _) hb); replace BK1713 := Aside0.mk (blk_below (o := .cells #[.bool t1710, .int .u64 t1711, .int .u64 t1712] 43 (0, 0)) (blk_put (cs := #[.bool t1710, .int .u64 t1711, .int .u64 0]) (blk_put (cs := #[.bool t1710, .int .u64 0, .int .u64 0]) (blk_put BK1713.out 0 _ rfl) 1 _ rfl) 2 _ rfl) hb); replace HB := Aside0.mk (below_step (below_set (below_set (below_set HB.out GW1713.out) GW1713.out) GW1713.out) hb); clear hb ho47; obtain ⟨Ao48, co48, eo48⟩ := Kd.R_slice HO1716.out; subst eo48) | ((with_reducible refine gtc 45 rfl ?_); refine goesL_ (some 26) rfl rfl Try.func45 (by kernel_rfl) rfl #[.slice Ao48 y1714.length co48] rfl (by (try simp only [List.map_toArray, List.map_cons, List.map_nil]); first | done | rfl | (simp only [List.length_drop, List.length_take]; rfl)) ?_; (with_reducible refine (span_Join.calls k _ _ y1714 t1717 t1718 t1719 _ ?side1 ?side2 A9.out).mono ?_); (case side1 => repeat (first | exact (Kd.R_reads' HO1716.out).2.2 | (with_reducible refine Kd.C_alloc ?_ _) | (with_reducible refine Kd.C_drewN ?_ _) | (with_reducible refine Kd.C_drew ?_))); (case side2 => exact (Kd.R_reads' HO1716.out).2.1); rintro e w49 ⟨rfl, hb⟩; refine ⟨_, rfl, ?_⟩; replace HO1705 := Aside0.mk (Kd.R_below (by (with_reducible repeat (first | apply Kd.R_alloc | apply Kd.R_drewN | apply Kd.R_drew)); exact HO1705.out) hb); replace HO1716 := Aside0.mk (Kd.R_below (by (with_reducible repeat (first | apply Kd.R_alloc | apply Kd.R_drewN | apply Kd.R_drew)); exact HO1716.out) hb); replace BK1698 := zkb BK1698 hb; replace BK1699 := zkb BK1699 hb; replace BK1700 := zkb BK1700 hb; replace BK1701 := zkb BK1701 hb; replace BK1709 := zkb BK1709 hb; replace BK1713 := zkb BK1713 hb; replace HB := zkB HB hb; (try clear hb)) | ((with_reducible refine gtd 12 rfl ?_); refine zbx 12 #[.bool false, .int .u64 0, .int .u64 0] 43 (h := ?_); intro gb1720 hg w50 hbox hb; have GW1720 := zkz HB hg; have NB1698_1720 := zkl BK1698 hg; have NB1720_1698 := zkr BK1698 hg; have NB1699_1720 := zkl BK1699 hg; have NB1720_1699 := zkr BK1699 hg; have NB1700_1720 := zkl BK1700 hg; have NB1720_1700 := zkr BK1700 hg; have NB1701_1720 := zkl BK1701 hg; have NB1720_1701 := zkr BK1701 hg; have NB1709_1720 := zkl BK1709 hg; have NB1720_1709 := zkr BK1709 hg; have NB1713_1720 := zkl BK1713 hg; have NB1720_1713 := zkr BK1713 hg; replace HO1705 := Aside0.mk (Kd.R_below (Kd.R_elderB (by (with_reducible repeat (first | apply Kd.R_alloc | apply Kd.R_drewN | apply Kd.R_drew)); exact HO1705.out) gb1720 (Nat.le_of_eq hg.symm)) hb); replace HO1716 := Aside0.mk (Kd.R_below (Kd.R_elderB (by (with_reducible repeat (first | apply Kd.R_alloc | apply Kd.R_drewN | apply Kd.R_drew)); exact HO1716.out) gb1720 (Nat.le_of_eq hg.symm)) hb); replace BK1698 := zkb BK1698 hb; replace BK1699 := zkb BK1699 hb; replace BK1700 := zkb BK1700 hb; replace BK1701 := zkb BK1701 hb; replace BK1709 := zkb BK1709 hb; replace BK1713 := zkb BK1713 hb; replace HB := zkB HB hb; have BK1720 := Aside0.mk (hbox); clear hb hbox hg; obtain ⟨_, _⟩ := zsy NB1720_1698; obtain ⟨_, _⟩ := zsy NB1720_1699; obtain ⟨_, _⟩ := zsy NB1720_1700; obtain ⟨_, _⟩ := zsy NB1720_1701; obtain ⟨_, _⟩ := zsy NB1720_1709; obtain ⟨_, _⟩ := zsy NB1720_1713; obtain ⟨z57_0, z57_1, z57_2, f57_0, f57_1, f57_2⟩ := zq3 BK1720))
  (try simp only [Act.put, List.setIfInBounds_toArray, List.set_cons_zero, List.set_cons_succ])
  go_cut [48] (fun v48 wc => ∃ (kq : Nat) (x48_9 : Bool), v48 = .bool x48_9 ∧ Aside0 (flyballlaw16_SpanOrder.j0 kq true x48_9 a0_0 a0_1 a0_2 a1_0 a1_1 a1_2 t1706 t1707 t1708 t1717 t1718 t1719 = some r) ∧ Aside0 (kq ≤ k) ∧ Aside0 (wc.heap[gb1698]? = some (.cells #[.bool a0_0, .int .u64 a0_1, .int .u64 a0_2] 43 (0, 0))) ∧ Aside0 (wc.heap[gb1699]? = some (.cells #[.bool a1_0, .int .u64 a1_1, .int .u64 a1_2] 43 (0, 0))) ∧ Aside0 (wc.heap[gb1700]? = some (.cells #[.bool a2_0, .int .u64 a2_1, .int .u64 a2_2] 43 (0, 0))) ∧ Aside0 (wc.heap[gb1701]? = some (.cells #[.bool a3_0, .int .u64 a3_1, .int .u64 a3_2] 43 (0, 0))) ∧ Aside0 (wc.heap[gb1709]? = some (.cells #[.bool t1706, .int .u64 t1707, .int .u64 t1708] 43 (0, 0))) ∧ Aside0 (wc.heap[gb1713]? = some (.cells #[.bool t1710, .int .u64 t1711, .int .u64 t1712] 43 (0, 0))) ∧ Aside0 (wc.heap[gb1720]? = some (.cells #[.bool t1717, .int .u64 t1718, .int .u64 t1719] 43 (0, 0))) ∧ Aside0 (Below w.heap.size w wc))
  case first =>
   have H := HC10.out
   clear HC10
   obtain ⟨t1721, A58, H⟩ := zbs H
   try dsimp only at H
   by_cases c59 : t1721 = true
   ·subst c59
    replace H := zit H
    obtain ⟨t1722, A60, H⟩ := zbs H
    try dsimp only at H
    by_cases c61 : t1722 = true
    ·subst c61
     replace H := zit H
     obtain ⟨t1723, A62, H⟩ := zbs H
     try dsimp only at H
     by_cases c63 : t1723 = true
     ·subst c63
      replace H := zit H
      obtain ⟨t1724, A64, H⟩ := zbs H
      try dsimp only at H
      have H' := Aside0.mk H
      clear H
      obtain ⟨_, _⟩ := zsy NB1698_1699
      obtain ⟨_, _⟩ := zsy NB1698_1700
      obtain ⟨_, _⟩ := zsy NB1698_1701
      obtain ⟨_, _⟩ := zsy NB1698_1709
      obtain ⟨_, _⟩ := zsy NB1698_1713
      obtain ⟨_, _⟩ := zsy NB1698_1720
      obtain ⟨z71_0, z71_1, z71_2, f71_0, f71_1, f71_2⟩ := zq3 BK1698
      obtain ⟨_, _⟩ := zsy NB1709_1699
      obtain ⟨_, _⟩ := zsy NB1709_1700
      obtain ⟨_, _⟩ := zsy NB1709_1701
      obtain ⟨_, _⟩ := zsy NB1709_1713
      obtain ⟨_, _⟩ := zsy NB1709_1720
      obtain ⟨z77_0, z77_1, z77_2, f77_0, f77_1, f77_2⟩ := zq3 BK1709
      go_wp2_with (first | ((with_reducible refine gtc 43 rfl ?_); refine zgL 29 Try.func43 (span_Inside.calls k a0_0 a0_1 a0_2 t1706 t1707 t1708 true _ A58.out) (h := ?_); rintro w78 hb; replace HO1705 := Aside0.mk (Kd.R_below (by (with_reducible repeat (first | apply Kd.R_alloc | apply Kd.R_drewN | apply Kd.R_drew)); exact (Kd.R_mono (Kd.R_far (p := ⟨gb1720, 2, none⟩) (Kd.R_far (p := ⟨gb1720, 1, none⟩) (Kd.R_far (p := ⟨gb1720, 0, none⟩) (Kd.R_mono HO1705.out (fun k_ hk => (⟨hk, hk.2⟩ : _ ∧ k_ ≠ gb1720))) (fun _ hk => hk.2) (.bool t1717)) (fun _ hk => hk.2) (.int .u64 t1718)) (fun _ hk => hk.2) (.int .u64 t1719)) (fun _ h_ => h_.1))) hb); replace HO1716 := Aside0.mk (Kd.R_below (by (with_reducible repeat (first | apply Kd.R_alloc | apply Kd.R_drewN | apply Kd.R_drew)); exact (Kd.R_mono (Kd.R_far (p := ⟨gb1720, 2, none⟩) (Kd.R_far (p := ⟨gb1720, 1, none⟩) (Kd.R_far (p := ⟨gb1720, 0, none⟩) (Kd.R_mono HO1716.out (fun k_ hk => (⟨hk, hk.2⟩ : _ ∧ k_ ≠ gb1720))) (fun _ hk => hk.2) (.bool t1717)) (fun _ hk => hk.2) (.int .u64 t1718)) (fun _ hk => hk.2) (.int .u64 t1719)) (fun _ h_ => h_.1))) hb); replace BK1698 := Aside0.mk (blk_below (zkf (zkf (zkf BK1698.out NB1698_1720.out _) NB1698_1720.out _) NB1698_1720.out _) hb); replace BK1699 := Aside0.mk (blk_below (zkf (zkf (zkf BK1699.out NB1699_1720.out _) NB1699_1720.out _) NB1699_1720.out _) hb); replace BK1700 := Aside0.mk (blk_below (zkf (zkf (zkf BK1700.out NB1700_1720.out _) NB1700_1720.out _) NB1700_1720.out _) hb); replace BK1701 := Aside0.mk (blk_below (zkf (zkf (zkf BK1701.out NB1701_1720.out _) NB1701_1720.out _) NB1701_1720.out _) hb); replace BK1709 := Aside0.mk (blk_below (zkf (zkf (zkf BK1709.out NB1709_1720.out _) NB1709_1720.out _) NB1709_1720.out _) hb); replace BK1713 := Aside0.mk (blk_below (zkf (zkf (zkf BK1713.out NB1713_1720.out _) NB1713_1720.out _) NB1713_1720.out _) hb); replace BK1720 := Aside0.mk (blk_below (o := .cells #[.bool t1717, .int .u64 t1718, .int .u64 t1719] 43 (0, 0)) (blk_put (cs := #[.bool t1717, .int .u64 t1718, .int .u64 0]) (blk_put (cs := #[.bool t1717, .int .u64 0, .int .u64 0]) (blk_put BK1720.out 0 _ rfl) 1 _ rfl) 2 _ rfl) hb); replace HB := Aside0.mk (below_step (below_set (below_set (below_set HB.out GW1720.out) GW1720.out) GW1720.out) hb); (try clear hb); obtain ⟨_, _⟩ := zsy NB1700_1699; obtain ⟨_, _⟩ := zsy NB1700_1701; obtain ⟨_, _⟩ := zsy NB1700_1713; obtain ⟨_, _⟩ := zsy NB1700_1720; obtain ⟨z83_0, z83_1, z83_2, f83_0, f83_1, f83_2⟩ := zq3 BK1700; obtain ⟨z84_0, z84_1, z84_2, f84_0, f84_1, f84_2⟩ := zq3 BK1709) | (go_at_call 43; (with_reducible refine (span_Inside.calls k a2_0 a2_1 a2_2 t1706 t1707 t1708 true _ A60.out).mono ?_); rintro e w85 ⟨rfl, hb⟩; replace HO1705 := Aside0.mk (Kd.R_below (by (with_reducible repeat (first | apply Kd.R_alloc | apply Kd.R_drewN | apply Kd.R_drew)); exact HO1705.out) hb); replace HO1716 := Aside0.mk (Kd.R_below (by (with_reducible repeat (first | apply Kd.R_alloc | apply Kd.R_drewN | apply Kd.R_drew)); exact HO1716.out) hb); replace BK1698 := zkb BK1698 hb; replace BK1699 := zkb BK1699 hb; replace BK1700 := zkb BK1700 hb; replace BK1701 := zkb BK1701 hb; replace BK1709 := zkb BK1709 hb; replace BK1713 := zkb BK1713 hb; replace BK1720 := zkb BK1720 hb; replace HB := zkB HB hb; (try clear hb); obtain ⟨_, _⟩ := zsy NB1713_1699; obtain ⟨_, _⟩ := zsy NB1713_1701; obtain ⟨_, _⟩ := zsy NB1713_1720; obtain ⟨z89_0, z89_1, z89_2, f89_0, f89_1, f89_2⟩ := zq3 BK1713; obtain ⟨z90_0, z90_1, z90_2, f90_0, f90_1, f90_2⟩ := zq3 BK1698) | (go_at_call 43; (with_reducible refine (span_Inside.calls k t1710 t1711 t1712 a0_0 a0_1 a0_2 true _ A62.out).mono ?_); rintro e w91 ⟨rfl, hb⟩; replace HO1705 := Aside0.mk (Kd.R_below (by (with_reducible repeat (first | apply Kd.R_alloc | apply Kd.R_drewN | apply Kd.R_drew)); exact HO1705.out) hb); replace HO1716 := Aside0.mk (Kd.R_below (by (with_reducible repeat (first | apply Kd.R_alloc | apply Kd.R_drewN | apply Kd.R_drew)); exact HO1716.out) hb); replace BK1698 := zkb BK1698 hb; replace BK1699 := zkb BK1699 hb; replace BK1700 := zkb BK1700 hb; replace BK1701 := zkb BK1701 hb; replace BK1709 := zkb BK1709 hb; replace BK1713 := zkb BK1713 hb; replace BK1720 := zkb BK1720 hb; replace HB := zkB HB hb; (try clear hb); obtain ⟨z92_0, z92_1, z92_2, f92_0, f92_1, f92_2⟩ := zq3 BK1713; obtain ⟨z93_0, z93_1, z93_2, f93_0, f93_1, f93_2⟩ := zq3 BK1700) | (go_at_call 43; (with_reducible refine (span_Inside.calls k t1710 t1711 t1712 a2_0 a2_1 a2_2 t1724 _ A64.out).mono ?_); rintro e w94 ⟨rfl, hb⟩; replace HO1705 := Aside0.mk (Kd.R_below (by (with_reducible repeat (first | apply Kd.R_alloc | apply Kd.R_drewN | apply Kd.R_drew)); exact HO1705.out) hb); replace HO1716 := Aside0.mk (Kd.R_below (by (with_reducible repeat (first | apply Kd.R_alloc | apply Kd.R_drewN | apply Kd.R_drew)); exact HO1716.out) hb); replace BK1698 := zkb BK1698 hb; replace BK1699 := zkb BK1699 hb; replace BK1700 := zkb BK1700 hb; replace BK1701 := zkb BK1701 hb; replace BK1709 := zkb BK1709 hb; replace BK1713 := zkb BK1713 hb; replace BK1720 := zkb BK1720 hb; replace HB := zkB HB hb; (try clear hb)))
      go_meet
      case rel => exact ⟨_, (!t1724), zrl, H', ⟨zle⟩, ⟨zkq BK1698⟩, ⟨zkq BK1699⟩, ⟨zkq BK1700⟩, ⟨zkq BK1701⟩, ⟨zkq BK1709⟩, ⟨zkq BK1713⟩, ⟨zkq BK1720⟩, ⟨zaB⟩⟩
     replace c63 := Bool.eq_false_iff.mpr c63
     subst c63
     replace H := zif H
     have H' := Aside0.mk H
     clear H
     obtain ⟨_, _⟩ := zsy NB1698_1699
     obtain ⟨_, _⟩ := zsy NB1698_1700
     obtain ⟨_, _⟩ := zsy NB1698_1701
     obtain ⟨_, _⟩ := zsy NB1698_1709
     obtain ⟨_, _⟩ := zsy NB1698_1713
     obtain ⟨_, _⟩ := zsy NB1698_1720
     obtain ⟨z101_0, z101_1, z101_2, f101_0, f101_1, f101_2⟩ := zq3 BK1698
     obtain ⟨_, _⟩ := zsy NB1709_1699
     obtain ⟨_, _⟩ := zsy NB1709_1700
     obtain ⟨_, _⟩ := zsy NB1709_1701
     obtain ⟨_, _⟩ := zsy NB1709_1713
     obtain ⟨_, _⟩ := zsy NB1709_1720
     obtain ⟨z107_0, z107_1, z107_2, f107_0, f107_1, f107_2⟩ := zq3 BK1709
     go_wp2_with (first | ((with_reducible refine gtc 43 rfl ?_); refine zgL 29 Try.func43 (span_Inside.calls k a0_0 a0_1 a0_2 t1706 t1707 t1708 true _ A58.out) (h := ?_); rintro w108 hb; replace HO1705 := Aside0.mk (Kd.R_below (by (with_reducible repeat (first | apply Kd.R_alloc | apply Kd.R_drewN | apply Kd.R_drew)); exact (Kd.R_mono (Kd.R_far (p := ⟨gb1720, 2, none⟩) (Kd.R_far (p := ⟨gb1720, 1, none⟩) (Kd.R_far (p := ⟨gb1720, 0, none⟩) (Kd.R_mono HO1705.out (fun k_ hk => (⟨hk, hk.2⟩ : _ ∧ k_ ≠ gb1720))) (fun _ hk => hk.2) (.bool t1717)) (fun _ hk => hk.2) (.int .u64 t1718)) (fun _ hk => hk.2) (.int .u64 t1719)) (fun _ h_ => h_.1))) hb); replace HO1716 := Aside0.mk (Kd.R_below (by (with_reducible repeat (first | apply Kd.R_alloc | apply Kd.R_drewN | apply Kd.R_drew)); exact (Kd.R_mono (Kd.R_far (p := ⟨gb1720, 2, none⟩) (Kd.R_far (p := ⟨gb1720, 1, none⟩) (Kd.R_far (p := ⟨gb1720, 0, none⟩) (Kd.R_mono HO1716.out (fun k_ hk => (⟨hk, hk.2⟩ : _ ∧ k_ ≠ gb1720))) (fun _ hk => hk.2) (.bool t1717)) (fun _ hk => hk.2) (.int .u64 t1718)) (fun _ hk => hk.2) (.int .u64 t1719)) (fun _ h_ => h_.1))) hb); replace BK1698 := Aside0.mk (blk_below (zkf (zkf (zkf BK1698.out NB1698_1720.out _) NB1698_1720.out _) NB1698_1720.out _) hb); replace BK1699 := Aside0.mk (blk_below (zkf (zkf (zkf BK1699.out NB1699_1720.out _) NB1699_1720.out _) NB1699_1720.out _) hb); replace BK1700 := Aside0.mk (blk_below (zkf (zkf (zkf BK1700.out NB1700_1720.out _) NB1700_1720.out _) NB1700_1720.out _) hb); replace BK1701 := Aside0.mk (blk_below (zkf (zkf (zkf BK1701.out NB1701_1720.out _) NB1701_1720.out _) NB1701_1720.out _) hb); replace BK1709 := Aside0.mk (blk_below (zkf (zkf (zkf BK1709.out NB1709_1720.out _) NB1709_1720.out _) NB1709_1720.out _) hb); replace BK1713 := Aside0.mk (blk_below (zkf (zkf (zkf BK1713.out NB1713_1720.out _) NB1713_1720.out _) NB1713_1720.out _) hb); replace BK1720 := Aside0.mk (blk_below (o := .cells #[.bool t1717, .int .u64 t1718, .int .u64 t1719] 43 (0, 0)) (blk_put (cs := #[.bool t1717, .int .u64 t1718, .int .u64 0]) (blk_put (cs := #[.bool t1717, .int .u64 0, .int .u64 0]) (blk_put BK1720.out 0 _ rfl) 1 _ rfl) 2 _ rfl) hb); replace HB := Aside0.mk (below_step (below_set (below_set (below_set HB.out GW1720.out) GW1720.out) GW1720.out) hb); (try clear hb); obtain ⟨_, _⟩ := zsy NB1700_1699; obtain ⟨_, _⟩ := zsy NB1700_1701; obtain ⟨_, _⟩ := zsy NB1700_1713; obtain ⟨_, _⟩ := zsy NB1700_1720; obtain ⟨z113_0, z113_1, z113_2, f113_0, f113_1, f113_2⟩ := zq3 BK1700; obtain ⟨z114_0, z114_1, z114_2, f114_0, f114_1, f114_2⟩ := zq3 BK1709) | (go_at_call 43; (with_reducible refine (span_Inside.calls k a2_0 a2_1 a2_2 t1706 t1707 t1708 true _ A60.out).mono ?_); rintro e w115 ⟨rfl, hb⟩; replace HO1705 := Aside0.mk (Kd.R_below (by (with_reducible repeat (first | apply Kd.R_alloc | apply Kd.R_drewN | apply Kd.R_drew)); exact HO1705.out) hb); replace HO1716 := Aside0.mk (Kd.R_below (by (with_reducible repeat (first | apply Kd.R_alloc | apply Kd.R_drewN | apply Kd.R_drew)); exact HO1716.out) hb); replace BK1698 := zkb BK1698 hb; replace BK1699 := zkb BK1699 hb; replace BK1700 := zkb BK1700 hb; replace BK1701 := zkb BK1701 hb; replace BK1709 := zkb BK1709 hb; replace BK1713 := zkb BK1713 hb; replace BK1720 := zkb BK1720 hb; replace HB := zkB HB hb; (try clear hb); obtain ⟨_, _⟩ := zsy NB1713_1699; obtain ⟨_, _⟩ := zsy NB1713_1701; obtain ⟨_, _⟩ := zsy NB1713_1720; obtain ⟨z119_0, z119_1, z119_2, f119_0, f119_1, f119_2⟩ := zq3 BK1713; obtain ⟨z120_0, z120_1, z120_2, f120_0, f120_1, f120_2⟩ := zq3 BK1698) | (go_at_call 43; (with_reducible refine (span_Inside.calls k t1710 t1711 t1712 a0_0 a0_1 a0_2 false _ A62.out).mono ?_); rintro e w121 ⟨rfl, hb⟩; replace HO1705 := Aside0.mk (Kd.R_below (by (with_reducible repeat (first | apply Kd.R_alloc | apply Kd.R_drewN | apply Kd.R_drew)); exact HO1705.out) hb); replace HO1716 := Aside0.mk (Kd.R_below (by (with_reducible repeat (first | apply Kd.R_alloc | apply Kd.R_drewN | apply Kd.R_drew)); exact HO1716.out) hb); replace BK1698 := zkb BK1698 hb; replace BK1699 := zkb BK1699 hb; replace BK1700 := zkb BK1700 hb; replace BK1701 := zkb BK1701 hb; replace BK1709 := zkb BK1709 hb; replace BK1713 := zkb BK1713 hb; replace BK1720 := zkb BK1720 hb; replace HB := zkB HB hb; (try clear hb)))
     go_meet
     case rel => exact ⟨_, (true), zrl, H', ⟨zle⟩, ⟨zkq BK1698⟩, ⟨zkq BK1699⟩, ⟨zkq BK1700⟩, ⟨zkq BK1701⟩, ⟨zkq BK1709⟩, ⟨zkq BK1713⟩, ⟨zkq BK1720⟩, ⟨zaB⟩⟩
    replace c61 := Bool.eq_false_iff.mpr c61
    subst c61
    replace H := zif H
    have H' := Aside0.mk H
    clear H
    obtain ⟨_, _⟩ := zsy NB1698_1699
    obtain ⟨_, _⟩ := zsy NB1698_1700
    obtain ⟨_, _⟩ := zsy NB1698_1701
    obtain ⟨_, _⟩ := zsy NB1698_1709
    obtain ⟨_, _⟩ := zsy NB1698_1713
    obtain ⟨_, _⟩ := zsy NB1698_1720
    obtain ⟨z128_0, z128_1, z128_2, f128_0, f128_1, f128_2⟩ := zq3 BK1698
    obtain ⟨_, _⟩ := zsy NB1709_1699
    obtain ⟨_, _⟩ := zsy NB1709_1700
    obtain ⟨_, _⟩ := zsy NB1709_1701
    obtain ⟨_, _⟩ := zsy NB1709_1713
    obtain ⟨_, _⟩ := zsy NB1709_1720
    obtain ⟨z134_0, z134_1, z134_2, f134_0, f134_1, f134_2⟩ := zq3 BK1709
    go_wp2_with (first | ((with_reducible refine gtc 43 rfl ?_); refine zgL 29 Try.func43 (span_Inside.calls k a0_0 a0_1 a0_2 t1706 t1707 t1708 true _ A58.out) (h := ?_); rintro w135 hb; replace HO1705 := Aside0.mk (Kd.R_below (by (with_reducible repeat (first | apply Kd.R_alloc | apply Kd.R_drewN | apply Kd.R_drew)); exact (Kd.R_mono (Kd.R_far (p := ⟨gb1720, 2, none⟩) (Kd.R_far (p := ⟨gb1720, 1, none⟩) (Kd.R_far (p := ⟨gb1720, 0, none⟩) (Kd.R_mono HO1705.out (fun k_ hk => (⟨hk, hk.2⟩ : _ ∧ k_ ≠ gb1720))) (fun _ hk => hk.2) (.bool t1717)) (fun _ hk => hk.2) (.int .u64 t1718)) (fun _ hk => hk.2) (.int .u64 t1719)) (fun _ h_ => h_.1))) hb); replace HO1716 := Aside0.mk (Kd.R_below (by (with_reducible repeat (first | apply Kd.R_alloc | apply Kd.R_drewN | apply Kd.R_drew)); exact (Kd.R_mono (Kd.R_far (p := ⟨gb1720, 2, none⟩) (Kd.R_far (p := ⟨gb1720, 1, none⟩) (Kd.R_far (p := ⟨gb1720, 0, none⟩) (Kd.R_mono HO1716.out (fun k_ hk => (⟨hk, hk.2⟩ : _ ∧ k_ ≠ gb1720))) (fun _ hk => hk.2) (.bool t1717)) (fun _ hk => hk.2) (.int .u64 t1718)) (fun _ hk => hk.2) (.int .u64 t1719)) (fun _ h_ => h_.1))) hb); replace BK1698 := Aside0.mk (blk_below (zkf (zkf (zkf BK1698.out NB1698_1720.out _) NB1698_1720.out _) NB1698_1720.out _) hb); replace BK1699 := Aside0.mk (blk_below (zkf (zkf (zkf BK1699.out NB1699_1720.out _) NB1699_1720.out _) NB1699_1720.out _) hb); replace BK1700 := Aside0.mk (blk_below (zkf (zkf (zkf BK1700.out NB1700_1720.out _) NB1700_1720.out _) NB1700_1720.out _) hb); replace BK1701 := Aside0.mk (blk_below (zkf (zkf (zkf BK1701.out NB1701_1720.out _) NB1701_1720.out _) NB1701_1720.out _) hb); replace BK1709 := Aside0.mk (blk_below (zkf (zkf (zkf BK1709.out NB1709_1720.out _) NB1709_1720.out _) NB1709_1720.out _) hb); replace BK1713 := Aside0.mk (blk_below (zkf (zkf (zkf BK1713.out NB1713_1720.out _) NB1713_1720.out _) NB1713_1720.out _) hb); replace BK1720 := Aside0.mk (blk_below (o := .cells #[.bool t1717, .int .u64 t1718, .int .u64 t1719] 43 (0, 0)) (blk_put (cs := #[.bool t1717, .int .u64 t1718, .int .u64 0]) (blk_put (cs := #[.bool t1717, .int .u64 0, .int .u64 0]) (blk_put BK1720.out 0 _ rfl) 1 _ rfl) 2 _ rfl) hb); replace HB := Aside0.mk (below_step (below_set (below_set (below_set HB.out GW1720.out) GW1720.out) GW1720.out) hb); (try clear hb); obtain ⟨_, _⟩ := zsy NB1700_1699; obtain ⟨_, _⟩ := zsy NB1700_1701; obtain ⟨_, _⟩ := zsy NB1700_1713; obtain ⟨_, _⟩ := zsy NB1700_1720; obtain ⟨z140_0, z140_1, z140_2, f140_0, f140_1, f140_2⟩ := zq3 BK1700; obtain ⟨z141_0, z141_1, z141_2, f141_0, f141_1, f141_2⟩ := zq3 BK1709) | (go_at_call 43; (with_reducible refine (span_Inside.calls k a2_0 a2_1 a2_2 t1706 t1707 t1708 false _ A60.out).mono ?_); rintro e w142 ⟨rfl, hb⟩; replace HO1705 := Aside0.mk (Kd.R_below (by (with_reducible repeat (first | apply Kd.R_alloc | apply Kd.R_drewN | apply Kd.R_drew)); exact HO1705.out) hb); replace HO1716 := Aside0.mk (Kd.R_below (by (with_reducible repeat (first | apply Kd.R_alloc | apply Kd.R_drewN | apply Kd.R_drew)); exact HO1716.out) hb); replace BK1698 := zkb BK1698 hb; replace BK1699 := zkb BK1699 hb; replace BK1700 := zkb BK1700 hb; replace BK1701 := zkb BK1701 hb; replace BK1709 := zkb BK1709 hb; replace BK1713 := zkb BK1713 hb; replace BK1720 := zkb BK1720 hb; replace HB := zkB HB hb; (try clear hb)))
    go_meet
    case rel => exact ⟨_, (true), zrl, H', ⟨zle⟩, ⟨zkq BK1698⟩, ⟨zkq BK1699⟩, ⟨zkq BK1700⟩, ⟨zkq BK1701⟩, ⟨zkq BK1709⟩, ⟨zkq BK1713⟩, ⟨zkq BK1720⟩, ⟨zaB⟩⟩
   replace c59 := Bool.eq_false_iff.mpr c59
   subst c59
   replace H := zif H
   have H' := Aside0.mk H
   clear H
   obtain ⟨_, _⟩ := zsy NB1698_1699
   obtain ⟨_, _⟩ := zsy NB1698_1700
   obtain ⟨_, _⟩ := zsy NB1698_1701
   obtain ⟨_, _⟩ := zsy NB1698_1709
   obtain ⟨_, _⟩ := zsy NB1698_1713
   obtain ⟨_, _⟩ := zsy NB1698_1720
   obtain ⟨z149_0, z149_1, z149_2, f149_0, f149_1, f149_2⟩ := zq3 BK1698
   obtain ⟨_, _⟩ := zsy NB1709_1699
   obtain ⟨_, _⟩ := zsy NB1709_1700
   obtain ⟨_, _⟩ := zsy NB1709_1701
   obtain ⟨_, _⟩ := zsy NB1709_1713
   obtain ⟨_, _⟩ := zsy NB1709_1720
   obtain ⟨z155_0, z155_1, z155_2, f155_0, f155_1, f155_2⟩ := zq3 BK1709
   go_wp2_with (first | ((with_reducible refine gtc 43 rfl ?_); refine zgL 29 Try.func43 (span_Inside.calls k a0_0 a0_1 a0_2 t1706 t1707 t1708 false _ A58.out) (h := ?_); rintro w156 hb; replace HO1705 := Aside0.mk (Kd.R_below (by (with_reducible repeat (first | apply Kd.R_alloc | apply Kd.R_drewN | apply Kd.R_drew)); exact (Kd.R_mono (Kd.R_far (p := ⟨gb1720, 2, none⟩) (Kd.R_far (p := ⟨gb1720, 1, none⟩) (Kd.R_far (p := ⟨gb1720, 0, none⟩) (Kd.R_mono HO1705.out (fun k_ hk => (⟨hk, hk.2⟩ : _ ∧ k_ ≠ gb1720))) (fun _ hk => hk.2) (.bool t1717)) (fun _ hk => hk.2) (.int .u64 t1718)) (fun _ hk => hk.2) (.int .u64 t1719)) (fun _ h_ => h_.1))) hb); replace HO1716 := Aside0.mk (Kd.R_below (by (with_reducible repeat (first | apply Kd.R_alloc | apply Kd.R_drewN | apply Kd.R_drew)); exact (Kd.R_mono (Kd.R_far (p := ⟨gb1720, 2, none⟩) (Kd.R_far (p := ⟨gb1720, 1, none⟩) (Kd.R_far (p := ⟨gb1720, 0, none⟩) (Kd.R_mono HO1716.out (fun k_ hk => (⟨hk, hk.2⟩ : _ ∧ k_ ≠ gb1720))) (fun _ hk => hk.2) (.bool t1717)) (fun _ hk => hk.2) (.int .u64 t1718)) (fun _ hk => hk.2) (.int .u64 t1719)) (fun _ h_ => h_.1))) hb); replace BK1698 := Aside0.mk (blk_below (zkf (zkf (zkf BK1698.out NB1698_1720.out _) NB1698_1720.out _) NB1698_1720.out _) hb); replace BK1699 := Aside0.mk (blk_below (zkf (zkf (zkf BK1699.out NB1699_1720.out _) NB1699_1720.out _) NB1699_1720.out _) hb); replace BK1700 := Aside0.mk (blk_below (zkf (zkf (zkf BK1700.out NB1700_1720.out _) NB1700_1720.out _) NB1700_1720.out _) hb); replace BK1701 := Aside0.mk (blk_below (zkf (zkf (zkf BK1701.out NB1701_1720.out _) NB1701_1720.out _) NB1701_1720.out _) hb); replace BK1709 := Aside0.mk (blk_below (zkf (zkf (zkf BK1709.out NB1709_1720.out _) NB1709_1720.out _) NB1709_1720.out _) hb); replace BK1713 := Aside0.mk (blk_below (zkf (zkf (zkf BK1713.out NB1713_1720.out _) NB1713_1720.out _) NB1713_1720.out _) hb); replace BK1720 := Aside0.mk (blk_below (o := .cells #[.bool t1717, .int .u64 t1718, .int .u64 t1719] 43 (0, 0)) (blk_put (cs := #[.bool t1717, .int .u64 t1718, .int .u64 0]) (blk_put (cs := #[.bool t1717, .int .u64 0, .int .u64 0]) (blk_put BK1720.out 0 _ rfl) 1 _ rfl) 2 _ rfl) hb); replace HB := Aside0.mk (below_step (below_set (below_set (below_set HB.out GW1720.out) GW1720.out) GW1720.out) hb); (try clear hb)))
   go_meet
   case rel => exact ⟨_, (true), zrl, H', ⟨zle⟩, ⟨zkq BK1698⟩, ⟨zkq BK1699⟩, ⟨zkq BK1700⟩, ⟨zkq BK1701⟩, ⟨zkq BK1709⟩, ⟨zkq BK1713⟩, ⟨zkq BK1720⟩, ⟨zaB⟩⟩
  case rest =>
   clear HC10
   try clear c1
   try clear c2
   try clear p2
   try clear c3
   try clear c4
   try clear c5
   try clear c6
   try clear c7
   try clear c8
   try clear c9
   try clear c10
   try clear c11
   try clear c12
   try clear c13
   try clear c14
   try clear c15
   try clear c16
   try clear c17
   try clear c18
   try clear c20
   try clear c21
   try clear c28
   try clear c29
   try clear c30
   try clear c31
   try clear c36
   try clear c37
   try clear c38
   try clear c39
   try clear c40
   try clear c41
   try clear c43
   try clear c45
   try clear c47
   try clear c51
   try clear c52
   try clear c53
   try clear c54
   try clear c55
   try clear c56
   try clear c59
   try clear c61
   try clear c63
   try clear c65
   try clear c66
   try clear c67
   try clear c68
   try clear c69
   try clear c70
   try clear c72
   try clear c73
   try clear c74
   try clear c75
   try clear c76
   try clear c79
   try clear c80
   try clear c81
   try clear c82
   try clear c86
   try clear c87
   try clear c88
   try clear c95
   try clear c96
   try clear c97
   try clear c98
   try clear c99
   try clear c100
   try clear c102
   try clear c103
   try clear c104
   try clear c105
   try clear c106
   try clear c109
   try clear c110
   try clear c111
   try clear c112
   try clear c116
   try clear c117
   try clear c118
   try clear c122
   try clear c123
   try clear c124
   try clear c125
   try clear c126
   try clear c127
   try clear c129
   try clear c130
   try clear c131
   try clear c132
   try clear c133
   try clear c136
   try clear c137
   try clear c138
   try clear c139
   try clear c143
   try clear c144
   try clear c145
   try clear c146
   try clear c147
   try clear c148
   try clear c150
   try clear c151
   try clear c152
   try clear c153
   try clear c154
   try clear z101_0
   try clear z101_1
   try clear z101_2
   try clear z107_0
   try clear z107_1
   try clear z107_2
   try clear z113_0
   try clear z113_1
   try clear z113_2
   try clear z114_0
   try clear z114_1
   try clear z114_2
   try clear z119_0
   try clear z119_1
   try clear z119_2
   try clear z120_0
   try clear z120_1
   try clear z120_2
   try clear z128_0
   try clear z128_1
   try clear z128_2
   try clear z134_0
   try clear z134_1
   try clear z134_2
   try clear z140_0
   try clear z140_1
   try clear z140_2
   try clear z141_0
   try clear z141_1
   try clear z141_2
   try clear z149_0
   try clear z149_1
   try clear z149_2
   try clear z155_0
   try clear z155_1
   try clear z155_2
   try clear z19_0
   try clear z19_1
   try clear z19_2
   try clear z22_0
   try clear z22_1
   try clear z22_2
   try clear z32_0
   try clear z32_1
   try clear z32_2
   try clear z33_0
   try clear z33_1
   try clear z33_2
   try clear z34_0
   try clear z34_1
   try clear z34_2
   try clear z42_0
   try clear z42_1
   try clear z42_2
   try clear z44_0
   try clear z44_1
   try clear z44_2
   try clear z45_0
   try clear z45_1
   try clear z45_2
   try clear z57_0
   try clear z57_1
   try clear z57_2
   try clear z71_0
   try clear z71_1
   try clear z71_2
   try clear z77_0
   try clear z77_1
   try clear z77_2
   try clear z83_0
   try clear z83_1
   try clear z83_2
   try clear z84_0
   try clear z84_1
   try clear z84_2
   try clear z89_0
   try clear z89_1
   try clear z89_2
   try clear z90_0
   try clear z90_1
   try clear z90_2
   try clear z92_0
   try clear z92_1
   try clear z92_2
   try clear z93_0
   try clear z93_1
   try clear z93_2
   try clear f101_0
   try clear f101_1
   try clear f101_2
   try clear f107_0
   try clear f107_1
   try clear f107_2
   try clear f113_0
   try clear f113_1
   try clear f113_2
   try clear f114_0
   try clear f114_1
   try clear f114_2
   try clear f119_0
   try clear f119_1
   try clear f119_2
   try clear f120_0
   try clear f120_1
   try clear f120_2
   try clear f128_0
   try clear f128_1
   try clear f128_2
   try clear f134_0
   try clear f134_1
   try clear f134_2
   try clear f140_0
   try clear f140_1
   try clear f140_2
   try clear f141_0
   try clear f141_1
   try clear f141_2
   try clear f149_0
   try clear f149_1
   try clear f149_2
   try clear f155_0
   try clear f155_1
   try clear f155_2
   try clear f19_0
   try clear f19_1
   try clear f19_2
   try clear f22_0
   try clear f22_1
   try clear f22_2
   try clear f32_0
   try clear f32_1
   try clear f32_2
   try clear f33_0
   try clear f33_1
   try clear f33_2
   try clear f34_0
   try clear f34_1
   try clear f34_2
   try clear f42_0
   try clear f42_1
   try clear f42_2
   try clear f44_0
   try clear f44_1
   try clear f44_2
   try clear f45_0
   try clear f45_1
   try clear f45_2
   try clear f57_0
   try clear f57_1
   try clear f57_2
   try clear f71_0
   try clear f71_1
   try clear f71_2
   try clear f77_0
   try clear f77_1
   try clear f77_2
   try clear f83_0
   try clear f83_1
   try clear f83_2
   try clear f84_0
   try clear f84_1
   try clear f84_2
   try clear f89_0
   try clear f89_1
   try clear f89_2
   try clear f90_0
   try clear f90_1
   try clear f90_2
   try clear f92_0
   try clear f92_1
   try clear f92_2
   try clear f93_0
   try clear f93_1
   try clear f93_2
   obtain ⟨kq, x48_9, rfl, HA, HJ9, BK1698, BK1699, BK1700, BK1701, BK1709, BK1713, BK1720, HB⟩ := hcut
   cases kq with
   | zero => exact absurd HA.out (by simp [flyballlaw16_SpanOrder.j0])
   | succ kj9 =>
    have H := HA.out
    clear HA
    simp only [flyballlaw16_SpanOrder.j0] at H
    by_cases c157 : x48_9 = true
    ·subst c157
     replace H := zit H
     subst hr_
     cases H
    replace c157 := Bool.eq_false_iff.mpr c157
    subst c157
    replace H := zif H
    by_cases c158 : true = true
    ·skip
     have H1 : ((span_Add.f kj9 a0_0 a0_1 a0_2 a1_0 a1_1 a1_2).bind fun bt1725 => ((span_Add.f kj9 t1706 t1707 t1708 t1717 t1718 t1719).bind fun bt1728 => ((span_Inside.f kj9 bt1725.1 bt1725.2.1 bt1725.2.2 bt1728.1 bt1728.2.1 bt1728.2.2).bind fun t1731 => (if t1731 = true then ((span_Sub.f kj9 a0_0 a0_1 a0_2 a1_0 a1_1 a1_2).bind fun bt1732 => ((span_Sub.f kj9 t1706 t1707 t1708 t1717 t1718 t1719).bind fun bt1735 => ((span_Inside.f kj9 bt1732.1 bt1732.2.1 bt1732.2.2 bt1735.1 bt1735.2.1 bt1735.2.2).bind fun t1738 => (if t1738 = true then ((span_Mul.f kj9 a0_0 a0_1 a0_2 a1_0 a1_1 a1_2).bind fun bt1739 => ((span_Mul.f kj9 t1706 t1707 t1708 t1717 t1718 t1719).bind fun bt1742 => ((span_Inside.f kj9 bt1739.1 bt1739.2.1 bt1739.2.2 bt1742.1 bt1742.2.1 bt1742.2.2).bind fun t1745 => (if t1745 = true then ((span_Div.f kj9 a0_0 a0_1 a0_2 a1_0 a1_1 a1_2).bind fun bt1746 => ((span_Div.f kj9 t1706 t1707 t1708 t1717 t1718 t1719).bind fun bt1749 => ((span_Inside.f kj9 bt1746.1 bt1746.2.1 bt1746.2.2 bt1749.1 bt1749.2.1 bt1749.2.2).bind fun t1752 => (if t1752 = true then ((span_Abs.f kj9 a0_0 a0_1 a0_2).bind fun bt1753 => ((span_Abs.f kj9 t1706 t1707 t1708).bind fun bt1756 => ((span_Inside.f kj9 bt1753.1 bt1753.2.1 bt1753.2.2 bt1756.1 bt1756.2.1 bt1756.2.2).bind fun t1759 => (some t1759)))) else (some false))))) else (some false))))) else (some false))))) else (some false))))) = some r := by first | (rw [if_pos rfl] at H; exact H) | (rw [if_pos trivial] at H; exact H)
     clear H
     have H := H1
     clear H1
     obtain ⟨⟨t1725, t1726, t1727⟩, A159, H⟩ := zbs H
     try dsimp only at H
     obtain ⟨⟨t1728, t1729, t1730⟩, A160, H⟩ := zbs H
     try dsimp only at H
     obtain ⟨t1731, A161, H⟩ := zbs H
     try dsimp only at H
     by_cases c162 : t1731 = true
     ·subst c162
      replace H := zit H
      obtain ⟨⟨t1732, t1733, t1734⟩, A163, H⟩ := zbs H
      try dsimp only at H
      obtain ⟨⟨t1735, t1736, t1737⟩, A164, H⟩ := zbs H
      try dsimp only at H
      obtain ⟨t1738, A165, H⟩ := zbs H
      try dsimp only at H
      by_cases c166 : t1738 = true
      ·subst c166
       replace H := zit H
       obtain ⟨⟨t1739, t1740, t1741⟩, A167, H⟩ := zbs H
       try dsimp only at H
       obtain ⟨⟨t1742, t1743, t1744⟩, A168, H⟩ := zbs H
       try dsimp only at H
       obtain ⟨t1745, A169, H⟩ := zbs H
       try dsimp only at H
       by_cases c170 : t1745 = true
       ·subst c170
        replace H := zit H
        obtain ⟨⟨t1746, t1747, t1748⟩, A171, H⟩ := zbs H
        try dsimp only at H
        obtain ⟨⟨t1749, t1750, t1751⟩, A172, H⟩ := zbs H
        try dsimp only at H
        obtain ⟨t1752, A173, H⟩ := zbs H
        try dsimp only at H
        by_cases c174 : t1752 = true
        ·subst c174
         replace H := zit H
         obtain ⟨⟨t1753, t1754, t1755⟩, A175, H⟩ := zbs H
         try dsimp only at H
         obtain ⟨⟨t1756, t1757, t1758⟩, A176, H⟩ := zbs H
         try dsimp only at H
         obtain ⟨t1759, A177, H⟩ := zbs H
         try dsimp only at H
         obtain rfl := Option.some.inj H
         try go_wp2
         replace BK1698 := Aside0.mk (blk_drew BK1698.out)
         replace BK1699 := Aside0.mk (blk_drew BK1699.out)
         replace BK1700 := Aside0.mk (blk_drew BK1700.out)
         replace BK1701 := Aside0.mk (blk_drew BK1701.out)
         replace BK1709 := Aside0.mk (blk_drew BK1709.out)
         replace BK1713 := Aside0.mk (blk_drew BK1713.out)
         replace BK1720 := Aside0.mk (blk_drew BK1720.out)
         replace HB := Aside0.mk (below_drew1 HB.out)
         refine start_ (n := 45) (S := fun w' => w'.cell? ⟨gb1698, 0, none⟩ = some (.bool a0_0) ∧ w'.cell? ⟨gb1698, 1, none⟩ = some (.int .u64 a0_1) ∧ w'.cell? ⟨gb1698, 2, none⟩ = some (.int .u64 a0_2) ∧ w'.cell? ⟨gb1699, 0, none⟩ = some (.bool a1_0) ∧ w'.cell? ⟨gb1699, 1, none⟩ = some (.int .u64 a1_1) ∧ w'.cell? ⟨gb1699, 2, none⟩ = some (.int .u64 a1_2) ∧ w'.cell? ⟨gb1709, 0, none⟩ = some (.bool t1706) ∧ w'.cell? ⟨gb1709, 1, none⟩ = some (.int .u64 t1707) ∧ w'.cell? ⟨gb1709, 2, none⟩ = some (.int .u64 t1708) ∧ w'.cell? ⟨gb1720, 0, none⟩ = some (.bool t1717) ∧ w'.cell? ⟨gb1720, 1, none⟩ = some (.int .u64 t1718) ∧ w'.cell? ⟨gb1720, 2, none⟩ = some (.int .u64 t1719)) (ds := []) #[false, false, false, false, false, false, false, false, false, false, false, false, false, false, false, false, false, false, false, false, false, false, false, false, false, false, false, false, false, false, false, false, false, false, false, false, false, false, false, false, false, false, false, false, false] (by kernel_rfl) rfl rfl (zk3 BK1698 (zk3 BK1699 (zk3 BK1709 (ze3 BK1720)))) (fun hHeld => ?_); refine with_tabW flyballlaw16_SpanOrder.tab9 flyballlaw16_SpanOrder.bits9 (fun HT_ HW_ => ?_)
         generalize wc.drew = w178 at BK1698 BK1699 BK1700 BK1701 BK1709 BK1713 BK1720 HB hHeld ⊢
         refine zpA 0 49 (h := ?_)
         refine zpA 1 50 (h := ?_)
         refine ztA 2 51 (h := ?_)
         refine ztA 3 52 (h := ?_)
         refine ztA 5 54 (h := ?_)
         refine ztA 6 55 (h := ?_)
         refine zoA 4 53 (h := fun K hK => ?_)
         refine zgA Try.func65 (span_Add.calls kj9 a0_0 a0_1 a0_2 a1_0 a1_1 a1_2 t1725 t1726 t1727 _ A159.out) (h := ?_)
         rintro w179 hb
         replace BK1698 := zkb BK1698 hb
         replace BK1699 := zkb BK1699 hb
         replace BK1700 := zkb BK1700 hb
         replace BK1701 := zkb BK1701 hb
         replace BK1709 := zkb BK1709 hb
         replace BK1713 := zkb BK1713 hb
         replace BK1720 := zkb BK1720 hb
         replace HB := zkB HB hb
         (try clear hb)
         refine hK.out _ _ (zk3 BK1698 (zk3 BK1699 (zk3 BK1709 (ze3 BK1720)))) (fun hHeld => ?_)
         clear hK K
         refine znA 53 (h := ?_)
         refine zoA 7 56 (h := fun K hK => ?_)
         refine zgA Try.func65 (span_Add.calls kj9 t1706 t1707 t1708 t1717 t1718 t1719 t1728 t1729 t1730 _ A160.out) (h := ?_)
         rintro w180 hb
         replace BK1698 := zkb BK1698 hb
         replace BK1699 := zkb BK1699 hb
         replace BK1700 := zkb BK1700 hb
         replace BK1701 := zkb BK1701 hb
         replace BK1709 := zkb BK1709 hb
         replace BK1713 := zkb BK1713 hb
         replace BK1720 := zkb BK1720 hb
         replace HB := zkB HB hb
         (try clear hb)
         refine hK.out _ _ (zk3 BK1698 (zk3 BK1699 (zk3 BK1709 (ze3 BK1720)))) (fun hHeld => ?_)
         clear hK K
         refine znA 56 (h := ?_)
         refine zoA 8 57 (h := fun K hK => ?_)
         refine zgA Try.func43 (span_Inside.calls kj9 t1725 t1726 t1727 t1728 t1729 t1730 true _ A161.out) (h := ?_)
         rintro w181 hb
         replace BK1698 := zkb BK1698 hb
         replace BK1699 := zkb BK1699 hb
         replace BK1700 := zkb BK1700 hb
         replace BK1701 := zkb BK1701 hb
         replace BK1709 := zkb BK1709 hb
         replace BK1713 := zkb BK1713 hb
         replace BK1720 := zkb BK1720 hb
         replace HB := zkB HB hb
         (try clear hb)
         refine hK.out _ _ (zk3 BK1698 (zk3 BK1699 (zk3 BK1709 (ze3 BK1720)))) (fun hHeld => ?_)
         clear hK K
         refine znA 57 (h := ?_)
         refine zpA 9 58 (h := ?_)
         refine zpA 10 59 (h := ?_)
         refine ztA 11 60 (h := ?_)
         refine ztA 12 61 (h := ?_)
         refine ztA 14 63 (h := ?_)
         refine ztA 15 64 (h := ?_)
         refine zoA 13 62 (h := fun K hK => ?_)
         refine zgA Try.func66 (span_Sub.calls kj9 a0_0 a0_1 a0_2 a1_0 a1_1 a1_2 t1732 t1733 t1734 _ A163.out) (h := ?_)
         rintro w182 hb
         replace BK1698 := zkb BK1698 hb
         replace BK1699 := zkb BK1699 hb
         replace BK1700 := zkb BK1700 hb
         replace BK1701 := zkb BK1701 hb
         replace BK1709 := zkb BK1709 hb
         replace BK1713 := zkb BK1713 hb
         replace BK1720 := zkb BK1720 hb
         replace HB := zkB HB hb
         (try clear hb)
         refine hK.out _ _ (zk3 BK1698 (zk3 BK1699 (zk3 BK1709 (ze3 BK1720)))) (fun hHeld => ?_)
         clear hK K
         refine znA 62 (h := ?_)
         refine zoA 16 65 (h := fun K hK => ?_)
         refine zgA Try.func66 (span_Sub.calls kj9 t1706 t1707 t1708 t1717 t1718 t1719 t1735 t1736 t1737 _ A164.out) (h := ?_)
         rintro w183 hb
         replace BK1698 := zkb BK1698 hb
         replace BK1699 := zkb BK1699 hb
         replace BK1700 := zkb BK1700 hb
         replace BK1701 := zkb BK1701 hb
         replace BK1709 := zkb BK1709 hb
         replace BK1713 := zkb BK1713 hb
         replace BK1720 := zkb BK1720 hb
         replace HB := zkB HB hb
         (try clear hb)
         refine hK.out _ _ (zk3 BK1698 (zk3 BK1699 (zk3 BK1709 (ze3 BK1720)))) (fun hHeld => ?_)
         clear hK K
         refine znA 65 (h := ?_)
         refine zoA 17 66 (h := fun K hK => ?_)
         refine zgA Try.func43 (span_Inside.calls kj9 t1732 t1733 t1734 t1735 t1736 t1737 true _ A165.out) (h := ?_)
         rintro w184 hb
         replace BK1698 := zkb BK1698 hb
         replace BK1699 := zkb BK1699 hb
         replace BK1700 := zkb BK1700 hb
         replace BK1701 := zkb BK1701 hb
         replace BK1709 := zkb BK1709 hb
         replace BK1713 := zkb BK1713 hb
         replace BK1720 := zkb BK1720 hb
         replace HB := zkB HB hb
         (try clear hb)
         refine hK.out _ _ (zk3 BK1698 (zk3 BK1699 (zk3 BK1709 (ze3 BK1720)))) (fun hHeld => ?_)
         clear hK K
         refine znA 66 (h := ?_)
         refine zpA 18 67 (h := ?_)
         refine zpA 19 68 (h := ?_)
         refine ztA 20 69 (h := ?_)
         refine ztA 21 70 (h := ?_)
         refine ztA 23 72 (h := ?_)
         refine ztA 24 73 (h := ?_)
         refine zoA 22 71 (h := fun K hK => ?_)
         refine zgA Try.func67 (span_Mul.calls kj9 a0_0 a0_1 a0_2 a1_0 a1_1 a1_2 t1739 t1740 t1741 _ A167.out) (h := ?_)
         rintro w185 hb
         replace BK1698 := zkb BK1698 hb
         replace BK1699 := zkb BK1699 hb
         replace BK1700 := zkb BK1700 hb
         replace BK1701 := zkb BK1701 hb
         replace BK1709 := zkb BK1709 hb
         replace BK1713 := zkb BK1713 hb
         replace BK1720 := zkb BK1720 hb
         replace HB := zkB HB hb
         (try clear hb)
         refine hK.out _ _ (zk3 BK1698 (zk3 BK1699 (zk3 BK1709 (ze3 BK1720)))) (fun hHeld => ?_)
         clear hK K
         refine znA 71 (h := ?_)
         refine zoA 25 74 (h := fun K hK => ?_)
         refine zgA Try.func67 (span_Mul.calls kj9 t1706 t1707 t1708 t1717 t1718 t1719 t1742 t1743 t1744 _ A168.out) (h := ?_)
         rintro w186 hb
         replace BK1698 := zkb BK1698 hb
         replace BK1699 := zkb BK1699 hb
         replace BK1700 := zkb BK1700 hb
         replace BK1701 := zkb BK1701 hb
         replace BK1709 := zkb BK1709 hb
         replace BK1713 := zkb BK1713 hb
         replace BK1720 := zkb BK1720 hb
         replace HB := zkB HB hb
         (try clear hb)
         refine hK.out _ _ (zk3 BK1698 (zk3 BK1699 (zk3 BK1709 (ze3 BK1720)))) (fun hHeld => ?_)
         clear hK K
         refine znA 74 (h := ?_)
         refine zoA 26 75 (h := fun K hK => ?_)
         refine zgA Try.func43 (span_Inside.calls kj9 t1739 t1740 t1741 t1742 t1743 t1744 true _ A169.out) (h := ?_)
         rintro w187 hb
         replace BK1698 := zkb BK1698 hb
         replace BK1699 := zkb BK1699 hb
         replace BK1700 := zkb BK1700 hb
         replace BK1701 := zkb BK1701 hb
         replace BK1709 := zkb BK1709 hb
         replace BK1713 := zkb BK1713 hb
         replace BK1720 := zkb BK1720 hb
         replace HB := zkB HB hb
         (try clear hb)
         refine hK.out _ _ (zk3 BK1698 (zk3 BK1699 (zk3 BK1709 (ze3 BK1720)))) (fun hHeld => ?_)
         clear hK K
         refine znA 75 (h := ?_)
         refine zpA 27 76 (h := ?_)
         refine zpA 28 77 (h := ?_)
         refine ztA 29 78 (h := ?_)
         refine ztA 30 79 (h := ?_)
         refine ztA 32 81 (h := ?_)
         refine ztA 33 82 (h := ?_)
         refine zoA 31 80 (h := fun K hK => ?_)
         refine zgA Try.func68 (span_Div.calls kj9 a0_0 a0_1 a0_2 a1_0 a1_1 a1_2 t1746 t1747 t1748 _ A171.out) (h := ?_)
         rintro w188 hb
         replace BK1698 := zkb BK1698 hb
         replace BK1699 := zkb BK1699 hb
         replace BK1700 := zkb BK1700 hb
         replace BK1701 := zkb BK1701 hb
         replace BK1709 := zkb BK1709 hb
         replace BK1713 := zkb BK1713 hb
         replace BK1720 := zkb BK1720 hb
         replace HB := zkB HB hb
         (try clear hb)
         refine hK.out _ _ (zk3 BK1698 (zk3 BK1699 (zk3 BK1709 (ze3 BK1720)))) (fun hHeld => ?_)
         clear hK K
         refine znA 80 (h := ?_)
         refine zoA 34 83 (h := fun K hK => ?_)
         refine zgA Try.func68 (span_Div.calls kj9 t1706 t1707 t1708 t1717 t1718 t1719 t1749 t1750 t1751 _ A172.out) (h := ?_)
         rintro w189 hb
         replace BK1698 := zkb BK1698 hb
         replace BK1699 := zkb BK1699 hb
         replace BK1700 := zkb BK1700 hb
         replace BK1701 := zkb BK1701 hb
         replace BK1709 := zkb BK1709 hb
         replace BK1713 := zkb BK1713 hb
         replace BK1720 := zkb BK1720 hb
         replace HB := zkB HB hb
         (try clear hb)
         refine hK.out _ _ (zk3 BK1698 (zk3 BK1699 (zk3 BK1709 (ze3 BK1720)))) (fun hHeld => ?_)
         clear hK K
         refine znA 83 (h := ?_)
         refine zoA 35 84 (h := fun K hK => ?_)
         refine zgA Try.func43 (span_Inside.calls kj9 t1746 t1747 t1748 t1749 t1750 t1751 true _ A173.out) (h := ?_)
         rintro w190 hb
         replace BK1698 := zkb BK1698 hb
         replace BK1699 := zkb BK1699 hb
         replace BK1700 := zkb BK1700 hb
         replace BK1701 := zkb BK1701 hb
         replace BK1709 := zkb BK1709 hb
         replace BK1713 := zkb BK1713 hb
         replace BK1720 := zkb BK1720 hb
         replace HB := zkB HB hb
         (try clear hb)
         refine hK.out _ _ (zk3 BK1698 (zk3 BK1699 (zk3 BK1709 (ze3 BK1720)))) (fun hHeld => ?_)
         clear hK K
         refine znA 84 (h := ?_)
         refine zpA 36 85 (h := ?_)
         refine zpA 37 86 (h := ?_)
         refine ztA 38 87 (h := ?_)
         refine ztA 40 89 (h := ?_)
         refine zoA 39 88 (h := fun K hK => ?_)
         refine zgA Try.func69 (span_Abs.calls kj9 a0_0 a0_1 a0_2 t1753 t1754 t1755 _ A175.out) (h := ?_)
         rintro w191 hb
         replace BK1698 := zkb BK1698 hb
         replace BK1699 := zkb BK1699 hb
         replace BK1700 := zkb BK1700 hb
         replace BK1701 := zkb BK1701 hb
         replace BK1709 := zkb BK1709 hb
         replace BK1713 := zkb BK1713 hb
         replace BK1720 := zkb BK1720 hb
         replace HB := zkB HB hb
         (try clear hb)
         refine hK.out _ _ (zk3 BK1698 (zk3 BK1699 (zk3 BK1709 (ze3 BK1720)))) (fun hHeld => ?_)
         clear hK K
         refine znA 88 (h := ?_)
         refine zoA 41 90 (h := fun K hK => ?_)
         refine zgA Try.func69 (span_Abs.calls kj9 t1706 t1707 t1708 t1756 t1757 t1758 _ A176.out) (h := ?_)
         rintro w192 hb
         replace BK1698 := zkb BK1698 hb
         replace BK1699 := zkb BK1699 hb
         replace BK1700 := zkb BK1700 hb
         replace BK1701 := zkb BK1701 hb
         replace BK1709 := zkb BK1709 hb
         replace BK1713 := zkb BK1713 hb
         replace BK1720 := zkb BK1720 hb
         replace HB := zkB HB hb
         (try clear hb)
         refine hK.out _ _ (zk3 BK1698 (zk3 BK1699 (zk3 BK1709 (ze3 BK1720)))) (fun hHeld => ?_)
         clear hK K
         refine znA 90 (h := ?_)
         refine zoA 42 91 (h := fun K hK => ?_)
         refine zgA Try.func43 (span_Inside.calls kj9 t1753 t1754 t1755 t1756 t1757 t1758 t1759 _ A177.out) (h := ?_)
         rintro w193 hb
         replace BK1698 := zkb BK1698 hb
         replace BK1699 := zkb BK1699 hb
         replace BK1700 := zkb BK1700 hb
         replace BK1701 := zkb BK1701 hb
         replace BK1709 := zkb BK1709 hb
         replace BK1713 := zkb BK1713 hb
         replace BK1720 := zkb BK1720 hb
         replace HB := zkB HB hb
         (try clear hb)
         refine hK.out _ _ (zk3 BK1698 (zk3 BK1699 (zk3 BK1709 (ze3 BK1720)))) (fun hHeld => ?_)
         clear hK K
         refine znA 91 (h := ?_)
         refine zpA 43 92 (h := ?_)
         refine zpA 44 8 (h := ?_)
         refine done_ (done_of HT_.out (by kernel_rfl)) ?_
         try go_wp2
         go_ret
         exact ⟨zaE, zaB⟩
        replace c174 := Bool.eq_false_iff.mpr c174
        subst c174
        replace H := zif H
        subst hr_
        cases H
       replace c170 := Bool.eq_false_iff.mpr c170
       subst c170
       replace H := zif H
       subst hr_
       cases H
      replace c166 := Bool.eq_false_iff.mpr c166
      subst c166
      replace H := zif H
      subst hr_
      cases H
     replace c162 := Bool.eq_false_iff.mpr c162
     subst c162
     replace H := zif H
     subst hr_
     cases H
    exact absurd rfl c158
 replace c6 := Bool.eq_false_iff.mpr c6
 subst c6
 replace H := zif H
 subst hr_
 cases H
end Go.Proofs.Ytmadjhmecfbcmaa.F
end
section
namespace Go.Proofs.Ytmadjhmecfbcmaa.M
open Go.RowKit Go.Proofs.YtmadjhmecfbcmaaW.PrintWords Go.Proofs.YtmadjhmecfbcmaaW.PrintLast Go.Proofs.YtmadjhmecfbcmaaW.PrintMore Go.Proofs.Ytmadjhmecfbcmaa.F
def sgn (a : Nat) : Bool := a / 9223372036854775808 == 1
def ex (a : Nat) : Nat := a / 4503599627370496 % 2048
def fr (a : Nat) : Nat := a % 4503599627370496
def cls (a : Nat) : Nat := if ex a = 2047 then (if fr a = 0 then 3 else 4) else if ex a = 0 then (if fr a = 0 then 0 else 1) else 2
def spm (a : Nat) : Nat := if cls a = 2 then 4503599627370496 + fr a else if cls a = 1 then fr a else 0
def spe (a : Nat) : Int := if cls a = 2 then (ex a : Int) - 1075 else if cls a = 1 then -1074 else 0
def key (a : Nat) : Nat := a % 9223372036854775808
def U (a : Nat) : Prop := a < 18446744073709551616
theorem sgn_cast (a : Nat) : ((a : Int) / 9223372036854775808 == 1) = sgn a := by
  unfold sgn
  rw [Bool.eq_iff_iff, beq_iff_eq, beq_iff_eq]; omega
theorem ex_lt (a : Nat) : ex a < 2048 := by unfold ex; omega
theorem fr_lt (a : Nat) : fr a < 4503599627370496 := by unfold fr; omega
theorem key_lt (a : Nat) : key a < 9223372036854775808 := by unfold key; omega
theorem key_parts' (a : Nat) : key a = ex a * 4503599627370496 + fr a := by unfold key ex fr; omega
theorem a_parts (a : Nat) (h : U a) : a = sg (sgn a) + key a := by
  unfold sg sgn key U at *
  by_cases e : a / 9223372036854775808 = 1
  · rw [beq_iff_eq.2 e, if_pos rfl]; omega
  · rw [beq_eq_false_iff_ne.2 e, if_neg (by simp)]; omega
theorem Parts_ok (a : Nat) (h : U a) : pattern_Parts.f (a : Int) = some (sgn a, (ex a : Int), (fr a : Int)) := by
  unfold pattern_Parts.f U at *
  rw [sgn_cast, show (a : Int) / 4503599627370496 = ((a / 4503599627370496 : Nat) : Int) from by omega, and_2047 _ (by omega), and_52 _ h, w64 (by omega) (by omega)]
  rfl
theorem Class_ev (a : Nat) (h : U a) : Ev (fun k => pattern_Class.f k (a : Int)) (cls a : Int) := by
  refine Ev.later 2 fun k => ?_
  unfold pattern_Class.f
  rw [bind_of _ (Parts_ok a h)]
  dsimp only
  have e1 : ((fr a : Int) == 0) = decide (fr a = 0) := by rw [Bool.eq_iff_iff]; simp
  rw [e1]
  unfold cls
  by_cases c1 : ex a = 2047
  · rw [if_pos (by omega), if_pos c1]
    by_cases c2 : fr a = 0
    · simp [pattern_Class.j0, c2]
    · simp [pattern_Class.j0, c2, c1]
  · rw [if_neg (by omega), if_neg c1]
    by_cases c3 : ex a = 0
    · by_cases c2 : fr a = 0
      · simp [pattern_Class.j0, pattern_Class.j1, c2, c3]
      · simp [pattern_Class.j0, pattern_Class.j1, c2, c3]
    · have : ¬ ((ex a : Int) = 2047) := by omega
      simp [pattern_Class.j0, pattern_Class.j1, this, c3]
theorem cls_le (a : Nat) : cls a ≤ 4 := by unfold cls; (repeat' split) <;> omega
theorem spm_lt (a : Nat) : spm a < 9007199254740992 := by have := fr_lt a; unfold spm; (repeat' split) <;> omega
theorem spe_bd (a : Nat) : -1074 ≤ spe a ∧ spe a ≤ 971 := by
  unfold spe
  split
  · rename_i h
    have := ex_lt a
    have : 1 ≤ ex a ∧ ex a ≠ 2047 := by unfold cls at h; (repeat' split at h) <;> first | omega | (refine ⟨by omega, by omega⟩)
    omega
  · split <;> omega
theorem split_mn (a : Nat) : (if (cls a : Int) = 2 then (some ((4503599627370496 : Int) + (fr a : Int), (ex a : Int) - 1075)) else (if (cls a : Int) = 1 then (some ((fr a : Int), (-1074 : Int))) else (some (0, 0)))) = some ((spm a : Int), spe a) := by
  unfold spm spe
  by_cases c1 : cls a = 2
  · simp only [c1, if_true]; rw [Int.natCast_add]; rfl
  · have h1 : ¬ (cls a : Int) = 2 := by omega
    by_cases c2 : cls a = 1
    · have h2 : (cls a : Int) = 1 := by omega
      rw [if_neg h1, if_pos h2, if_neg c1, if_neg c1, if_pos c2, if_pos c2]
    · have h2 : ¬ (cls a : Int) = 1 := by omega
      rw [if_neg h1, if_neg h2, if_neg c1, if_neg c1, if_neg c2, if_neg c2]; rfl
theorem Split_ev (a : Nat) (h : U a) : Ev (fun k => pattern_Split.f k (a : Int)) ((spm a : Int), spe a) := by
  unfold pattern_Split.f
  refine Ev.b _ (Ev.const (Parts_ok a h)) (Ev.b _ (Class_ev a h) (Ev.const ?_))
  dsimp only
  have h1 := fr_lt a
  have h2 := ex_lt a
  have e1 : bits .or .u64 4503599627370496 (fr a : Int) = 4503599627370496 + (fr a : Int) := by
    have := or_join 4503599627370496 (fr a) 52 (by decide) (by omega) (by decide) (by omega)
    rw [Int.natCast_add] at this; exact this
  have e2 : wrap64 ((ex a : Int) - 1075) = (ex a : Int) - 1075 := w64 (by omega) (by omega)
  refine Eq.trans ?_ (split_mn a)
  rw [e1, e2]
theorem of_ev (a : Nat) (h : U a) : Ev (fun k => soft_of.f k (a : Int)) ((a : Int), (cls a : Int), sgn a, (spm a : Int), spe a) := by
  unfold soft_of.f
  refine Ev.b _ (Split_ev a h) (Ev.b _ (Class_ev a h) (Ev.const ?_))
  rw [sgn_cast]
def mk (neg : Bool) (e f : Nat) : Nat := sg neg + (e * 4503599627370496 + f)
theorem Make_ev (neg : Bool) (e f : Nat) (he : e ≤ 2047) (hf : f < 4503599627370496) : Ev (fun k => pattern_Make.f k neg (e : Int) (f : Int)) ((mk neg e f : Int), 0) := by
  refine Ev.later 1 fun k => ?_
  unfold pattern_Make.f
  rw [if_neg (by omega), if_neg (by omega), decide_eq_false (by omega)]
  simp only [pattern_Make.j0]
  rw [if_neg (by simp), wu64 (n := (e : Int)) (by omega) (by omega), wu64 (n := (e : Int) * 4503599627370496) (by omega) (by omega)]
  rw [show (e : Int) * 4503599627370496 = ((e * 4503599627370496 : Nat) : Int) from by omega]
  rw [or_join (e * 4503599627370496) f 52 (by omega) hf (by omega) (by omega)]
  unfold mk sg
  cases neg
  · rw [if_neg (by simp)]; simp
  · rw [if_pos rfl, show (9223372036854775808 : Int) = ((9223372036854775808 : Nat) : Int) from rfl, or_join' 9223372036854775808 _ 63 (by decide) (by omega) (by decide) (by omega)]
    simp
theorem zero_ev (neg : Bool) : Ev (fun k => soft_zero.f k neg) (sg neg : Int) := by
  unfold soft_zero.f
  exact Ev.b _ (Make_ev neg 0 0 (by omega) (by omega)) (Ev.now _)
theorem Inf_ev (neg : Bool) : Ev (fun k => pattern_Inf.f k neg) ((sg neg + 9218868437227405312 : Nat) : Int) := by
  unfold pattern_Inf.f
  exact Ev.b _ (Make_ev neg 2047 0 (by omega) (by omega)) (Ev.now _)
theorem nan_ev (a : Nat) (h : U a) : Ev (fun k => pattern_nan.f k (a : Int)) (decide (cls a = 4)) := by
  unfold pattern_nan.f
  refine Ev.b _ (Class_ev a h) (Ev.const ?_)
  congr 1; rw [Bool.eq_iff_iff, beq_iff_eq, decide_eq_true_iff]; omega
theorem flip_U (a : Nat) (h : U a) : U (flip a) := by unfold U flip at *; split <;> omega
def ng (a : Nat) : Nat := if cls a = 4 then a else flip a
theorem ng_U (a : Nat) (h : U a) : U (ng a) := by unfold ng; split; exact h; exact flip_U a h
theorem Neg_ev (a : Nat) (h : U a) : Ev (fun k => pattern_Neg.f k (a : Int)) (ng a : Int) := by
  unfold pattern_Neg.f
  refine Ev.b _ (nan_ev a h) (Ev.const ?_)
  unfold ng
  by_cases c : cls a = 4
  · rw [decide_eq_true c, if_pos rfl, if_pos c]
  · rw [decide_eq_false c, if_neg (by simp), if_neg c, xor_sign a h]
end Go.Proofs.Ytmadjhmecfbcmaa.M
end
