/- The walk of the law SpanMakes and what it computes, part 5 of 6: no conditions. -/
import Derived.Test.YtmadjhmecfbcmaaASpanMakes4
set_option linter.unusedVariables false
set_option linter.unusedSimpArgs false
section
namespace Go.Proofs.Ytmadjhmecfbcmaa.F
open Go.RowKit Go.Proofs.YtmadjhmecfbcmaaW.PrintWords Go.Proofs.YtmadjhmecfbcmaaW.PrintLast Go.Proofs.YtmadjhmecfbcmaaW.PrintMore
attribute [local go_sem] max2_int min2_int max_two min_two max_three min_three max_four min_four
set_option linter.unusedVariables false
set_option linter.unusedSimpArgs false
set_option maxHeartbeats 8000000
set_option maxRecDepth 100000
attribute [local go_sem high] eqA43
def flyballlaw16_works.T6 : Bool × List (List Nat × List Nat) := (true, [([], []), ([], []), ([0, 1], [0, 1]), ([2, 1], [2]), ([3], [3]), ([3, 3], [3]), ([4, 5, 3], [3, 4, 5]), ([3, 6], [3, 6]), ([7, 5], [7]), ([8], [8]), ([8, 8], [8]), ([9, 10, 8], [8, 9, 10]), ([8, 11], [8, 11]), ([12, 10], [12]), ([13], [13]), ([13, 13], [13]), ([15, 15, 13], [13, 15]), ([14, 16, 13], [13, 14, 16]), ([13, 17], [13, 17]), ([18, 16], [18]), ([19], [19]), ([19, 19], [19]), ([20, 21, 19], [19, 20, 21]), ([19, 22], [19, 22]), ([23, 21], [23]), ([24], [24]), ([24, 24], [24]), ([25, 26, 24], [24, 25, 26]), ([24, 27], [24, 27]), ([28, 26], [28]), ([29, 29], [29]), ([30, 29], [29, 30]), ([29, 31], [29, 31]), ([32, 30], [32]), ([33], [33]), ([34, 33, 33], [33, 34]), ([33, 35], [33, 35]), ([36, 35], [36]), ([37], [37]), ([37, 37], [37]), ([38, 39, 39, 37], [37, 38, 39]), ([37, 40], [37, 40]), ([41, 40], [41]), ([42], [42]), ([42], [42]), ([43, 44, 42], [42, 43, 44]), ([45, 42, 42], [42, 45]), ([46, 42], [42]), ([46, 47, 42], [42, 46, 47]), ([42, 48], [42, 48]), ([49, 47], [49]), ([50], [50]), ([50], [50]), ([51, 52, 50, 50], [50, 51, 52]), ([53, 50], [50]), ([53, 54, 50], [50, 53, 54]), ([50, 55], [50, 55]), ([56, 54], [56]), ([57], [57]), ([58, 57, 57], [57, 58]), ([59, 59, 57], [57, 59]), ([60, 57], [57, 60]), ([57, 61], [57, 61]), ([62, 60], [62]), ([63, 63], [63]), ([64, 64, 63], [63, 64]), ([65, 63], [63]), ([65, 66, 63], [63, 65, 66]), ([63, 67], [63, 67]), ([68, 66, 0, 1, 2, 3, 4, 5, 6, 7, 8, 9, 10, 11, 12, 13, 14, 15, 16, 17, 18, 19, 20, 21, 22, 23, 24, 25, 26, 27, 28, 29, 30, 31, 32, 33, 34, 35, 36, 37, 38, 39, 40, 41, 42, 43, 44, 45, 46, 47, 48, 49, 50, 51, 52, 53, 54, 55, 56, 57, 58, 59, 60, 61, 62, 63, 64, 65, 66, 67, 68], [68])])
def flyballlaw16_works.B6 : List Nat := [0, 0, 3, 7, 15, 15, 63, 127, 255, 511, 511, 2047, 4095, 8191, 16383, 16383, 49151, 131071, 262143, 524287, 1048575, 1048575, 4194303, 8388607, 16777215, 33554431, 33554431, 134217727, 268435455, 536870911, 1073741823, 2147483647, 4294967295, 8589934591, 17179869183, 34359738367, 68719476735, 137438953471, 274877906943, 274877906943, 1099511627775, 2199023255551, 4398046511103, 8796093022207, 8796093022207, 35184372088831, 70368744177663, 140737488355327, 281474976710655, 562949953421311, 1125899906842623, 2251799813685247, 2251799813685247, 9007199254740991, 18014398509481983, 36028797018963967, 72057594037927935, 144115188075855871, 288230376151711743, 576460752303423487, 1152921504606846975, 2305843009213693951, 4611686018427387903, 9223372036854775807, 18446744073709551615, 36893488147419103231, 73786976294838206463, 147573952589676412927, 295147905179352825855, 590295810358705651711]
theorem flyballlaw16_works.tab6 : rtab .any (opsOf Try.f36 6) = flyballlaw16_works.T6 := by kernel_rfl
theorem flyballlaw16_works.bits6 : waitsOk flyballlaw16_works.T6.2 flyballlaw16_works.B6 = true := by kernel_rfl
theorem flyballlaw16_works.calls (k : Nat)  (r : Bool) (w : World) (h : flyballlaw16_works.f k  = some r) (hr_ : r = true) :
  Calls Try.prog 36 #[] w fun e w' => e = .returned (.bool r) ∧ Below w.heap.size w w' := by
 have hu43 := Try.underlying43
 have hfd0_ : ∀ (b : Bool) (x y : Int) (w : World), (Instr.field 43 (.agg #[.bool b, .int .u64 x, .int .u64 y]) 0).run Try.prog w = .ok (.bool b) w := fun _ _ _ _ => by kernel_rfl
 have hfd1_ : ∀ (b : Bool) (x y : Int) (w : World), (Instr.field 43 (.agg #[.bool b, .int .u64 x, .int .u64 y]) 1).run Try.prog w = .ok (.int .u64 x) w := fun _ _ _ _ => by kernel_rfl
 have hfd2_ : ∀ (b : Bool) (x y : Int) (w : World), (Instr.field 43 (.agg #[.bool b, .int .u64 x, .int .u64 y]) 2).run Try.prog w = .ok (.int .u64 y) w := fun _ _ _ _ => by kernel_rfl
 have HB := Aside0.mk (Below.refl w.heap.size w)
 have H : ((span_Make.f k 4607182418800017408 4611686018427387904).bind fun bt984 => ((span_Make.f k 13837309855095848960 4616189618054758400).bind fun bt987 => ((span_Mul.f k bt984.1 bt984.2.1 bt984.2.2 bt987.1 bt987.2.1 bt987.2.2).bind fun bt990 => ((span_Point.f k 4607182418800017408).bind fun bt994 => ((span_Make.f k 13830554455654793216 4611686018427387904).bind fun bt997 => ((span_Div.f k bt994.1 bt994.2.1 bt994.2.2 bt997.1 bt997.2.1 bt997.2.2).bind fun bt1000 => ((span_Point.f k 0).bind fun bt1004 => ((span_Make.f k 13830554455654793216 4611686018427387904).bind fun bt1007 => ((span_Div.f k bt1004.1 bt1004.2.1 bt1004.2.2 bt1007.1 bt1007.2.1 bt1007.2.2).bind fun bt1010 => ((span_Point.f k 4607182418800017408).bind fun bt1014 => ((span_Make.f k 0 4616189618054758400).bind fun bt1017 => ((span_Div.f k bt1014.1 bt1014.2.1 bt1014.2.2 bt1017.1 bt1017.2.1 bt1017.2.2).bind fun bt1020 => ((span_Make.f k 0 4616189618054758400).bind fun bt1024 => ((span_Make.f k 4607182418800017408 4611686018427387904).bind fun bt1027 => ((span_Test.f k 9 bt1024.1 bt1024.2.1 bt1024.2.2 bt1027.1 bt1027.2.1 bt1027.2.2).bind fun bt1030 => ((span_Make.f k 13841813454723219456 4620693217682128896).bind fun bt1038 => (if (bt990.1 == bt1038.1 && (bt990.2.1 == bt1038.2.1 && (bt990.2.2 == bt1038.2.2))) = true then ((span_All.f k).bind fun bt1041 => (if (bt1000.1 == bt1041.1 && (bt1000.2.1 == bt1041.2.1 && (bt1000.2.2 == bt1041.2.2))) = true then ((span_Point.f k 0).bind fun bt1044 => (if (bt1010.1 == bt1044.1 && (bt1010.2.1 == bt1044.2.1 && (bt1010.2.2 == bt1044.2.2))) = true then ((pattern_Inf.f k false).bind fun t1047 => ((span_Make.f k 4598175219545276416 t1047).bind fun bt1048 => (if (bt1020.1 == bt1048.1 && (bt1020.2.1 == bt1048.2.1 && (bt1020.2.2 == bt1048.2.2))) = true then ((span_Make.f k 0 4611686018427387903).bind fun bt1051 => (if (bt1030.1 == bt1051.1 && (bt1030.2.1 == bt1051.2.1 && (bt1030.2.2.1 == bt1051.2.2))) = true then ((span_Make.f k 4607182418800017408 4611686018427387904).bind fun bt1054 => (if (bt1030.2.2.2.1 == bt1054.1 && (bt1030.2.2.2.2.1 == bt1054.2.1 && (bt1030.2.2.2.2.2 == bt1054.2.2))) = true then ((span_Make.f k 4611686018427387904 4607182418800017408).bind fun bt1057 => (if bt1057.1 = true then ((span_Has.f k bt1030.1 bt1030.2.1 bt1030.2.2.1 4607182418800017408).bind fun t1060 => (if t1060 = true then ((span_Make.f k 0 4616189618054758400).bind fun bt1061 => ((span_Inside.f k bt1030.2.2.2.1 bt1030.2.2.2.2.1 bt1030.2.2.2.2.2 bt1061.1 bt1061.2.1 bt1061.2.2).bind fun t1064 => (if t1064 = true then ((span_Join.f k (([(⟨bt1030.1, bt1030.2.1, bt1030.2.2.1⟩ : S43), (⟨bt1030.2.2.2.1, bt1030.2.2.2.2.1, bt1030.2.2.2.2.2⟩ : S43)] : List (S43)))).bind fun bt1068 => ((span_Make.f k 0 4611686018427387904).bind fun bt1071 => (if (bt1068.1 == bt1071.1 && (bt1068.2.1 == bt1071.2.1 && (bt1068.2.2 == bt1071.2.2))) = true then ((span_Meet.f k bt1030.1 bt1030.2.1 bt1030.2.2.1 bt1030.2.2.2.1 bt1030.2.2.2.2.1 bt1030.2.2.2.2.2).bind fun bt1074 => ((span_Make.f k 4607182418800017408 4611686018427387903).bind fun bt1077 => (if (bt1074.1 == bt1077.1 && (bt1074.2.1 == bt1077.2.1 && (bt1074.2.2 == bt1077.2.2))) = true then ((span_Neg.f k bt1030.2.2.2.1 bt1030.2.2.2.2.1 bt1030.2.2.2.2.2).bind fun bt1080 => ((span_Most.f k bt1080.1 bt1080.2.1 bt1080.2.2).bind fun t1083 => (if t1083 = 4611686018427387904 then ((span_Make.f k 13830554455654793216 0).bind fun bt1084 => ((span_Abs.f k bt1084.1 bt1084.2.1 bt1084.2.2).bind fun bt1087 => ((span_Make.f k 0 4607182418800017408).bind fun bt1090 => (some (bt1087.1 == bt1090.1 && (bt1087.2.1 == bt1090.2.1 && (bt1087.2.2 == bt1090.2.2))))))) else (some false)))) else (some false)))) else (some false)))) else (some false)))) else (some false))) else (some false))) else (some false))) else (some false))) else (some false)))) else (some false))) else (some false))) else (some false)))))))))))))))))) = some r := h
 clear h
 obtain ⟨⟨t984, t985, t986⟩, A1, H⟩ := zbs H
 try dsimp only at H
 obtain ⟨⟨t987, t988, t989⟩, A2, H⟩ := zbs H
 try dsimp only at H
 obtain ⟨⟨t990, t991, t992⟩, A3, H⟩ := zbs H
 try dsimp only at H
 obtain ⟨⟨t994, t995, t996⟩, A4, H⟩ := zbs H
 try dsimp only at H
 obtain ⟨⟨t997, t998, t999⟩, A5, H⟩ := zbs H
 try dsimp only at H
 obtain ⟨⟨t1000, t1001, t1002⟩, A6, H⟩ := zbs H
 try dsimp only at H
 obtain ⟨⟨t1004, t1005, t1006⟩, A7, H⟩ := zbs H
 try dsimp only at H
 obtain ⟨⟨t1007, t1008, t1009⟩, A8, H⟩ := zbs H
 try dsimp only at H
 obtain ⟨⟨t1010, t1011, t1012⟩, A9, H⟩ := zbs H
 try dsimp only at H
 obtain ⟨⟨t1014, t1015, t1016⟩, A10, H⟩ := zbs H
 try dsimp only at H
 obtain ⟨⟨t1017, t1018, t1019⟩, A11, H⟩ := zbs H
 try dsimp only at H
 obtain ⟨⟨t1020, t1021, t1022⟩, A12, H⟩ := zbs H
 try dsimp only at H
 obtain ⟨⟨t1024, t1025, t1026⟩, A13, H⟩ := zbs H
 try dsimp only at H
 obtain ⟨⟨t1027, t1028, t1029⟩, A14, H⟩ := zbs H
 try dsimp only at H
 obtain ⟨⟨t1030, t1031, t1032, t1033, t1034, t1035⟩, A15, H⟩ := zbs H
 try dsimp only at H
 obtain ⟨⟨t1038, t1039, t1040⟩, A16, H⟩ := zbs H
 try dsimp only at H
 by_cases c17 : (t990 == t1038 && (t991 == t1039 && (t992 == t1040))) = true
 ·rw [if_pos c17] at H
  have c17b0 : (t990 == t1038 && (t991 == t1039 && (t992 == t1040))) = true := c17
  (try (have c17b1 : decide (t990 = t1038 && (t991 == t1039 && (t992 == t1040))) = true := by simpa using c17))
  (try (have c17b2 : (t990 == t1038 && (t991 == t1039 && (t992 == t1040))) = true := by simpa using c17))
  clear c17
  obtain ⟨⟨t1041, t1042, t1043⟩, A18, H⟩ := zbs H
  try dsimp only at H
  by_cases c19 : (t1000 == t1041 && (t1001 == t1042 && (t1002 == t1043))) = true
  ·rw [if_pos c19] at H
   have c19b0 : (t1000 == t1041 && (t1001 == t1042 && (t1002 == t1043))) = true := c19
   (try (have c19b1 : decide (t1000 = t1041 && (t1001 == t1042 && (t1002 == t1043))) = true := by simpa using c19))
   (try (have c19b2 : (t1000 == t1041 && (t1001 == t1042 && (t1002 == t1043))) = true := by simpa using c19))
   clear c19
   obtain ⟨⟨t1044, t1045, t1046⟩, A20, H⟩ := zbs H
   try dsimp only at H
   by_cases c21 : (t1010 == t1044 && (t1011 == t1045 && (t1012 == t1046))) = true
   ·rw [if_pos c21] at H
    have c21b0 : (t1010 == t1044 && (t1011 == t1045 && (t1012 == t1046))) = true := c21
    (try (have c21b1 : decide (t1010 = t1044 && (t1011 == t1045 && (t1012 == t1046))) = true := by simpa using c21))
    (try (have c21b2 : (t1010 == t1044 && (t1011 == t1045 && (t1012 == t1046))) = true := by simpa using c21))
    clear c21
    obtain ⟨t1047, A22, H⟩ := zbs H
    try dsimp only at H
    obtain ⟨⟨t1048, t1049, t1050⟩, A23, H⟩ := zbs H
    try dsimp only at H
    by_cases c24 : (t1020 == t1048 && (t1021 == t1049 && (t1022 == t1050))) = true
    ·rw [if_pos c24] at H
     have c24b0 : (t1020 == t1048 && (t1021 == t1049 && (t1022 == t1050))) = true := c24
     (try (have c24b1 : decide (t1020 = t1048 && (t1021 == t1049 && (t1022 == t1050))) = true := by simpa using c24))
     (try (have c24b2 : (t1020 == t1048 && (t1021 == t1049 && (t1022 == t1050))) = true := by simpa using c24))
     clear c24
     obtain ⟨⟨t1051, t1052, t1053⟩, A25, H⟩ := zbs H
     try dsimp only at H
     by_cases c26 : (t1030 == t1051 && (t1031 == t1052 && (t1032 == t1053))) = true
     ·rw [if_pos c26] at H
      have c26b0 : (t1030 == t1051 && (t1031 == t1052 && (t1032 == t1053))) = true := c26
      (try (have c26b1 : decide (t1030 = t1051 && (t1031 == t1052 && (t1032 == t1053))) = true := by simpa using c26))
      (try (have c26b2 : (t1030 == t1051 && (t1031 == t1052 && (t1032 == t1053))) = true := by simpa using c26))
      clear c26
      obtain ⟨⟨t1054, t1055, t1056⟩, A27, H⟩ := zbs H
      try dsimp only at H
      by_cases c28 : (t1033 == t1054 && (t1034 == t1055 && (t1035 == t1056))) = true
      ·rw [if_pos c28] at H
       have c28b0 : (t1033 == t1054 && (t1034 == t1055 && (t1035 == t1056))) = true := c28
       (try (have c28b1 : decide (t1033 = t1054 && (t1034 == t1055 && (t1035 == t1056))) = true := by simpa using c28))
       (try (have c28b2 : (t1033 == t1054 && (t1034 == t1055 && (t1035 == t1056))) = true := by simpa using c28))
       clear c28
       obtain ⟨⟨t1057, t1058, t1059⟩, A29, H⟩ := zbs H
       try dsimp only at H
       by_cases c30 : t1057 = true
       ·subst c30
        replace H := zit H
        obtain ⟨t1060, A31, H⟩ := zbs H
        try dsimp only at H
        by_cases c32 : t1060 = true
        ·subst c32
         replace H := zit H
         obtain ⟨⟨t1061, t1062, t1063⟩, A33, H⟩ := zbs H
         try dsimp only at H
         obtain ⟨t1064, A34, H⟩ := zbs H
         try dsimp only at H
         by_cases c35 : t1064 = true
         ·subst c35
          replace H := zit H
          obtain ⟨y1065, hy1065⟩ : ∃ y_ : List (S43), y_ = (([(⟨t1030, t1031, t1032⟩ : S43), (⟨t1033, t1034, t1035⟩ : S43)] : List (S43))) := ⟨_, rfl⟩
          replace H : ((span_Join.f k y1065).bind fun bt1068 => ((span_Make.f k 0 4611686018427387904).bind fun bt1071 => (if (bt1068.1 == bt1071.1 && (bt1068.2.1 == bt1071.2.1 && (bt1068.2.2 == bt1071.2.2))) = true then ((span_Meet.f k t1030 t1031 t1032 t1033 t1034 t1035).bind fun bt1074 => ((span_Make.f k 4607182418800017408 4611686018427387903).bind fun bt1077 => (if (bt1074.1 == bt1077.1 && (bt1074.2.1 == bt1077.2.1 && (bt1074.2.2 == bt1077.2.2))) = true then ((span_Neg.f k t1033 t1034 t1035).bind fun bt1080 => ((span_Most.f k bt1080.1 bt1080.2.1 bt1080.2.2).bind fun t1083 => (if t1083 = 4611686018427387904 then ((span_Make.f k 13830554455654793216 0).bind fun bt1084 => ((span_Abs.f k bt1084.1 bt1084.2.1 bt1084.2.2).bind fun bt1087 => ((span_Make.f k 0 4607182418800017408).bind fun bt1090 => (some (bt1087.1 == bt1090.1 && (bt1087.2.1 == bt1090.2.1 && (bt1087.2.2 == bt1090.2.2))))))) else (some false)))) else (some false)))) else (some false)))) = some r := by first | (rw [hy1065]; with_reducible exact H) | (have H2_ := (Option.bind_some _ _).symm.trans H; rw [hy1065]; with_reducible exact H2_) | (have H2_ := (Option.bind_some _ _).symm.trans H; with_reducible exact H2_) | with_reducible exact H | (rw [hy1065]; exact H) | exact H
          have Ny1065 := Aside0.mk hy1065
          clear hy1065
          obtain ⟨⟨t1068, t1069, t1070⟩, A36, H⟩ := zbs H
          try dsimp only at H
          obtain ⟨⟨t1071, t1072, t1073⟩, A37, H⟩ := zbs H
          try dsimp only at H
          by_cases c38 : (t1068 == t1071 && (t1069 == t1072 && (t1070 == t1073))) = true
          ·rw [if_pos c38] at H
           have c38b0 : (t1068 == t1071 && (t1069 == t1072 && (t1070 == t1073))) = true := c38
           (try (have c38b1 : decide (t1068 = t1071 && (t1069 == t1072 && (t1070 == t1073))) = true := by simpa using c38))
           (try (have c38b2 : (t1068 == t1071 && (t1069 == t1072 && (t1070 == t1073))) = true := by simpa using c38))
           clear c38
           obtain ⟨⟨t1074, t1075, t1076⟩, A39, H⟩ := zbs H
           try dsimp only at H
           obtain ⟨⟨t1077, t1078, t1079⟩, A40, H⟩ := zbs H
           try dsimp only at H
           by_cases c41 : (t1074 == t1077 && (t1075 == t1078 && (t1076 == t1079))) = true
           ·rw [if_pos c41] at H
            have c41b0 : (t1074 == t1077 && (t1075 == t1078 && (t1076 == t1079))) = true := c41
            (try (have c41b1 : decide (t1074 = t1077 && (t1075 == t1078 && (t1076 == t1079))) = true := by simpa using c41))
            (try (have c41b2 : (t1074 == t1077 && (t1075 == t1078 && (t1076 == t1079))) = true := by simpa using c41))
            clear c41
            obtain ⟨⟨t1080, t1081, t1082⟩, A42, H⟩ := zbs H
            try dsimp only at H
            obtain ⟨t1083, A43, H⟩ := zbs H
            try dsimp only at H
            by_cases c44 : t1083 = 4611686018427387904
            ·rw [if_pos c44] at H
             have c44b0 : (t1083 == 4611686018427387904) = true := beq_iff_eq.mpr c44
             have c44b1 : (t1083 != 4611686018427387904) = false := bne_eq_false_iff_eq.mpr c44
             clear c44
             obtain ⟨⟨t1084, t1085, t1086⟩, A45, H⟩ := zbs H
             try dsimp only at H
             obtain ⟨⟨t1087, t1088, t1089⟩, A46, H⟩ := zbs H
             try dsimp only at H
             obtain ⟨⟨t1090, t1091, t1092⟩, A47, H⟩ := zbs H
             try dsimp only at H
             obtain rfl := Option.some.inj H
             go_enter Try.func36, Try.ntmps36
             try go_wp2_with (first | ((with_reducible refine gtc 37 rfl ?_); refine zgL 7 Try.func37 (span_Make.calls k 4607182418800017408 4611686018427387904 t984 t985 t986 _ A1.out) (h := ?_); rintro w48 hb; replace HB := Aside0.mk (below_step zaB hb); (try clear hb)) | ((with_reducible refine gtc 37 rfl ?_); refine zgL 8 Try.func37 (span_Make.calls k 13837309855095848960 4616189618054758400 t987 t988 t989 _ A2.out) (h := ?_); rintro w49 hb; replace HB := Aside0.mk (below_step zaB hb); (try clear hb)) | ((with_reducible refine gtc 67 rfl ?_); refine zgL 9 Try.func67 (span_Mul.calls k t984 t985 t986 t987 t988 t989 t990 t991 t992 _ A3.out) (h := ?_); rintro w50 hb; replace HB := Aside0.mk (below_step zaB hb); (try clear hb)) | ((with_reducible refine gtd 1 rfl ?_); (try (refine gate_guard (by rfl) ?_; dsimp only)); refine zbx 1 #[.bool false, .int .u64 0, .int .u64 0] 43 (h := ?_); intro gb993 hg w51 hbox hb; have GW993 := zkZ hg (zaB (p := Below w.heap.size w _)); replace HB := Aside0.mk (below_step zaB hb); have BK993 := Aside0.mk (hbox); clear hb hbox hg; obtain ⟨_, _, _, _, _, _⟩ := zq3 BK993) | ((with_reducible refine gtc 39 rfl ?_); refine zgL 10 Try.func39 (span_Point.calls k 4607182418800017408 t994 t995 t996 _ A4.out) (h := ?_); rintro w53 hb; replace BK993 := Aside0.mk (blk_below (o := .cells #[.bool t990, .int .u64 t991, .int .u64 t992] 43 (0, 0)) (blk_put (cs := #[.bool t990, .int .u64 t991, .int .u64 0]) (blk_put (cs := #[.bool t990, .int .u64 0, .int .u64 0]) (blk_put BK993.out 0 _ rfl) 1 _ rfl) 2 _ rfl) hb); replace HB := Aside0.mk (below_step (below_set (below_set (below_set HB.out GW993.out) GW993.out) GW993.out) hb); (try clear hb)) | ((with_reducible refine gtc 37 rfl ?_); refine zgL 11 Try.func37 (span_Make.calls k 13830554455654793216 4611686018427387904 t997 t998 t999 _ A5.out) (h := ?_); rintro w54 hb; replace BK993 := zkb BK993 hb; replace HB := zkB HB hb; (try clear hb)) | ((with_reducible refine gtc 68 rfl ?_); refine zgL 12 Try.func68 (span_Div.calls k t994 t995 t996 t997 t998 t999 t1000 t1001 t1002 _ A6.out) (h := ?_); rintro w55 hb; replace BK993 := zkb BK993 hb; replace HB := zkB HB hb; (try clear hb)) | ((with_reducible refine gtd 2 rfl ?_); (try (refine gate_guard (by rfl) ?_; dsimp only)); refine zbx 2 #[.bool false, .int .u64 0, .int .u64 0] 43 (h := ?_); intro gb1003 hg w56 hbox hb; have GW1003 := zkz HB hg; have NB993_1003 := zkl BK993 hg; have NB1003_993 := zkr BK993 hg; replace BK993 := zkb BK993 hb; replace HB := zkB HB hb; have BK1003 := Aside0.mk (hbox); clear hb hbox hg; obtain ⟨_, _⟩ := zsy NB1003_993; obtain ⟨_, _, _, _, _, _⟩ := zq3 BK1003) | ((with_reducible refine gtc 39 rfl ?_); refine zgL 13 Try.func39 (span_Point.calls k 0 t1004 t1005 t1006 _ A7.out) (h := ?_); rintro w59 hb; replace BK993 := Aside0.mk (blk_below (zkf (zkf (zkf BK993.out NB993_1003.out _) NB993_1003.out _) NB993_1003.out _) hb); replace BK1003 := Aside0.mk (blk_below (o := .cells #[.bool t1000, .int .u64 t1001, .int .u64 t1002] 43 (0, 0)) (blk_put (cs := #[.bool t1000, .int .u64 t1001, .int .u64 0]) (blk_put (cs := #[.bool t1000, .int .u64 0, .int .u64 0]) (blk_put BK1003.out 0 _ rfl) 1 _ rfl) 2 _ rfl) hb); replace HB := Aside0.mk (below_step (below_set (below_set (below_set HB.out GW1003.out) GW1003.out) GW1003.out) hb); (try clear hb)) | ((with_reducible refine gtc 37 rfl ?_); refine zgL 14 Try.func37 (span_Make.calls k 13830554455654793216 4611686018427387904 t1007 t1008 t1009 _ A8.out) (h := ?_); rintro w60 hb; replace BK993 := zkb BK993 hb; replace BK1003 := zkb BK1003 hb; replace HB := zkB HB hb; (try clear hb)) | ((with_reducible refine gtc 68 rfl ?_); refine zgL 15 Try.func68 (span_Div.calls k t1004 t1005 t1006 t1007 t1008 t1009 t1010 t1011 t1012 _ A9.out) (h := ?_); rintro w61 hb; replace BK993 := zkb BK993 hb; replace BK1003 := zkb BK1003 hb; replace HB := zkB HB hb; (try clear hb)) | ((with_reducible refine gtd 3 rfl ?_); (try (refine gate_guard (by rfl) ?_; dsimp only)); refine zbx 3 #[.bool false, .int .u64 0, .int .u64 0] 43 (h := ?_); intro gb1013 hg w62 hbox hb; have GW1013 := zkz HB hg; have NB993_1013 := zkl BK993 hg; have NB1013_993 := zkr BK993 hg; have NB1003_1013 := zkl BK1003 hg; have NB1013_1003 := zkr BK1003 hg; replace BK993 := zkb BK993 hb; replace BK1003 := zkb BK1003 hb; replace HB := zkB HB hb; have BK1013 := Aside0.mk (hbox); clear hb hbox hg; obtain ⟨_, _, _, _⟩ := zs2 NB1013_993 NB1013_1003; obtain ⟨_, _, _, _, _, _⟩ := zq3 BK1013) | ((with_reducible refine gtc 39 rfl ?_); refine zgL 16 Try.func39 (span_Point.calls k 4607182418800017408 t1014 t1015 t1016 _ A10.out) (h := ?_); rintro w66 hb; replace BK993 := Aside0.mk (blk_below (zkf (zkf (zkf BK993.out NB993_1013.out _) NB993_1013.out _) NB993_1013.out _) hb); replace BK1003 := Aside0.mk (blk_below (zkf (zkf (zkf BK1003.out NB1003_1013.out _) NB1003_1013.out _) NB1003_1013.out _) hb); replace BK1013 := Aside0.mk (blk_below (o := .cells #[.bool t1010, .int .u64 t1011, .int .u64 t1012] 43 (0, 0)) (blk_put (cs := #[.bool t1010, .int .u64 t1011, .int .u64 0]) (blk_put (cs := #[.bool t1010, .int .u64 0, .int .u64 0]) (blk_put BK1013.out 0 _ rfl) 1 _ rfl) 2 _ rfl) hb); replace HB := Aside0.mk (below_step (below_set (below_set (below_set HB.out GW1013.out) GW1013.out) GW1013.out) hb); (try clear hb)) | ((with_reducible refine gtc 37 rfl ?_); refine zgL 17 Try.func37 (span_Make.calls k 0 4616189618054758400 t1017 t1018 t1019 _ A11.out) (h := ?_); rintro w67 hb; replace BK993 := zkb BK993 hb; replace BK1003 := zkb BK1003 hb; replace BK1013 := zkb BK1013 hb; replace HB := zkB HB hb; (try clear hb)) | ((with_reducible refine gtc 68 rfl ?_); refine zgL 18 Try.func68 (span_Div.calls k t1014 t1015 t1016 t1017 t1018 t1019 t1020 t1021 t1022 _ A12.out) (h := ?_); rintro w68 hb; replace BK993 := zkb BK993 hb; replace BK1003 := zkb BK1003 hb; replace BK1013 := zkb BK1013 hb; replace HB := zkB HB hb; (try clear hb)) | ((with_reducible refine gtd 4 rfl ?_); (try (refine gate_guard (by rfl) ?_; dsimp only)); refine zbx 4 #[.bool false, .int .u64 0, .int .u64 0] 43 (h := ?_); intro gb1023 hg w69 hbox hb; have GW1023 := zkz HB hg; have NB993_1023 := zkl BK993 hg; have NB1023_993 := zkr BK993 hg; have NB1003_1023 := zkl BK1003 hg; have NB1023_1003 := zkr BK1003 hg; have NB1013_1023 := zkl BK1013 hg; have NB1023_1013 := zkr BK1013 hg; replace BK993 := zkb BK993 hb; replace BK1003 := zkb BK1003 hb; replace BK1013 := zkb BK1013 hb; replace HB := zkB HB hb; have BK1023 := Aside0.mk (hbox); clear hb hbox hg; obtain ⟨_, _, _, _, _, _⟩ := zs3 NB1023_993 NB1023_1003 NB1023_1013; obtain ⟨_, _, _, _, _, _⟩ := zq3 BK1023) | ((with_reducible refine gtc 37 rfl ?_); refine zgL 20 Try.func37 (span_Make.calls k 0 4616189618054758400 t1024 t1025 t1026 _ A13.out) (h := ?_); rintro w74 hb; replace BK993 := Aside0.mk (blk_below (zkf (zkf (zkf BK993.out NB993_1023.out _) NB993_1023.out _) NB993_1023.out _) hb); replace BK1003 := Aside0.mk (blk_below (zkf (zkf (zkf BK1003.out NB1003_1023.out _) NB1003_1023.out _) NB1003_1023.out _) hb); replace BK1013 := Aside0.mk (blk_below (zkf (zkf (zkf BK1013.out NB1013_1023.out _) NB1013_1023.out _) NB1013_1023.out _) hb); replace BK1023 := Aside0.mk (blk_below (o := .cells #[.bool t1020, .int .u64 t1021, .int .u64 t1022] 43 (0, 0)) (blk_put (cs := #[.bool t1020, .int .u64 t1021, .int .u64 0]) (blk_put (cs := #[.bool t1020, .int .u64 0, .int .u64 0]) (blk_put BK1023.out 0 _ rfl) 1 _ rfl) 2 _ rfl) hb); replace HB := Aside0.mk (below_step (below_set (below_set (below_set HB.out GW1023.out) GW1023.out) GW1023.out) hb); (try clear hb)) | ((with_reducible refine gtc 37 rfl ?_); refine zgL 21 Try.func37 (span_Make.calls k 4607182418800017408 4611686018427387904 t1027 t1028 t1029 _ A14.out) (h := ?_); rintro w75 hb; replace BK993 := zkb BK993 hb; replace BK1003 := zkb BK1003 hb; replace BK1013 := zkb BK1013 hb; replace BK1023 := zkb BK1023 hb; replace HB := zkB HB hb; (try clear hb)) | ((with_reducible refine gtc 52 rfl ?_); refine zgL 22 Try.func52 (span_Test.calls k 9 t1024 t1025 t1026 t1027 t1028 t1029 t1030 t1031 t1032 t1033 t1034 t1035 _ A15.out) (h := ?_); rintro w76 hb; replace BK993 := zkb BK993 hb; replace BK1003 := zkb BK1003 hb; replace BK1013 := zkb BK1013 hb; replace BK1023 := zkb BK1023 hb; replace HB := zkB HB hb; (try clear hb)) | ((with_reducible refine gtd 5 rfl ?_); (try (refine gate_guard (by rfl) ?_; dsimp only)); refine zbx 5 #[.bool false, .int .u64 0, .int .u64 0] 43 (h := ?_); intro gb1036 hg w77 hbox hb; have GW1036 := zkz HB hg; have NB993_1036 := zkl BK993 hg; have NB1036_993 := zkr BK993 hg; have NB1003_1036 := zkl BK1003 hg; have NB1036_1003 := zkr BK1003 hg; have NB1013_1036 := zkl BK1013 hg; have NB1036_1013 := zkr BK1013 hg; have NB1023_1036 := zkl BK1023 hg; have NB1036_1023 := zkr BK1023 hg; replace BK993 := zkb BK993 hb; replace BK1003 := zkb BK1003 hb; replace BK1013 := zkb BK1013 hb; replace BK1023 := zkb BK1023 hb; replace HB := zkB HB hb; have BK1036 := Aside0.mk (hbox); clear hb hbox hg) | ((with_reducible refine gtd 6 rfl ?_); (try (refine gate_guard (by rfl) ?_; dsimp only)); refine zbx 6 #[.bool false, .int .u64 0, .int .u64 0] 43 (h := ?_); intro gb1037 hg w78 hbox hb; have GW1037 := zkz HB hg; have NB993_1037 := zkl BK993 hg; have NB1037_993 := zkr BK993 hg; have NB1003_1037 := zkl BK1003 hg; have NB1037_1003 := zkr BK1003 hg; have NB1013_1037 := zkl BK1013 hg; have NB1037_1013 := zkr BK1013 hg; have NB1023_1037 := zkl BK1023 hg; have NB1037_1023 := zkr BK1023 hg; have NB1036_1037 := zkl BK1036 hg; have NB1037_1036 := zkr BK1036 hg; replace BK993 := zkb BK993 hb; replace BK1003 := zkb BK1003 hb; replace BK1013 := zkb BK1013 hb; replace BK1023 := zkb BK1023 hb; replace BK1036 := zkb BK1036 hb; replace HB := zkB HB hb; have BK1037 := Aside0.mk (hbox); clear hb hbox hg; obtain ⟨_, _, _, _, _, _, _, _, _, _⟩ := zs5 NB1036_993 NB1036_1003 NB1036_1013 NB1036_1023 NB1036_1037; obtain ⟨_, _, _, _, _, _⟩ := zq3 BK1036; obtain ⟨_, _, _, _, _, _, _, _⟩ := zs4 NB1037_993 NB1037_1003 NB1037_1013 NB1037_1023; obtain ⟨_, _, _, _, _, _⟩ := zq3 BK1037))
             generalize hW_ : ((((((w78.setCell ⟨gb1036, 0, none⟩ (.bool t1030)).setCell ⟨gb1036, 1, none⟩ (.int .u64 t1031)).setCell ⟨gb1036, 2, none⟩ (.int .u64 t1032)).setCell ⟨gb1037, 0, none⟩ (.bool t1033)).setCell ⟨gb1037, 1, none⟩ (.int .u64 t1034)).setCell ⟨gb1037, 2, none⟩ (.int .u64 t1035)) = w90
             replace BK993 := zkg hW_ (zkf (zkf (zkf (zkf (zkf (zkf BK993.out NB993_1036.out _) NB993_1036.out _) NB993_1036.out _) NB993_1037.out _) NB993_1037.out _) NB993_1037.out _)
             replace BK1003 := zkg hW_ (zkf (zkf (zkf (zkf (zkf (zkf BK1003.out NB1003_1036.out _) NB1003_1036.out _) NB1003_1036.out _) NB1003_1037.out _) NB1003_1037.out _) NB1003_1037.out _)
             replace BK1013 := zkg hW_ (zkf (zkf (zkf (zkf (zkf (zkf BK1013.out NB1013_1036.out _) NB1013_1036.out _) NB1013_1036.out _) NB1013_1037.out _) NB1013_1037.out _) NB1013_1037.out _)
             replace BK1023 := zkg hW_ (zkf (zkf (zkf (zkf (zkf (zkf BK1023.out NB1023_1036.out _) NB1023_1036.out _) NB1023_1036.out _) NB1023_1037.out _) NB1023_1037.out _) NB1023_1037.out _)
             replace BK1036 := zkg hW_ (ob := .cells #[.bool t1030, .int .u64 t1031, .int .u64 t1032] 43 (0, 0)) (zkf (zkf (zkf (blk_put (cs := #[.bool t1030, .int .u64 t1031, .int .u64 0]) (blk_put (cs := #[.bool t1030, .int .u64 0, .int .u64 0]) (blk_put BK1036.out 0 _ rfl) 1 _ rfl) 2 _ rfl) NB1036_1037.out _) NB1036_1037.out _) NB1036_1037.out _)
             replace BK1037 := zkg hW_ (ob := .cells #[.bool t1033, .int .u64 t1034, .int .u64 t1035] 43 (0, 0)) (blk_put (cs := #[.bool t1033, .int .u64 t1034, .int .u64 0]) (blk_put (cs := #[.bool t1033, .int .u64 0, .int .u64 0]) (blk_put (zkf (zkf (zkf BK1037.out NB1037_1036.out _) NB1037_1036.out _) NB1037_1036.out _) 0 _ rfl) 1 _ rfl) 2 _ rfl)
             replace HB := zkG hW_ (below_set (below_set (below_set (below_set (below_set (below_set HB.out GW1036.out) GW1036.out) GW1036.out) GW1037.out) GW1037.out) GW1037.out)
             clear hW_
             replace BK993 := Aside0.mk (blk_drew BK993.out)
             replace BK1003 := Aside0.mk (blk_drew BK1003.out)
             replace BK1013 := Aside0.mk (blk_drew BK1013.out)
             replace BK1023 := Aside0.mk (blk_drew BK1023.out)
             replace BK1036 := Aside0.mk (blk_drew BK1036.out)
             replace BK1037 := Aside0.mk (blk_drew BK1037.out)
             replace HB := Aside0.mk (below_drew1 HB.out)
             refine start_ (n := 70) (S := fun w' => w'.cell? ⟨gb993, 0, none⟩ = some (.bool t990) ∧ w'.cell? ⟨gb993, 1, none⟩ = some (.int .u64 t991) ∧ w'.cell? ⟨gb993, 2, none⟩ = some (.int .u64 t992) ∧ w'.cell? ⟨gb1003, 0, none⟩ = some (.bool t1000) ∧ w'.cell? ⟨gb1003, 1, none⟩ = some (.int .u64 t1001) ∧ w'.cell? ⟨gb1003, 2, none⟩ = some (.int .u64 t1002) ∧ w'.cell? ⟨gb1013, 0, none⟩ = some (.bool t1010) ∧ w'.cell? ⟨gb1013, 1, none⟩ = some (.int .u64 t1011) ∧ w'.cell? ⟨gb1013, 2, none⟩ = some (.int .u64 t1012) ∧ w'.cell? ⟨gb1023, 0, none⟩ = some (.bool t1020) ∧ w'.cell? ⟨gb1023, 1, none⟩ = some (.int .u64 t1021) ∧ w'.cell? ⟨gb1023, 2, none⟩ = some (.int .u64 t1022) ∧ w'.cell? ⟨gb1036, 0, none⟩ = some (.bool t1030) ∧ w'.cell? ⟨gb1036, 1, none⟩ = some (.int .u64 t1031) ∧ w'.cell? ⟨gb1036, 2, none⟩ = some (.int .u64 t1032) ∧ w'.cell? ⟨gb1037, 0, none⟩ = some (.bool t1033) ∧ w'.cell? ⟨gb1037, 1, none⟩ = some (.int .u64 t1034) ∧ w'.cell? ⟨gb1037, 2, none⟩ = some (.int .u64 t1035)) (ds := []) #[false, false, false, false, false, false, false, false, false, false, false, false, false, false, false, false, false, false, false, false, false, false, false, false, false, false, false, false, false, false, false, false, false, false, false, false, false, false, false, false, false, false, false, false, false, false, false, false, false, false, false, false, false, false, false, false, false, false, false, false, false, false, false, false, false, false, false, false, false, false] (by kernel_rfl) rfl rfl (zk3 BK993 (zk3 BK1003 (zk3 BK1013 (zk3 BK1023 (zk3 BK1036 (ze3 BK1037)))))) (fun hHeld => ?_); refine with_tabW flyballlaw16_works.tab6 flyballlaw16_works.bits6 (fun HT_ HW_ => ?_)
             generalize w90.drew = w91 at BK993 BK1003 BK1013 BK1023 BK1036 BK1037 HB hHeld ⊢
             refine ztA 0 25 (h := ?_)
             refine zoA 1 26 (h := fun K hK => ?_)
             refine zgA Try.func37 (span_Make.calls k 13841813454723219456 4620693217682128896 t1038 t1039 t1040 _ A16.out) (h := ?_)
             rintro w92 hb
             replace BK993 := zkb BK993 hb
             replace BK1003 := zkb BK1003 hb
             replace BK1013 := zkb BK1013 hb
             replace BK1023 := zkb BK1023 hb
             replace BK1036 := zkb BK1036 hb
             replace BK1037 := zkb BK1037 hb
             replace HB := zkB HB hb
             (try clear hb)
             refine hK.out _ _ (zk3 BK993 (zk3 BK1003 (zk3 BK1013 (zk3 BK1023 (zk3 BK1036 (ze3 BK1037)))))) (fun hHeld => ?_)
             clear hK K
             refine znA 26 (h := ?_)
             refine zpA 2 27 (h := ?_)
             refine zpA 3 28 (h := ?_)
             refine ztA 4 29 (h := ?_)
             refine zoA 5 30 (h := fun K hK => ?_)
             refine zgA Try.func40 (span_All.calls k  t1041 t1042 t1043 _ A18.out) (h := ?_)
             rintro w93 hb
             replace BK993 := zkb BK993 hb
             replace BK1003 := zkb BK1003 hb
             replace BK1013 := zkb BK1013 hb
             replace BK1023 := zkb BK1023 hb
             replace BK1036 := zkb BK1036 hb
             replace BK1037 := zkb BK1037 hb
             replace HB := zkB HB hb
             (try clear hb)
             refine hK.out _ _ (zk3 BK993 (zk3 BK1003 (zk3 BK1013 (zk3 BK1023 (zk3 BK1036 (ze3 BK1037)))))) (fun hHeld => ?_)
             clear hK K
             refine znA 30 (h := ?_)
             refine zpA 6 31 (h := ?_)
             refine zpA 7 32 (h := ?_)
             refine zpA 8 33 (h := ?_)
             refine ztA 9 34 (h := ?_)
             refine zoA 10 35 (h := fun K hK => ?_)
             refine zgA Try.func39 (span_Point.calls k 0 t1044 t1045 t1046 _ A20.out) (h := ?_)
             rintro w94 hb
             replace BK993 := zkb BK993 hb
             replace BK1003 := zkb BK1003 hb
             replace BK1013 := zkb BK1013 hb
             replace BK1023 := zkb BK1023 hb
             replace BK1036 := zkb BK1036 hb
             replace BK1037 := zkb BK1037 hb
             replace HB := zkB HB hb
             (try clear hb)
             refine hK.out _ _ (zk3 BK993 (zk3 BK1003 (zk3 BK1013 (zk3 BK1023 (zk3 BK1036 (ze3 BK1037)))))) (fun hHeld => ?_)
             clear hK K
             refine znA 35 (h := ?_)
             refine zpA 11 36 (h := ?_)
             refine zpA 12 37 (h := ?_)
             refine zpA 13 38 (h := ?_)
             refine ztA 14 39 (h := ?_)
             refine zoA 15 40 (h := fun K hK => ?_)
             refine zgA Try.func79 (pattern_Inf.calls k false t1047 _ A22.out) (h := ?_)
             rintro w' ⟨nd, rfl⟩
             refine hK.out _ _ (zk3 BK993 (zk3 BK1003 (zk3 BK1013 (zk3 BK1023 (zk3 BK1036 (ze3 BK1037)))))) (fun hHeld => ?_)
             clear hK K
             refine znA 40 (h := ?_)
             refine zoA 16 41 (h := fun K hK => ?_)
             refine zgA Try.func37 (span_Make.calls k 4598175219545276416 t1047 t1048 t1049 t1050 _ A23.out) (h := ?_)
             rintro w95 hb
             replace BK993 := zkb BK993 hb
             replace BK1003 := zkb BK1003 hb
             replace BK1013 := zkb BK1013 hb
             replace BK1023 := zkb BK1023 hb
             replace BK1036 := zkb BK1036 hb
             replace BK1037 := zkb BK1037 hb
             replace HB := zkB HB hb
             (try clear hb)
             refine hK.out _ _ (zk3 BK993 (zk3 BK1003 (zk3 BK1013 (zk3 BK1023 (zk3 BK1036 (ze3 BK1037)))))) (fun hHeld => ?_)
             clear hK K
             refine znA 41 (h := ?_)
             refine zpA 17 42 (h := ?_)
             refine zpA 18 43 (h := ?_)
             refine zpA 19 44 (h := ?_)
             refine ztA 20 45 (h := ?_)
             refine zoA 21 46 (h := fun K hK => ?_)
             refine zgA Try.func37 (span_Make.calls k 0 4611686018427387903 t1051 t1052 t1053 _ A25.out) (h := ?_)
             rintro w96 hb
             replace BK993 := zkb BK993 hb
             replace BK1003 := zkb BK1003 hb
             replace BK1013 := zkb BK1013 hb
             replace BK1023 := zkb BK1023 hb
             replace BK1036 := zkb BK1036 hb
             replace BK1037 := zkb BK1037 hb
             replace HB := zkB HB hb
             (try clear hb)
             refine hK.out _ _ (zk3 BK993 (zk3 BK1003 (zk3 BK1013 (zk3 BK1023 (zk3 BK1036 (ze3 BK1037)))))) (fun hHeld => ?_)
             clear hK K
             refine znA 46 (h := ?_)
             refine zpA 22 47 (h := ?_)
             refine zpA 23 48 (h := ?_)
             refine zpA 24 49 (h := ?_)
             refine ztA 25 50 (h := ?_)
             refine zoA 26 51 (h := fun K hK => ?_)
             refine zgA Try.func37 (span_Make.calls k 4607182418800017408 4611686018427387904 t1054 t1055 t1056 _ A27.out) (h := ?_)
             rintro w97 hb
             replace BK993 := zkb BK993 hb
             replace BK1003 := zkb BK1003 hb
             replace BK1013 := zkb BK1013 hb
             replace BK1023 := zkb BK1023 hb
             replace BK1036 := zkb BK1036 hb
             replace BK1037 := zkb BK1037 hb
             replace HB := zkB HB hb
             (try clear hb)
             refine hK.out _ _ (zk3 BK993 (zk3 BK1003 (zk3 BK1013 (zk3 BK1023 (zk3 BK1036 (ze3 BK1037)))))) (fun hHeld => ?_)
             clear hK K
             refine znA 51 (h := ?_)
             refine zpA 27 52 (h := ?_)
             refine zpA 28 53 (h := ?_)
             refine zpA 29 54 (h := ?_)
             refine zoA 30 55 (h := fun K hK => ?_)
             refine zgA Try.func37 (span_Make.calls k 4611686018427387904 4607182418800017408 true t1058 t1059 _ A29.out) (h := ?_)
             rintro w98 hb
             replace BK993 := zkb BK993 hb
             replace BK1003 := zkb BK1003 hb
             replace BK1013 := zkb BK1013 hb
             replace BK1023 := zkb BK1023 hb
             replace BK1036 := zkb BK1036 hb
             replace BK1037 := zkb BK1037 hb
             replace HB := zkB HB hb
             (try clear hb)
             refine hK.out _ _ (zk3 BK993 (zk3 BK1003 (zk3 BK1013 (zk3 BK1023 (zk3 BK1036 (ze3 BK1037)))))) (fun hHeld => ?_)
             clear hK K
             refine znA 55 (h := ?_)
             refine zpA 31 56 (h := ?_)
             refine zpA 32 57 (h := ?_)
             refine zpA 33 58 (h := ?_)
             refine ztA 34 59 (h := ?_)
             refine zoA 35 60 (h := fun K hK => ?_)
             refine zgA Try.func41 (span_Has.calls k t1030 t1031 t1032 4607182418800017408 true _ A31.out) (h := ?_)
             rintro w99 hb
             replace BK993 := zkb BK993 hb
             replace BK1003 := zkb BK1003 hb
             replace BK1013 := zkb BK1013 hb
             replace BK1023 := zkb BK1023 hb
             replace BK1036 := zkb BK1036 hb
             replace BK1037 := zkb BK1037 hb
             replace HB := zkB HB hb
             (try clear hb)
             refine hK.out _ _ (zk3 BK993 (zk3 BK1003 (zk3 BK1013 (zk3 BK1023 (zk3 BK1036 (ze3 BK1037)))))) (fun hHeld => ?_)
             clear hK K
             refine znA 60 (h := ?_)
             refine zpA 36 61 (h := ?_)
             refine zpA 37 62 (h := ?_)
             refine ztA 38 63 (h := ?_)
             refine zoA 39 64 (h := fun K hK => ?_)
             refine zgA Try.func37 (span_Make.calls k 0 4616189618054758400 t1061 t1062 t1063 _ A33.out) (h := ?_)
             rintro w100 hb
             replace BK993 := zkb BK993 hb
             replace BK1003 := zkb BK1003 hb
             replace BK1013 := zkb BK1013 hb
             replace BK1023 := zkb BK1023 hb
             replace BK1036 := zkb BK1036 hb
             replace BK1037 := zkb BK1037 hb
             replace HB := zkB HB hb
             (try clear hb)
             refine hK.out _ _ (zk3 BK993 (zk3 BK1003 (zk3 BK1013 (zk3 BK1023 (zk3 BK1036 (ze3 BK1037)))))) (fun hHeld => ?_)
             clear hK K
             refine znA 64 (h := ?_)
             refine zoA 40 65 (h := fun K hK => ?_)
             refine zgA Try.func43 (span_Inside.calls k t1033 t1034 t1035 t1061 t1062 t1063 true _ A34.out) (h := ?_)
             rintro w101 hb
             replace BK993 := zkb BK993 hb
             replace BK1003 := zkb BK1003 hb
             replace BK1013 := zkb BK1013 hb
             replace BK1023 := zkb BK1023 hb
             replace BK1036 := zkb BK1036 hb
             replace BK1037 := zkb BK1037 hb
             replace HB := zkB HB hb
             (try clear hb)
             refine hK.out _ _ (zk3 BK993 (zk3 BK1003 (zk3 BK1013 (zk3 BK1023 (zk3 BK1036 (ze3 BK1037)))))) (fun hHeld => ?_)
             clear hK K
             refine znA 65 (h := ?_)
             refine zpA 41 66 (h := ?_)
             refine zpA 42 67 (h := ?_)
             refine ztA 43 68 (h := ?_)
             refine ztA 44 69 (h := ?_)
             refine zoA 45 70 (h := fun K hK => ?_)
             refine Kd.R_lit_step k43 _ 43 ?hg (N := 70) ?hd (xs := ([(⟨t1030, t1031, t1032⟩ : S43), (⟨t1033, t1034, t1035⟩ : S43)] : List (S43))) (inner := [.bool t1030, .int .u64 t1031, .int .u64 t1032, .bool t1033, .int .u64 t1034, .int .u64 t1035]) (ok := fun _ => True) (okp := fun _ => True) ?hr ?hp (fun _ hk => hk) trivial (Below.refl _ _) (Nat.le_refl _) (by simp) ?_; (case hd => rfl); (case hg => rfl); (case hr => first | (go_simp; done) | (go_simp; rfl)); (case hp => exact (Reps.c3 (show Kd.M k43 _ _ _ (⟨t1030, t1031, t1032⟩ : S43) [.bool t1030, .int .u64 t1031, .int .u64 t1032] from (k43_mkM _ _ _ (⟨t1030, t1031, t1032⟩ : S43) )) (Reps.c3 (show Kd.M k43 _ _ _ (⟨t1033, t1034, t1035⟩ : S43) [.bool t1033, .int .u64 t1034, .int .u64 t1035] from (k43_mkM _ _ _ (⟨t1033, t1034, t1035⟩ : S43) )) (Reps.none _ _))))
             intro v1066 w102 ho103 hb hg_ hnew_
             clear hg_ hnew_
             (first | rw [← Ny1065.out] at ho103 | (simp only [Int.reduceToNat] at ho103; rw [← Ny1065.out] at ho103))
             have HO1067 := Aside0.mk (Kd.R_lower (Kd.R_newB (Kd.R_newB (Kd.R_newB (Kd.R_newB (Kd.R_newB (Kd.R_newB ho103 (g := gb993) (o := .cells #[.bool t990, .int .u64 t991, .int .u64 t992] 43 (0, 0)) (zkq BK993)) (g := gb1003) (o := .cells #[.bool t1000, .int .u64 t1001, .int .u64 t1002] 43 (0, 0)) (zkq BK1003)) (g := gb1013) (o := .cells #[.bool t1010, .int .u64 t1011, .int .u64 t1012] 43 (0, 0)) (zkq BK1013)) (g := gb1023) (o := .cells #[.bool t1020, .int .u64 t1021, .int .u64 t1022] 43 (0, 0)) (zkq BK1023)) (g := gb1036) (o := .cells #[.bool t1030, .int .u64 t1031, .int .u64 t1032] 43 (0, 0)) (zkq BK1036)) (g := gb1037) (o := .cells #[.bool t1033, .int .u64 t1034, .int .u64 t1035] 43 (0, 0)) (zkq BK1037)) (below_size zaB))
             replace BK993 := zkb BK993 hb
             replace BK1003 := zkb BK1003 hb
             replace BK1013 := zkb BK1013 hb
             replace BK1023 := zkb BK1023 hb
             replace BK1036 := zkb BK1036 hb
             replace BK1037 := zkb BK1037 hb
             replace HB := zkB HB hb
             clear hb ho103
             obtain ⟨Ao104, co104, eo104⟩ := Kd.R_slice HO1067.out
             (first | subst eo104 | (injection eo104 with f1_ f2_ f3_; have f4_ := f1_.symm; have f5_ := f3_.symm; clear f1_ f2_ f3_; subst f4_; subst f5_))
             refine hK.out _ _ (zk3 BK993 (zk3 BK1003 (zk3 BK1013 (zk3 BK1023 (zk3 BK1036 (ze3 BK1037)))))) (fun hHeld => ?_)
             clear hK K
             refine znA 70 (h := ?_)
             refine zoA 46 71 (h := fun K hK => ?_)
             refine goes_ Try.func45 (by kernel_rfl) rfl #[.slice Ao104 y1065.length co104] (by rfl) rfl rfl (by (try simp only [List.map_toArray, List.map_cons, List.map_nil]); first | done | rfl | (simp only [List.length_drop, List.length_take]; rfl)) ?_
             with_reducible refine (span_Join.calls k _ _ y1065 t1068 t1069 t1070 _ ?side1 ?side2 A36.out).mono ?_
             (case side1 => repeat (first | exact (Kd.R_reads' HO1067.out).2.2 | (with_reducible refine Kd.C_alloc ?_ _) | (with_reducible refine Kd.C_drewN ?_ _) | (with_reducible refine Kd.C_drew ?_)))
             (case side2 => exact (Kd.R_reads' HO1067.out).2.1)
             rintro e w105 ⟨rfl, hb⟩
             refine ⟨_, rfl, ?_⟩
             replace HO1067 := Aside0.mk (Kd.R_below (by (with_reducible repeat (first | apply Kd.R_alloc | apply Kd.R_drewN | apply Kd.R_drew)); exact HO1067.out) hb)
             replace BK993 := zkb BK993 hb
             replace BK1003 := zkb BK1003 hb
             replace BK1013 := zkb BK1013 hb
             replace BK1023 := zkb BK1023 hb
             replace BK1036 := zkb BK1036 hb
             replace BK1037 := zkb BK1037 hb
             replace HB := zkB HB hb
             (try clear hb)
             refine hK.out _ _ (zk3 BK993 (zk3 BK1003 (zk3 BK1013 (zk3 BK1023 (zk3 BK1036 (ze3 BK1037)))))) (fun hHeld => ?_)
             clear hK K
             refine znA 71 (h := ?_)
             refine zoA 47 72 (h := fun K hK => ?_)
             refine zgA Try.func37 (span_Make.calls k 0 4611686018427387904 t1071 t1072 t1073 _ A37.out) (h := ?_)
             rintro w106 hb
             replace HO1067 := Aside0.mk (Kd.R_below (by (with_reducible repeat (first | apply Kd.R_alloc | apply Kd.R_drewN | apply Kd.R_drew)); exact HO1067.out) hb)
             replace BK993 := zkb BK993 hb
             replace BK1003 := zkb BK1003 hb
             replace BK1013 := zkb BK1013 hb
             replace BK1023 := zkb BK1023 hb
             replace BK1036 := zkb BK1036 hb
             replace BK1037 := zkb BK1037 hb
             replace HB := zkB HB hb
             (try clear hb)
             refine hK.out _ _ (zk3 BK993 (zk3 BK1003 (zk3 BK1013 (zk3 BK1023 (zk3 BK1036 (ze3 BK1037)))))) (fun hHeld => ?_)
             clear hK K
             refine znA 72 (h := ?_)
             refine zpA 48 73 (h := ?_)
             refine zpA 49 74 (h := ?_)
             refine zpA 50 75 (h := ?_)
             refine ztA 51 76 (h := ?_)
             refine ztA 52 77 (h := ?_)
             refine zoA 53 78 (h := fun K hK => ?_)
             refine zgA Try.func47 (span_Meet.calls k t1030 t1031 t1032 t1033 t1034 t1035 t1074 t1075 t1076 _ A39.out) (h := ?_)
             rintro w107 hb
             replace HO1067 := Aside0.mk (Kd.R_below (by (with_reducible repeat (first | apply Kd.R_alloc | apply Kd.R_drewN | apply Kd.R_drew)); exact HO1067.out) hb)
             replace BK993 := zkb BK993 hb
             replace BK1003 := zkb BK1003 hb
             replace BK1013 := zkb BK1013 hb
             replace BK1023 := zkb BK1023 hb
             replace BK1036 := zkb BK1036 hb
             replace BK1037 := zkb BK1037 hb
             replace HB := zkB HB hb
             (try clear hb)
             refine hK.out _ _ (zk3 BK993 (zk3 BK1003 (zk3 BK1013 (zk3 BK1023 (zk3 BK1036 (ze3 BK1037)))))) (fun hHeld => ?_)
             clear hK K
             refine znA 78 (h := ?_)
             refine zoA 54 79 (h := fun K hK => ?_)
             refine zgA Try.func37 (span_Make.calls k 4607182418800017408 4611686018427387903 t1077 t1078 t1079 _ A40.out) (h := ?_)
             rintro w108 hb
             replace HO1067 := Aside0.mk (Kd.R_below (by (with_reducible repeat (first | apply Kd.R_alloc | apply Kd.R_drewN | apply Kd.R_drew)); exact HO1067.out) hb)
             replace BK993 := zkb BK993 hb
             replace BK1003 := zkb BK1003 hb
             replace BK1013 := zkb BK1013 hb
             replace BK1023 := zkb BK1023 hb
             replace BK1036 := zkb BK1036 hb
             replace BK1037 := zkb BK1037 hb
             replace HB := zkB HB hb
             (try clear hb)
             refine hK.out _ _ (zk3 BK993 (zk3 BK1003 (zk3 BK1013 (zk3 BK1023 (zk3 BK1036 (ze3 BK1037)))))) (fun hHeld => ?_)
             clear hK K
             refine znA 79 (h := ?_)
             refine zpA 55 80 (h := ?_)
             refine zpA 56 81 (h := ?_)
             refine zpA 57 82 (h := ?_)
             refine ztA 58 83 (h := ?_)
             refine zoA 59 84 (h := fun K hK => ?_)
             refine zgA Try.func111 (span_Neg.calls k t1033 t1034 t1035 t1080 t1081 t1082 _ A42.out) (h := ?_)
             rintro w109 hb
             replace HO1067 := Aside0.mk (Kd.R_below (by (with_reducible repeat (first | apply Kd.R_alloc | apply Kd.R_drewN | apply Kd.R_drew)); exact HO1067.out) hb)
             replace BK993 := zkb BK993 hb
             replace BK1003 := zkb BK1003 hb
             replace BK1013 := zkb BK1013 hb
             replace BK1023 := zkb BK1023 hb
             replace BK1036 := zkb BK1036 hb
             replace BK1037 := zkb BK1037 hb
             replace HB := zkB HB hb
             (try clear hb)
             refine hK.out _ _ (zk3 BK993 (zk3 BK1003 (zk3 BK1013 (zk3 BK1023 (zk3 BK1036 (ze3 BK1037)))))) (fun hHeld => ?_)
             clear hK K
             refine znA 84 (h := ?_)
             refine zoA 60 85 (h := fun K hK => ?_)
             refine zgA Try.func50 (span_Most.calls k t1080 t1081 t1082 t1083 _ A43.out) (h := ?_)
             rintro w110 hb
             replace HO1067 := Aside0.mk (Kd.R_below (by (with_reducible repeat (first | apply Kd.R_alloc | apply Kd.R_drewN | apply Kd.R_drew)); exact HO1067.out) hb)
             replace BK993 := zkb BK993 hb
             replace BK1003 := zkb BK1003 hb
             replace BK1013 := zkb BK1013 hb
             replace BK1023 := zkb BK1023 hb
             replace BK1036 := zkb BK1036 hb
             replace BK1037 := zkb BK1037 hb
             replace HB := zkB HB hb
             (try clear hb)
             refine hK.out _ _ (zk3 BK993 (zk3 BK1003 (zk3 BK1013 (zk3 BK1023 (zk3 BK1036 (ze3 BK1037)))))) (fun hHeld => ?_)
             clear hK K
             refine znA 85 (h := ?_)
             refine zpA 61 86 (h := ?_)
             refine zpA 62 87 (h := ?_)
             refine zpA 63 88 (h := ?_)
             refine zoA 64 89 (h := fun K hK => ?_)
             refine zgA Try.func37 (span_Make.calls k 13830554455654793216 0 t1084 t1085 t1086 _ A45.out) (h := ?_)
             rintro w111 hb
             replace HO1067 := Aside0.mk (Kd.R_below (by (with_reducible repeat (first | apply Kd.R_alloc | apply Kd.R_drewN | apply Kd.R_drew)); exact HO1067.out) hb)
             replace BK993 := zkb BK993 hb
             replace BK1003 := zkb BK1003 hb
             replace BK1013 := zkb BK1013 hb
             replace BK1023 := zkb BK1023 hb
             replace BK1036 := zkb BK1036 hb
             replace BK1037 := zkb BK1037 hb
             replace HB := zkB HB hb
             (try clear hb)
             refine hK.out _ _ (zk3 BK993 (zk3 BK1003 (zk3 BK1013 (zk3 BK1023 (zk3 BK1036 (ze3 BK1037)))))) (fun hHeld => ?_)
             clear hK K
             refine znA 89 (h := ?_)
             refine zoA 65 90 (h := fun K hK => ?_)
             refine zgA Try.func69 (span_Abs.calls k t1084 t1085 t1086 t1087 t1088 t1089 _ A46.out) (h := ?_)
             rintro w112 hb
             replace HO1067 := Aside0.mk (Kd.R_below (by (with_reducible repeat (first | apply Kd.R_alloc | apply Kd.R_drewN | apply Kd.R_drew)); exact HO1067.out) hb)
             replace BK993 := zkb BK993 hb
             replace BK1003 := zkb BK1003 hb
             replace BK1013 := zkb BK1013 hb
             replace BK1023 := zkb BK1023 hb
             replace BK1036 := zkb BK1036 hb
             replace BK1037 := zkb BK1037 hb
             replace HB := zkB HB hb
             (try clear hb)
             refine hK.out _ _ (zk3 BK993 (zk3 BK1003 (zk3 BK1013 (zk3 BK1023 (zk3 BK1036 (ze3 BK1037)))))) (fun hHeld => ?_)
             clear hK K
             refine znA 90 (h := ?_)
             refine zoA 66 91 (h := fun K hK => ?_)
             refine zgA Try.func37 (span_Make.calls k 0 4607182418800017408 t1090 t1091 t1092 _ A47.out) (h := ?_)
             rintro w113 hb
             replace HO1067 := Aside0.mk (Kd.R_below (by (with_reducible repeat (first | apply Kd.R_alloc | apply Kd.R_drewN | apply Kd.R_drew)); exact HO1067.out) hb)
             replace BK993 := zkb BK993 hb
             replace BK1003 := zkb BK1003 hb
             replace BK1013 := zkb BK1013 hb
             replace BK1023 := zkb BK1023 hb
             replace BK1036 := zkb BK1036 hb
             replace BK1037 := zkb BK1037 hb
             replace HB := zkB HB hb
             (try clear hb)
             refine hK.out _ _ (zk3 BK993 (zk3 BK1003 (zk3 BK1013 (zk3 BK1023 (zk3 BK1036 (ze3 BK1037)))))) (fun hHeld => ?_)
             clear hK K
             refine znA 91 (h := ?_)
             refine zpA 67 92 (h := ?_)
             refine zpA 68 93 (h := ?_)
             refine zpA 69 0 (h := ?_)
             refine done_ (done_of HT_.out (by kernel_rfl)) ?_
             try go_wp2
             go_ret
             exact ⟨zaE, zaB⟩
            rw [if_neg c44] at H
            have c44b0 : (t1083 == 4611686018427387904) = false := beq_eq_false_iff_ne.mpr c44
            have c44b1 : (t1083 != 4611686018427387904) = true := bne_iff_ne.mpr c44
            subst hr_
            cases H
           rw [if_neg c41] at H
           have c41b0 : (t1074 == t1077 && (t1075 == t1078 && (t1076 == t1079))) = false := by simpa using c41
           (try (have c41b1 : decide (t1074 = t1077 && (t1075 == t1078 && (t1076 == t1079))) = false := by simpa using c41))
           (try (have c41b2 : (t1074 == t1077 && (t1075 == t1078 && (t1076 == t1079))) = false := by simpa using c41))
           (try (have c41b3 : ¬ (t1074 = t1077 && (t1075 == t1078 && (t1076 == t1079))) := by simpa using c41))
           clear c41
           subst hr_
           cases H
          rw [if_neg c38] at H
          have c38b0 : (t1068 == t1071 && (t1069 == t1072 && (t1070 == t1073))) = false := by simpa using c38
          (try (have c38b1 : decide (t1068 = t1071 && (t1069 == t1072 && (t1070 == t1073))) = false := by simpa using c38))
          (try (have c38b2 : (t1068 == t1071 && (t1069 == t1072 && (t1070 == t1073))) = false := by simpa using c38))
          (try (have c38b3 : ¬ (t1068 = t1071 && (t1069 == t1072 && (t1070 == t1073))) := by simpa using c38))
          clear c38
          subst hr_
          cases H
         replace c35 := Bool.eq_false_iff.mpr c35
         subst c35
         replace H := zif H
         subst hr_
         cases H
        replace c32 := Bool.eq_false_iff.mpr c32
        subst c32
        replace H := zif H
        subst hr_
        cases H
       replace c30 := Bool.eq_false_iff.mpr c30
       subst c30
       replace H := zif H
       subst hr_
       cases H
      rw [if_neg c28] at H
      have c28b0 : (t1033 == t1054 && (t1034 == t1055 && (t1035 == t1056))) = false := by simpa using c28
      (try (have c28b1 : decide (t1033 = t1054 && (t1034 == t1055 && (t1035 == t1056))) = false := by simpa using c28))
      (try (have c28b2 : (t1033 == t1054 && (t1034 == t1055 && (t1035 == t1056))) = false := by simpa using c28))
      (try (have c28b3 : ¬ (t1033 = t1054 && (t1034 == t1055 && (t1035 == t1056))) := by simpa using c28))
      clear c28
      subst hr_
      cases H
     rw [if_neg c26] at H
     have c26b0 : (t1030 == t1051 && (t1031 == t1052 && (t1032 == t1053))) = false := by simpa using c26
     (try (have c26b1 : decide (t1030 = t1051 && (t1031 == t1052 && (t1032 == t1053))) = false := by simpa using c26))
     (try (have c26b2 : (t1030 == t1051 && (t1031 == t1052 && (t1032 == t1053))) = false := by simpa using c26))
     (try (have c26b3 : ¬ (t1030 = t1051 && (t1031 == t1052 && (t1032 == t1053))) := by simpa using c26))
     clear c26
     subst hr_
     cases H
    rw [if_neg c24] at H
    have c24b0 : (t1020 == t1048 && (t1021 == t1049 && (t1022 == t1050))) = false := by simpa using c24
    (try (have c24b1 : decide (t1020 = t1048 && (t1021 == t1049 && (t1022 == t1050))) = false := by simpa using c24))
    (try (have c24b2 : (t1020 == t1048 && (t1021 == t1049 && (t1022 == t1050))) = false := by simpa using c24))
    (try (have c24b3 : ¬ (t1020 = t1048 && (t1021 == t1049 && (t1022 == t1050))) := by simpa using c24))
    clear c24
    subst hr_
    cases H
   rw [if_neg c21] at H
   have c21b0 : (t1010 == t1044 && (t1011 == t1045 && (t1012 == t1046))) = false := by simpa using c21
   (try (have c21b1 : decide (t1010 = t1044 && (t1011 == t1045 && (t1012 == t1046))) = false := by simpa using c21))
   (try (have c21b2 : (t1010 == t1044 && (t1011 == t1045 && (t1012 == t1046))) = false := by simpa using c21))
   (try (have c21b3 : ¬ (t1010 = t1044 && (t1011 == t1045 && (t1012 == t1046))) := by simpa using c21))
   clear c21
   subst hr_
   cases H
  rw [if_neg c19] at H
  have c19b0 : (t1000 == t1041 && (t1001 == t1042 && (t1002 == t1043))) = false := by simpa using c19
  (try (have c19b1 : decide (t1000 = t1041 && (t1001 == t1042 && (t1002 == t1043))) = false := by simpa using c19))
  (try (have c19b2 : (t1000 == t1041 && (t1001 == t1042 && (t1002 == t1043))) = false := by simpa using c19))
  (try (have c19b3 : ¬ (t1000 = t1041 && (t1001 == t1042 && (t1002 == t1043))) := by simpa using c19))
  clear c19
  subst hr_
  cases H
 rw [if_neg c17] at H
 have c17b0 : (t990 == t1038 && (t991 == t1039 && (t992 == t1040))) = false := by simpa using c17
 (try (have c17b1 : decide (t990 = t1038 && (t991 == t1039 && (t992 == t1040))) = false := by simpa using c17))
 (try (have c17b2 : (t990 == t1038 && (t991 == t1039 && (t992 == t1040))) = false := by simpa using c17))
 (try (have c17b3 : ¬ (t990 = t1038 && (t991 == t1039 && (t992 == t1040))) := by simpa using c17))
 clear c17
 subst hr_
 cases H
end Go.Proofs.Ytmadjhmecfbcmaa.F
end
section
namespace Go.Proofs.Ytmadjhmecfbcmaa.F
open Go.RowKit Go.Proofs.YtmadjhmecfbcmaaW.PrintWords Go.Proofs.YtmadjhmecfbcmaaW.PrintLast Go.Proofs.YtmadjhmecfbcmaaW.PrintMore
attribute [local go_sem] max2_int min2_int max_two min_two max_three min_three max_four min_four
set_option linter.unusedVariables false
set_option linter.unusedSimpArgs false
set_option maxHeartbeats 8000000
set_option maxRecDepth 100000
theorem flyballref04_Parts.calls (a0 : Int) (r1 : Bool) (r2 : Int) (r3 : Int) (w : World) (h : flyballref04_Parts.f a0 = some (r1, r2, r3)) :
  Calls Try.prog 154 #[.int .u64 a0] w fun e w' => e = .returned (.tuple #[.bool r1, .int .i64 r2, .int .u64 r3]) ∧ Drawn0 w w' := by
 have H : (some (((IntKind.u64.wrap (Int.tdiv a0 9223372036854775808)) == 1), wrap64 (Int.tmod (IntKind.u64.wrap (Int.tdiv a0 4503599627370496)) 2048), Int.tmod a0 4503599627370496)) = some (r1, r2, r3) := h
 clear h
 simp only [Option.some.injEq, Prod.mk.injEq] at H
 obtain ⟨rfl, rfl, rfl⟩ := H
 go_enter Try.func154, Try.ntmps154
 go_wp2
 go_ret3
 exact ⟨by first | rfl | (simp; done) | (simp [*]; done), by repeat (first | exact Drawn0.refl _ | apply Drawn0.step)⟩
theorem flyballref04_Class.calls (k : Nat) (a0 : Int) (r : Int) (w : World) (h : flyballref04_Class.f k a0 = some r) :
  Calls Try.prog 128 #[.int .u64 a0] w fun e w' => e = .returned (.int .u8 r) ∧ Drawn0 w w' := by
 have H : ((flyballref04_Parts.f a0).bind fun bt350 => (if bt350.2.1 = 2047 then (flyballref04_Class.j0 k bt350.2.1 bt350.2.2 (bt350.2.2 == 0)) else (flyballref04_Class.j0 k bt350.2.1 bt350.2.2 false))) = some r := h
 clear h
 obtain ⟨⟨t350, t351, t352⟩, A2, H⟩ := zbs H
 try dsimp only at H
 have HC3 := Aside0.mk H
 clear H
 go_enter Try.func128, Try.ntmps128
 go_upto_region 2 with (first | ((with_reducible refine gtc 154 rfl ?_); refine zgL 8 Try.func154 (flyballref04_Parts.calls a0 t350 t351 t352 _ A2.out) (h := ?_); rintro w' ⟨nd, rfl⟩))
 (try simp only [Act.put, List.setIfInBounds_toArray, List.set_cons_zero, List.set_cons_succ])
 go_cut [17] (fun v17 wc => ∃ (kq : Nat) (x17_2 : Bool), v17 = .bool x17_2 ∧ Aside0 (flyballref04_Class.j0 kq t351 t352 x17_2 = some r) ∧ Aside0 (kq ≤ k) ∧ Drawn0 w wc)
 case first =>
  have H := HC3.out
  clear HC3
  by_cases c4 : t351 = 2047
  ·rw [if_pos c4] at H
   have c4b0 : (t351 == 2047) = true := beq_iff_eq.mpr c4
   have c4b1 : (t351 != 2047) = false := bne_eq_false_iff_eq.mpr c4
   clear c4
   (first | rw [c4b0] | (simp only [i64_w, i32_w]; rw [c4b0]) | skip)
   have H' := Aside0.mk H
   clear H
   go_wp2
   go_meet
   case rel => exact ⟨_, ((t352 == 0)), zrl, H', ⟨zle⟩, by repeat (first | exact Drawn0.refl _ | apply Drawn0.step)⟩
  rw [if_neg c4] at H
  have c4b0 : (t351 == 2047) = false := beq_eq_false_iff_ne.mpr c4
  have c4b1 : (t351 != 2047) = true := bne_iff_ne.mpr c4
  (first | rw [c4b0] | (simp only [i64_w, i32_w]; rw [c4b0]) | skip)
  have H' := Aside0.mk H
  clear H
  go_wp2
  go_meet
  case rel => exact ⟨_, (false), zrl, H', ⟨zle⟩, by repeat (first | exact Drawn0.refl _ | apply Drawn0.step)⟩
 case rest =>
  clear HC3
  try clear c1
  try clear p2
  try clear c4
  try clear c4b0
  try clear c4b1
  obtain ⟨kq, x17_2, rfl, HA, HJ2, ⟨mc2, rfl⟩⟩ := hcut
  cases kq with
  | zero => exact absurd HA.out (by simp [flyballref04_Class.j0])
  | succ kj2 =>
   have H := HA.out
   clear HA
   simp only [flyballref04_Class.j0] at H
   by_cases c5 : x17_2 = true
   ·subst c5
    replace H := zit H
    obtain rfl := Option.some.inj H
    go_wp2
    go_ret
    exact ⟨by first | rfl | (simp; done) | (simp [*]; done), by repeat (first | exact Drawn0.refl _ | apply Drawn0.step)⟩
   replace c5 := Bool.eq_false_iff.mpr c5
   subst c5
   replace H := zif H
   by_cases c6 : t351 = 2047
   ·rw [if_pos c6] at H
    have c6b0 : (t351 == 2047) = true := beq_iff_eq.mpr c6
    have c6b1 : (t351 != 2047) = false := bne_eq_false_iff_eq.mpr c6
    clear c6
    obtain rfl := Option.some.inj H
    go_wp2
    go_ret
    exact ⟨by first | rfl | (simp; done) | (simp [*]; done), by repeat (first | exact Drawn0.refl _ | apply Drawn0.step)⟩
   rw [if_neg c6] at H
   have c6b0 : (t351 == 2047) = false := beq_eq_false_iff_ne.mpr c6
   have c6b1 : (t351 != 2047) = true := bne_iff_ne.mpr c6
   have HC7 := Aside0.mk H
   clear H
   go_upto_region 6 with (fail)
   go_cut [25] (fun v25 wc => ∃ (kq : Nat) (x25_6 : Bool), v25 = .bool x25_6 ∧ Aside0 (flyballref04_Class.j1 kq t351 x25_6 = some r) ∧ Aside0 (kq ≤ kj2) ∧ Drawn0 w wc)
   case first =>
    have H := HC7.out
    clear HC7
    by_cases c8 : t351 = 0
    ·rw [if_pos c8] at H
     have c8b0 : (t351 == 0) = true := beq_iff_eq.mpr c8
     have c8b1 : (t351 != 0) = false := bne_eq_false_iff_eq.mpr c8
     clear c8
     (first | rw [c8b0] | (simp only [i64_w, i32_w]; rw [c8b0]) | skip)
     have H' := Aside0.mk H
     clear H
     go_wp2
     go_meet
     case rel => exact ⟨_, ((t352 == 0)), zrl, H', ⟨by have := HJ2.out; first | omega | exact Nat.le_refl _⟩, by repeat (first | exact Drawn0.refl _ | apply Drawn0.step)⟩
    rw [if_neg c8] at H
    have c8b0 : (t351 == 0) = false := beq_eq_false_iff_ne.mpr c8
    have c8b1 : (t351 != 0) = true := bne_iff_ne.mpr c8
    (first | rw [c8b0] | (simp only [i64_w, i32_w]; rw [c8b0]) | skip)
    have H' := Aside0.mk H
    clear H
    go_wp2
    go_meet
    case rel => exact ⟨_, (false), zrl, H', ⟨by have := HJ2.out; first | omega | exact Nat.le_refl _⟩, by repeat (first | exact Drawn0.refl _ | apply Drawn0.step)⟩
   case rest =>
    clear HC7
    try clear c1
    try clear c2
    try clear p2
    try clear c4
    try clear c4b0
    try clear c4b1
    try clear c5
    try clear c6
    try clear c6b0
    try clear c6b1
    try clear c8
    try clear c8b0
    try clear c8b1
    try clear p2
    obtain ⟨kq, x25_6, rfl, HA, HJ6, ⟨mc6, rfl⟩⟩ := hcut
    cases kq with
    | zero => exact absurd HA.out (by simp [flyballref04_Class.j1])
    | succ kj6 =>
     have H := HA.out
     clear HA
     simp only [flyballref04_Class.j1] at H
     by_cases c9 : x25_6 = true
     ·subst c9
      replace H := zit H
      obtain rfl := Option.some.inj H
      go_wp2
      go_ret
      exact ⟨by first | rfl | (simp; done) | (simp [*]; done), by repeat (first | exact Drawn0.refl _ | apply Drawn0.step)⟩
     replace c9 := Bool.eq_false_iff.mpr c9
     subst c9
     replace H := zif H
     by_cases c10 : t351 = 0
     ·rw [if_pos c10] at H
      have c10b0 : (t351 == 0) = true := beq_iff_eq.mpr c10
      have c10b1 : (t351 != 0) = false := bne_eq_false_iff_eq.mpr c10
      clear c10
      obtain rfl := Option.some.inj H
      go_wp2
      go_ret
      exact ⟨by first | rfl | (simp; done) | (simp [*]; done), by repeat (first | exact Drawn0.refl _ | apply Drawn0.step)⟩
     rw [if_neg c10] at H
     have c10b0 : (t351 == 0) = false := beq_eq_false_iff_ne.mpr c10
     have c10b1 : (t351 != 0) = true := bne_iff_ne.mpr c10
     obtain rfl := Option.some.inj H
     go_wp2
     go_ret
     exact ⟨by first | rfl | (simp; done) | (simp [*]; done), by repeat (first | exact Drawn0.refl _ | apply Drawn0.step)⟩
theorem flyballref04_Key.calls (a0 : Int) (r : Int) (w : World) (h : flyballref04_Key.f a0 = some r) :
  Calls Try.prog 129 #[.int .u64 a0] w fun e w' => e = .returned (.int .i64 r) ∧ Drawn0 w w' := by
 have H : ((flyballref04_Parts.f a0).bind fun bt1093 => (if bt1093.1 = true then (some (wrap64 (-(wrap64 ((wrap64 (bt1093.2.1 * 4503599627370496)) + (wrap64 (bt1093.2.2))))))) else (some (wrap64 ((wrap64 (bt1093.2.1 * 4503599627370496)) + (wrap64 (bt1093.2.2))))))) = some r := h
 clear h
 obtain ⟨⟨t1093, t1094, t1095⟩, A2, H⟩ := zbs H
 try dsimp only at H
 by_cases c3 : t1093 = true
 ·subst c3
  replace H := zit H
  obtain rfl := Option.some.inj H
  go_enter Try.func129, Try.ntmps129
  go_wp2_with (first | ((with_reducible refine gtc 154 rfl ?_); refine zgL 9 Try.func154 (flyballref04_Parts.calls a0 true t1094 t1095 _ A2.out) (h := ?_); rintro w' ⟨nd, rfl⟩))
  go_ret
  exact ⟨by first | rfl | (simp; done) | (simp [*]; done), by repeat (first | exact Drawn0.refl _ | apply Drawn0.step)⟩
 replace c3 := Bool.eq_false_iff.mpr c3
 subst c3
 replace H := zif H
 obtain rfl := Option.some.inj H
 go_enter Try.func129, Try.ntmps129
 go_wp2_with (first | ((with_reducible refine gtc 154 rfl ?_); refine zgL 9 Try.func154 (flyballref04_Parts.calls a0 false t1094 t1095 _ A2.out) (h := ?_); rintro w' ⟨nd, rfl⟩))
 go_ret
 exact ⟨by first | rfl | (simp; done) | (simp [*]; done), by repeat (first | exact Drawn0.refl _ | apply Drawn0.step)⟩
theorem flyballref04_Cmp.calls (k : Nat) (a0 : Int) (a1 : Int) (r1 : Int) (r2 : Bool) (w : World) (h : flyballref04_Cmp.f k a0 a1 = some (r1, r2)) :
  Calls Try.prog 59 #[.int .u64 a0, .int .u64 a1] w fun e w' => e = .returned (.tuple #[.int .i64 r1, .bool r2]) ∧ Drawn0 w w' := by
 have H : ((flyballref04_Class.f k a0).bind fun t1096 => (if t1096 = 4 then (flyballref04_Cmp.j0 k a0 a1 true) else ((flyballref04_Class.f k a1).bind fun t1097 => (flyballref04_Cmp.j0 k a0 a1 (t1097 == 4))))) = some (r1, r2) := h
 clear h
 have HC3 := Aside0.mk H
 clear H
 go_enter Try.func59, Try.ntmps59
 go_upto_region 1 with (fail)
 go_cut [15] (fun v15 wc => ∃ (kq : Nat) (x15_2 : Bool), v15 = .bool x15_2 ∧ Aside0 (flyballref04_Cmp.j0 kq a0 a1 x15_2 = some (r1, r2)) ∧ Aside0 (kq ≤ k) ∧ Drawn0 w wc)
 case first =>
  have H := HC3.out
  clear HC3
  obtain ⟨t1096, A4, H⟩ := zbs H
  try dsimp only at H
  by_cases c5 : t1096 = 4
  ·rw [if_pos c5] at H
   have c5b0 : (t1096 == 4) = true := beq_iff_eq.mpr c5
   have c5b1 : (t1096 != 4) = false := bne_eq_false_iff_eq.mpr c5
   clear c5
   (first | rw [c5b0] | (simp only [i64_w, i32_w]; rw [c5b0]) | skip)
   have H' := Aside0.mk H
   clear H
   go_wp2_with (first | ((with_reducible refine gtc 128 rfl ?_); refine zgL 9 Try.func128 (flyballref04_Class.calls k a0 t1096 _ A4.out) (h := ?_); rintro w' ⟨nd, rfl⟩))
   go_meet
   case rel => exact ⟨_, (true), zrl, H', ⟨zle⟩, by repeat (first | exact Drawn0.refl _ | apply Drawn0.step)⟩
  rw [if_neg c5] at H
  have c5b0 : (t1096 == 4) = false := beq_eq_false_iff_ne.mpr c5
  have c5b1 : (t1096 != 4) = true := bne_iff_ne.mpr c5
  (first | rw [c5b0] | (simp only [i64_w, i32_w]; rw [c5b0]) | skip)
  obtain ⟨t1097, A6, H⟩ := zbs H
  try dsimp only at H
  have H' := Aside0.mk H
  clear H
  go_wp2_with (first | ((with_reducible refine gtc 128 rfl ?_); refine zgL 9 Try.func128 (flyballref04_Class.calls k a0 t1096 _ A4.out) (h := ?_); rintro w' ⟨nd, rfl⟩) | (go_at_call 128; (with_reducible refine (flyballref04_Class.calls k a1 t1097 _ A6.out).mono ?_); rintro e w' ⟨rfl, ⟨nd, rfl⟩⟩))
  go_meet
  case rel => exact ⟨_, ((t1097 == 4)), zrl, H', ⟨zle⟩, by repeat (first | exact Drawn0.refl _ | apply Drawn0.step)⟩
 case rest =>
  clear HC3
  try clear c1
  try clear p2
  try clear c5
  try clear c5b0
  try clear c5b1
  obtain ⟨kq, x15_2, rfl, HA, HJ2, ⟨mc2, rfl⟩⟩ := hcut
  cases kq with
  | zero => exact absurd HA.out (by simp [flyballref04_Cmp.j0])
  | succ kj2 =>
   have H := HA.out
   clear HA
   simp only [flyballref04_Cmp.j0] at H
   by_cases c7 : x15_2 = true
   ·subst c7
    replace H := zit H
    simp only [Option.some.injEq, Prod.mk.injEq] at H
    obtain ⟨rfl, rfl⟩ := H
    go_wp2
    go_ret2
    exact ⟨by first | rfl | (simp; done) | (simp [*]; done), by repeat (first | exact Drawn0.refl _ | apply Drawn0.step)⟩
   replace c7 := Bool.eq_false_iff.mpr c7
   subst c7
   replace H := zif H
   obtain ⟨t1098, A8, H⟩ := zbs H
   try dsimp only at H
   obtain ⟨t1099, A9, H⟩ := zbs H
   try dsimp only at H
   by_cases c10 : t1098 < t1099
   ·rw [if_pos c10] at H
    have c10b0 : decide (t1098 < t1099) = true := decide_eq_true c10
    clear c10
    simp only [Option.some.injEq, Prod.mk.injEq] at H
    obtain ⟨rfl, rfl⟩ := H
    go_wp2_with (first | ((with_reducible refine gtc 129 rfl ?_); refine zgL 17 Try.func129 (flyballref04_Key.calls a0 t1098 _ A8.out) (h := ?_); rintro w' ⟨nd, rfl⟩) | ((with_reducible refine gtc 129 rfl ?_); refine zgL 19 Try.func129 (flyballref04_Key.calls a1 t1099 _ A9.out) (h := ?_); rintro w' ⟨nd, rfl⟩))
    go_ret2
    exact ⟨by first | rfl | (simp; done) | (simp [*]; done), by repeat (first | exact Drawn0.refl _ | apply Drawn0.step)⟩
   rw [if_neg c10] at H
   have c10b0 : decide (t1098 < t1099) = false := decide_eq_false c10
   clear c10
   by_cases c11 : t1098 > t1099
   ·rw [if_pos c11] at H
    have c11b0 : decide (t1099 < t1098) = true := decide_eq_true c11
    clear c11
    simp only [Option.some.injEq, Prod.mk.injEq] at H
    obtain ⟨rfl, rfl⟩ := H
    go_wp2_with (first | ((with_reducible refine gtc 129 rfl ?_); refine zgL 17 Try.func129 (flyballref04_Key.calls a0 t1098 _ A8.out) (h := ?_); rintro w' ⟨nd, rfl⟩) | ((with_reducible refine gtc 129 rfl ?_); refine zgL 19 Try.func129 (flyballref04_Key.calls a1 t1099 _ A9.out) (h := ?_); rintro w' ⟨nd, rfl⟩))
    go_ret2
    exact ⟨by first | rfl | (simp; done) | (simp [*]; done), by repeat (first | exact Drawn0.refl _ | apply Drawn0.step)⟩
   rw [if_neg c11] at H
   have c11b0 : decide (t1099 < t1098) = false := decide_eq_false c11
   clear c11
   simp only [Option.some.injEq, Prod.mk.injEq] at H
   obtain ⟨rfl, rfl⟩ := H
   go_wp2_with (first | ((with_reducible refine gtc 129 rfl ?_); refine zgL 17 Try.func129 (flyballref04_Key.calls a0 t1098 _ A8.out) (h := ?_); rintro w' ⟨nd, rfl⟩) | ((with_reducible refine gtc 129 rfl ?_); refine zgL 19 Try.func129 (flyballref04_Key.calls a1 t1099 _ A9.out) (h := ?_); rintro w' ⟨nd, rfl⟩))
   go_ret2
   exact ⟨by first | rfl | (simp; done) | (simp [*]; done), by repeat (first | exact Drawn0.refl _ | apply Drawn0.step)⟩
theorem flyballref16_le.calls (k : Nat) (a0 : Int) (a1 : Int) (r : Bool) (w : World) (h : flyballref16_le.f k a0 a1 = some r) :
  Calls Try.prog 116 #[.int .u64 a0, .int .u64 a1] w fun e w' => e = .returned (.bool r) ∧ Drawn0 w w' := by
 have H : ((flyballref04_Cmp.f k a0 a1).bind fun bt1100 => (if bt1100.2 = true then (some (decide (bt1100.1 ≤ 0))) else (some false))) = some r := h
 clear h
 obtain ⟨⟨t1100, t1101⟩, A3, H⟩ := zbs H
 try dsimp only at H
 by_cases c4 : t1101 = true
 ·subst c4
  replace H := zit H
  obtain rfl := Option.some.inj H
  go_enter Try.func116, Try.ntmps116
  go_wp2_with (first | ((with_reducible refine gtc 59 rfl ?_); refine zgL 10 Try.func59 (flyballref04_Cmp.calls k a0 a1 t1100 true _ A3.out) (h := ?_); rintro w' ⟨nd, rfl⟩))
  go_ret
  exact ⟨by first | rfl | (simp; done) | (simp [*]; done), by repeat (first | exact Drawn0.refl _ | apply Drawn0.step)⟩
 replace c4 := Bool.eq_false_iff.mpr c4
 subst c4
 replace H := zif H
 obtain rfl := Option.some.inj H
 go_enter Try.func116, Try.ntmps116
 go_wp2_with (first | ((with_reducible refine gtc 59 rfl ?_); refine zgL 10 Try.func59 (flyballref04_Cmp.calls k a0 a1 t1100 false _ A3.out) (h := ?_); rintro w' ⟨nd, rfl⟩))
 go_ret
 exact ⟨by first | rfl | (simp; done) | (simp [*]; done), by repeat (first | exact Drawn0.refl _ | apply Drawn0.step)⟩
theorem flyballref16_Norm.calls (k : Nat) (a0_0 : Bool) (a0_1 : Int) (a0_2 : Int) (r1 : Bool) (r2 : Int) (r3 : Int) (w : World) (h : flyballref16_Norm.f k a0_0 a0_1 a0_2 = some (r1, r2, r3)) :
  Calls Try.prog 49 #[.agg #[.bool a0_0, .int .u64 a0_1, .int .u64 a0_2]] w fun e w' => e = .returned (.agg #[.bool r1, .int .u64 r2, .int .u64 r3]) ∧ Below w.heap.size w w' := by
 have hu43 := Try.underlying43
 have HB := Aside0.mk (Below.refl w.heap.size w)
 have H : ((flyballref16_le.f k a0_1 a0_2).bind fun t1104 => (if a0_0 = true then (flyballref16_Norm.j0 k true a0_0 a0_1 a0_2) else (if t1104 = true then (if a0_1 = 9218868437227405312 then (flyballref16_Norm.j0 k true a0_0 a0_1 a0_2) else (flyballref16_Norm.j0 k (a0_2 == 18442240474082181120) a0_0 a0_1 a0_2)) else (flyballref16_Norm.j0 k true a0_0 a0_1 a0_2)))) = some (r1, r2, r3) := h
 clear h
 obtain ⟨t1104, A2, H⟩ := zbs H
 try dsimp only at H
 have HC3 := Aside0.mk H
 clear H
 go_enter Try.func49, Try.ntmps49
 go_upto_region 2 with (first | ((with_reducible refine gtd 1 rfl ?_); refine zbx 1 #[.bool a0_0, .int .u64 a0_1, .int .u64 a0_2] 43 (h := ?_); intro gb1102 hg w4 hbox hb; have GW1102 := zkZ hg (zaB (p := Below w.heap.size w _)); replace HB := Aside0.mk (below_step zaB hb); have BK1102 := Aside0.mk (hbox); clear hb hbox hg) | ((with_reducible refine gtd 2 rfl ?_); refine zbx 2 #[.bool false, .int .u64 0, .int .u64 0] 43 (h := ?_); intro gb1103 hg w5 hbox hb; have GW1103 := zkz HB hg; have NB1102_1103 := zkl BK1102 hg; have NB1103_1102 := zkr BK1102 hg; replace BK1102 := zkb BK1102 hb; replace HB := zkB HB hb; have BK1103 := Aside0.mk (hbox); clear hb hbox hg; obtain ⟨_, _⟩ := zsy NB1102_1103; obtain ⟨z7_0, z7_1, z7_2, f7_0, f7_1, f7_2⟩ := zq3 BK1102) | ((with_reducible refine gtc 116 rfl ?_); refine zgL 8 Try.func116 (flyballref16_le.calls k a0_1 a0_2 t1104 _ A2.out) (h := ?_); rintro w' ⟨nd, rfl⟩))
 (try simp only [Act.put, List.setIfInBounds_toArray, List.set_cons_zero, List.set_cons_succ])
 go_cut [24] (fun v24 wc => ∃ (kq : Nat) (x24_2 : Bool), v24 = .bool x24_2 ∧ Aside0 (flyballref16_Norm.j0 kq x24_2 a0_0 a0_1 a0_2 = some (r1, r2, r3)) ∧ Aside0 (kq ≤ k) ∧ Aside0 (wc.heap[gb1102]? = some (.cells #[.bool a0_0, .int .u64 a0_1, .int .u64 a0_2] 43 (0, 0))) ∧ Aside0 (wc.heap[gb1103]? = some (.cells #[.bool false, .int .u64 0, .int .u64 0] 43 (0, 0))) ∧ Aside0 (Below w.heap.size w wc))
 case first =>
  have H := HC3.out
  clear HC3
  by_cases c8 : a0_0 = true
  ·subst c8
   replace H := zit H
   have H' := Aside0.mk H
   clear H
   obtain ⟨_, _⟩ := zsy NB1102_1103
   obtain ⟨z10_0, z10_1, z10_2, f10_0, f10_1, f10_2⟩ := zq3 BK1102
   go_wp2
   go_meet
   case rel => exact ⟨_, (true), zrl, H', ⟨zle⟩, ⟨zkq BK1102⟩, ⟨zkq BK1103⟩, ⟨zaB⟩⟩
  replace c8 := Bool.eq_false_iff.mpr c8
  subst c8
  replace H := zif H
  by_cases c11 : t1104 = true
  ·subst c11
   replace H := zit H
   by_cases c12 : a0_1 = 9218868437227405312
   ·rw [if_pos c12] at H
    have c12b0 : (a0_1 == 9218868437227405312) = true := beq_iff_eq.mpr c12
    have c12b1 : (a0_1 != 9218868437227405312) = false := bne_eq_false_iff_eq.mpr c12
    clear c12
    (first | rw [c12b0] | (simp only [i64_w, i32_w]; rw [c12b0]) | skip)
    have H' := Aside0.mk H
    clear H
    obtain ⟨_, _⟩ := zsy NB1102_1103
    obtain ⟨z14_0, z14_1, z14_2, f14_0, f14_1, f14_2⟩ := zq3 BK1102
    go_wp2
    go_meet
    case rel => exact ⟨_, (true), zrl, H', ⟨zle⟩, ⟨zkq BK1102⟩, ⟨zkq BK1103⟩, ⟨zaB⟩⟩
   rw [if_neg c12] at H
   have c12b0 : (a0_1 == 9218868437227405312) = false := beq_eq_false_iff_ne.mpr c12
   have c12b1 : (a0_1 != 9218868437227405312) = true := bne_iff_ne.mpr c12
   (first | rw [c12b0] | (simp only [i64_w, i32_w]; rw [c12b0]) | skip)
   have H' := Aside0.mk H
   clear H
   obtain ⟨_, _⟩ := zsy NB1102_1103
   obtain ⟨z16_0, z16_1, z16_2, f16_0, f16_1, f16_2⟩ := zq3 BK1102
   go_wp2
   go_meet
   case rel => exact ⟨_, ((a0_2 == 18442240474082181120)), zrl, H', ⟨zle⟩, ⟨zkq BK1102⟩, ⟨zkq BK1103⟩, ⟨zaB⟩⟩
  replace c11 := Bool.eq_false_iff.mpr c11
  subst c11
  replace H := zif H
  have H' := Aside0.mk H
  clear H
  obtain ⟨_, _⟩ := zsy NB1102_1103
  obtain ⟨z18_0, z18_1, z18_2, f18_0, f18_1, f18_2⟩ := zq3 BK1102
  go_wp2
  go_meet
  case rel => exact ⟨_, (true), zrl, H', ⟨zle⟩, ⟨zkq BK1102⟩, ⟨zkq BK1103⟩, ⟨zaB⟩⟩
 case rest =>
  clear HC3
  try clear c1
  try clear p2
  try clear c4
  try clear c6
  try clear c8
  try clear c9
  try clear c11
  try clear c12
  try clear c12b0
  try clear c12b1
  try clear c13
  try clear c15
  try clear c17
  try clear z10_0 z10_1 z10_2 f10_0 f10_1 f10_2
  try clear z14_0 z14_1 z14_2 f14_0 f14_1 f14_2
  try clear z16_0 z16_1 z16_2 f16_0 f16_1 f16_2
  try clear z18_0 z18_1 z18_2 f18_0 f18_1 f18_2
  try clear z7_0 z7_1 z7_2 f7_0 f7_1 f7_2
  obtain ⟨kq, x24_2, rfl, HA, HJ2, BK1102, BK1103, HB⟩ := hcut
  cases kq with
  | zero => exact absurd HA.out (by simp [flyballref16_Norm.j0])
  | succ kj2 =>
   have H := HA.out
   clear HA
   simp only [flyballref16_Norm.j0] at H
   by_cases c19 : x24_2 = true
   ·subst c19
    replace H := zit H
    simp only [Option.some.injEq, Prod.mk.injEq] at H
    obtain ⟨rfl, rfl, rfl⟩ := H
    obtain ⟨_, _⟩ := zsy NB1103_1102
    obtain ⟨_, _, _, _, _, _⟩ := zq3 BK1103
    go_wp2
    refine bodyPost_ret (results_cell_row rfl _ _ gb1103 43 #[.bool true, .int .u64 0, .int .u64 0] (0, 0) _ rfl (blk_put (cs := #[.bool true, .int .u64 0, .int .u64 0]) (blk_put (cs := #[.bool true, .int .u64 0, .int .u64 0]) (blk_put (zkq BK1103) 0 _ rfl) 1 _ rfl) 2 _ rfl) Try.underlying43 rfl (by kernel_rfl)) rfl ?_
    exact ⟨zaE, zaB⟩
   replace c19 := Bool.eq_false_iff.mpr c19
   subst c19
   replace H := zif H
   by_cases c22 : a0_1 = 9223372036854775808
   ·rw [if_pos c22] at H
    have c22b0 : (a0_1 == 9223372036854775808) = true := beq_iff_eq.mpr c22
    have c22b1 : (a0_1 != 9223372036854775808) = false := bne_eq_false_iff_eq.mpr c22
    clear c22
    by_cases c23 : a0_2 = 9223372036854775808
    ·rw [if_pos c23] at H
     have c23b0 : (a0_2 == 9223372036854775808) = true := beq_iff_eq.mpr c23
     have c23b1 : (a0_2 != 9223372036854775808) = false := bne_eq_false_iff_eq.mpr c23
     clear c23
     simp only [Option.some.injEq, Prod.mk.injEq] at H
     obtain ⟨rfl, rfl, rfl⟩ := H
     obtain ⟨_, _⟩ := zsy NB1102_1103
     obtain ⟨_, _, _, _, _, _⟩ := zq3 BK1102
     obtain ⟨_, _, _, _, _, _⟩ := zq3 BK1103
     go_wp2
     refine bodyPost_ret (results_cell_row rfl _ _ gb1103 43 #[.bool a0_0, .int .u64 0, .int .u64 0] (0, 0) _ rfl (blk_put (cs := #[.bool a0_0, .int .u64 0, .int .u64 0]) (blk_put (cs := #[.bool a0_0, .int .u64 0, .int .u64 0]) (blk_put (zkf (zkf (zkq BK1103) NB1103_1102.out _) NB1103_1102.out _) 0 _ rfl) 1 _ rfl) 2 _ rfl) Try.underlying43 rfl (by kernel_rfl)) rfl ?_
     exact ⟨zaE, zaB⟩
    rw [if_neg c23] at H
    have c23b0 : (a0_2 == 9223372036854775808) = false := beq_eq_false_iff_ne.mpr c23
    have c23b1 : (a0_2 != 9223372036854775808) = true := bne_iff_ne.mpr c23
    simp only [Option.some.injEq, Prod.mk.injEq] at H
    obtain ⟨rfl, rfl, rfl⟩ := H
    obtain ⟨_, _⟩ := zsy NB1102_1103
    obtain ⟨_, _, _, _, _, _⟩ := zq3 BK1102
    obtain ⟨_, _, _, _, _, _⟩ := zq3 BK1103
    go_wp2
    refine bodyPost_ret (results_cell_row rfl _ _ gb1103 43 #[.bool a0_0, .int .u64 0, .int .u64 a0_2] (0, 0) _ rfl (blk_put (cs := #[.bool a0_0, .int .u64 0, .int .u64 0]) (blk_put (cs := #[.bool a0_0, .int .u64 0, .int .u64 0]) (blk_put (zkf (zkq BK1103) NB1103_1102.out _) 0 _ rfl) 1 _ rfl) 2 _ rfl) Try.underlying43 rfl (by kernel_rfl)) rfl ?_
    exact ⟨zaE, zaB⟩
   rw [if_neg c22] at H
   have c22b0 : (a0_1 == 9223372036854775808) = false := beq_eq_false_iff_ne.mpr c22
   have c22b1 : (a0_1 != 9223372036854775808) = true := bne_iff_ne.mpr c22
   by_cases c30 : a0_2 = 9223372036854775808
   ·rw [if_pos c30] at H
    have c30b0 : (a0_2 == 9223372036854775808) = true := beq_iff_eq.mpr c30
    have c30b1 : (a0_2 != 9223372036854775808) = false := bne_eq_false_iff_eq.mpr c30
    clear c30
    simp only [Option.some.injEq, Prod.mk.injEq] at H
    obtain ⟨rfl, rfl, rfl⟩ := H
    obtain ⟨_, _⟩ := zsy NB1102_1103
    obtain ⟨_, _, _, _, _, _⟩ := zq3 BK1102
    obtain ⟨_, _, _, _, _, _⟩ := zq3 BK1103
    go_wp2
    refine bodyPost_ret (results_cell_row rfl _ _ gb1103 43 #[.bool a0_0, .int .u64 a0_1, .int .u64 0] (0, 0) _ rfl (blk_put (cs := #[.bool a0_0, .int .u64 a0_1, .int .u64 0]) (blk_put (cs := #[.bool a0_0, .int .u64 0, .int .u64 0]) (blk_put (zkf (zkq BK1103) NB1103_1102.out _) 0 _ rfl) 1 _ rfl) 2 _ rfl) Try.underlying43 rfl (by kernel_rfl)) rfl ?_
    exact ⟨zaE, zaB⟩
   rw [if_neg c30] at H
   have c30b0 : (a0_2 == 9223372036854775808) = false := beq_eq_false_iff_ne.mpr c30
   have c30b1 : (a0_2 != 9223372036854775808) = true := bne_iff_ne.mpr c30
   simp only [Option.some.injEq, Prod.mk.injEq] at H
   obtain ⟨rfl, rfl, rfl⟩ := H
   obtain ⟨_, _⟩ := zsy NB1102_1103
   obtain ⟨_, _, _, _, _, _⟩ := zq3 BK1102
   obtain ⟨_, _, _, _, _, _⟩ := zq3 BK1103
   go_wp2
   refine bodyPost_ret (results_cell_row rfl _ _ gb1103 43 #[.bool a0_0, .int .u64 a0_1, .int .u64 a0_2] (0, 0) _ rfl (blk_put (cs := #[.bool a0_0, .int .u64 a0_1, .int .u64 0]) (blk_put (cs := #[.bool a0_0, .int .u64 0, .int .u64 0]) (blk_put (zkq BK1103) 0 _ rfl) 1 _ rfl) 2 _ rfl) Try.underlying43 rfl (by kernel_rfl)) rfl ?_
   exact ⟨zaE, zaB⟩
theorem flyballref16_Make.calls (k : Nat) (a0 : Int) (a1 : Int) (r1 : Bool) (r2 : Int) (r3 : Int) (w : World) (h : flyballref16_Make.f k a0 a1 = some (r1, r2, r3)) :
  Calls Try.prog 38 #[.int .u64 a0, .int .u64 a1] w fun e w' => e = .returned (.agg #[.bool r1, .int .u64 r2, .int .u64 r3]) ∧ Below w.heap.size w w' := by
 have hu43 := Try.underlying43
 have HB := Aside0.mk (Below.refl w.heap.size w)
 have H : ((flyballref16_Norm.f k false a0 a1).bind fun bt1106 => (some (bt1106.1, bt1106.2.1, bt1106.2.2))) = some (r1, r2, r3) := h
 clear h
 obtain ⟨⟨t1106, t1107, t1108⟩, A3, H⟩ := zbs H
 try dsimp only at H
 simp only [Option.some.injEq, Prod.mk.injEq] at H
 obtain ⟨rfl, rfl, rfl⟩ := H
 go_enter Try.func38, Try.ntmps38
 go_wp2_with (first | ((with_reducible refine gtd 4 rfl ?_); refine zbx 4 #[.bool false, .int .u64 0, .int .u64 0] 43 (h := ?_); intro gb1105 hg w4 hbox hb; have GW1105 := zkZ hg (zaB (p := Below w.heap.size w _)); replace HB := Aside0.mk (below_step zaB hb); have BK1105 := Aside0.mk (hbox); clear hb hbox hg) | ((with_reducible refine gtc 49 rfl ?_); refine zgL 8 Try.func49 (flyballref16_Norm.calls k false a0 a1 t1106 t1107 t1108 _ A3.out) (h := ?_); rintro w5 hb; replace BK1105 := zkb BK1105 hb; replace HB := zkB HB hb; (try clear hb); obtain ⟨_, _, _, _, _, _⟩ := zq3 BK1105))
 refine bodyPost_ret (results_cell_row rfl _ _ gb1105 43 #[.bool t1106, .int .u64 t1107, .int .u64 t1108] (0, 0) _ rfl (blk_put (cs := #[.bool t1106, .int .u64 t1107, .int .u64 0]) (blk_put (cs := #[.bool t1106, .int .u64 0, .int .u64 0]) (blk_put (zkq BK1105) 0 _ rfl) 1 _ rfl) 2 _ rfl) Try.underlying43 rfl (by kernel_rfl)) rfl ?_
 exact ⟨zaE, zaB⟩
theorem flyballref04_Finite.calls (k : Nat) (a0 : Int) (r : Bool) (w : World) (h : flyballref04_Finite.f k a0 = some r) :
  Calls Try.prog 115 #[.int .u64 a0] w fun e w' => e = .returned (.bool r) ∧ Drawn0 w w' := by
 have H : ((flyballref04_Class.f k a0).bind fun t1109 => (if t1109 = 3 then (some false) else (some (t1109 != 4)))) = some r := h
 clear h
 obtain ⟨t1109, A2, H⟩ := zbs H
 try dsimp only at H
 by_cases c3 : t1109 = 3
 ·rw [if_pos c3] at H
  have c3b0 : (t1109 == 3) = true := beq_iff_eq.mpr c3
  have c3b1 : (t1109 != 3) = false := bne_eq_false_iff_eq.mpr c3
  clear c3
  obtain rfl := Option.some.inj H
  go_enter Try.func115, Try.ntmps115
  go_wp2_with (first | ((with_reducible refine gtc 128 rfl ?_); refine zgL 5 Try.func128 (flyballref04_Class.calls k a0 t1109 _ A2.out) (h := ?_); rintro w' ⟨nd, rfl⟩))
  go_ret
  exact ⟨by first | rfl | (simp; done) | (simp [*]; done), by repeat (first | exact Drawn0.refl _ | apply Drawn0.step)⟩
 rw [if_neg c3] at H
 have c3b0 : (t1109 == 3) = false := beq_eq_false_iff_ne.mpr c3
 have c3b1 : (t1109 != 3) = true := bne_iff_ne.mpr c3
 obtain rfl := Option.some.inj H
 go_enter Try.func115, Try.ntmps115
 go_wp2_with (first | ((with_reducible refine gtc 128 rfl ?_); refine zgL 5 Try.func128 (flyballref04_Class.calls k a0 t1109 _ A2.out) (h := ?_); rintro w' ⟨nd, rfl⟩))
 go_ret
 exact ⟨by first | rfl | (simp; done) | (simp [*]; done), by repeat (first | exact Drawn0.refl _ | apply Drawn0.step)⟩
theorem flyballref16_Has.calls (k : Nat) (a0_0 : Bool) (a0_1 : Int) (a0_2 : Int) (a1 : Int) (r : Bool) (w : World) (h : flyballref16_Has.f k a0_0 a0_1 a0_2 a1 = some r) :
  Calls Try.prog 42 #[.agg #[.bool a0_0, .int .u64 a0_1, .int .u64 a0_2], .int .u64 a1] w fun e w' => e = .returned (.bool r) ∧ Below w.heap.size w w' := by
 have hu43 := Try.underlying43
 have HB := Aside0.mk (Below.refl w.heap.size w)
 have H : ((flyballref16_Norm.f k a0_0 a0_1 a0_2).bind fun bt1111 => ((flyballref04_Finite.f k a1).bind fun t1115 => (if bt1111.1 = true then (some false) else (if t1115 = true then ((flyballref16_le.f k bt1111.2.1 a1).bind fun t1116 => (if t1116 = true then ((flyballref16_le.f k a1 bt1111.2.2).bind fun t1117 => (some t1117)) else (some false))) else (some false))))) = some r := h
 clear h
 obtain ⟨⟨t1111, t1112, t1113⟩, A3, H⟩ := zbs H
 try dsimp only at H
 obtain ⟨t1115, A4, H⟩ := zbs H
 try dsimp only at H
 by_cases c5 : t1111 = true
 ·subst c5
  replace H := zit H
  obtain rfl := Option.some.inj H
  go_enter Try.func42, Try.ntmps42
  go_wp2_with (first | ((with_reducible refine gtd 2 rfl ?_); refine zbx 2 #[.bool a0_0, .int .u64 a0_1, .int .u64 a0_2] 43 (h := ?_); intro gb1110 hg w6 hbox hb; have GW1110 := zkZ hg (zaB (p := Below w.heap.size w _)); replace HB := Aside0.mk (below_step zaB hb); have BK1110 := Aside0.mk (hbox); clear hb hbox hg; obtain ⟨_, _, _, _, _, _⟩ := zq3 BK1110) | ((with_reducible refine gtc 49 rfl ?_); refine zgL 8 Try.func49 (flyballref16_Norm.calls k a0_0 a0_1 a0_2 true t1112 t1113 _ A3.out) (h := ?_); rintro w8 hb; replace BK1110 := zkb BK1110 hb; replace HB := zkB HB hb; (try clear hb)) | ((with_reducible refine gtd 5 rfl ?_); refine zbx 5 #[.bool false, .int .u64 0, .int .u64 0] 43 (h := ?_); intro gb1114 hg w9 hbox hb; have GW1114 := zkz HB hg; have NB1110_1114 := zkl BK1110 hg; have NB1114_1110 := zkr BK1110 hg; replace BK1110 := zkb BK1110 hb; replace HB := zkB HB hb; have BK1114 := Aside0.mk (hbox); clear hb hbox hg; obtain ⟨_, _⟩ := zsy NB1114_1110; obtain ⟨_, _, _, _, _, _⟩ := zq3 BK1114) | ((with_reducible refine gtc 115 rfl ?_); refine zgL 10 Try.func115 (flyballref04_Finite.calls k a1 t1115 _ A4.out) (h := ?_); rintro w' ⟨nd, rfl⟩))
  go_ret
  exact ⟨zaE, zaB⟩
 replace c5 := Bool.eq_false_iff.mpr c5
 subst c5
 replace H := zif H
 by_cases c12 : t1115 = true
 ·subst c12
  replace H := zit H
  obtain ⟨t1116, A13, H⟩ := zbs H
  try dsimp only at H
  by_cases c14 : t1116 = true
  ·subst c14
   replace H := zit H
   obtain ⟨t1117, A15, H⟩ := zbs H
   try dsimp only at H
   obtain rfl := Option.some.inj H
   go_enter Try.func42, Try.ntmps42
   go_wp2_with (first | ((with_reducible refine gtd 2 rfl ?_); refine zbx 2 #[.bool a0_0, .int .u64 a0_1, .int .u64 a0_2] 43 (h := ?_); intro gb1110 hg w16 hbox hb; have GW1110 := zkZ hg (zaB (p := Below w.heap.size w _)); replace HB := Aside0.mk (below_step zaB hb); have BK1110 := Aside0.mk (hbox); clear hb hbox hg; obtain ⟨_, _, _, _, _, _⟩ := zq3 BK1110) | ((with_reducible refine gtc 49 rfl ?_); refine zgL 8 Try.func49 (flyballref16_Norm.calls k a0_0 a0_1 a0_2 false t1112 t1113 _ A3.out) (h := ?_); rintro w18 hb; replace BK1110 := zkb BK1110 hb; replace HB := zkB HB hb; (try clear hb)) | ((with_reducible refine gtd 5 rfl ?_); refine zbx 5 #[.bool false, .int .u64 0, .int .u64 0] 43 (h := ?_); intro gb1114 hg w19 hbox hb; have GW1114 := zkz HB hg; have NB1110_1114 := zkl BK1110 hg; have NB1114_1110 := zkr BK1110 hg; replace BK1110 := zkb BK1110 hb; replace HB := zkB HB hb; have BK1114 := Aside0.mk (hbox); clear hb hbox hg; obtain ⟨_, _⟩ := zsy NB1114_1110; obtain ⟨_, _, _, _, _, _⟩ := zq3 BK1114) | ((with_reducible refine gtc 115 rfl ?_); refine zgL 10 Try.func115 (flyballref04_Finite.calls k a1 true _ A4.out) (h := ?_); rintro w' ⟨nd, rfl⟩) | (go_at_call 116; (with_reducible refine (flyballref16_le.calls k t1112 a1 true _ A13.out).mono ?_); rintro e w' ⟨rfl, ⟨nd, rfl⟩⟩) | (go_at_call 116; (with_reducible refine (flyballref16_le.calls k a1 t1113 t1117 _ A15.out).mono ?_); rintro e w' ⟨rfl, ⟨nd, rfl⟩⟩))
   go_ret
   exact ⟨zaE, zaB⟩
  replace c14 := Bool.eq_false_iff.mpr c14
  subst c14
  replace H := zif H
  obtain rfl := Option.some.inj H
  go_enter Try.func42, Try.ntmps42
  go_wp2_with (first | ((with_reducible refine gtd 2 rfl ?_); refine zbx 2 #[.bool a0_0, .int .u64 a0_1, .int .u64 a0_2] 43 (h := ?_); intro gb1110 hg w22 hbox hb; have GW1110 := zkZ hg (zaB (p := Below w.heap.size w _)); replace HB := Aside0.mk (below_step zaB hb); have BK1110 := Aside0.mk (hbox); clear hb hbox hg; obtain ⟨_, _, _, _, _, _⟩ := zq3 BK1110) | ((with_reducible refine gtc 49 rfl ?_); refine zgL 8 Try.func49 (flyballref16_Norm.calls k a0_0 a0_1 a0_2 false t1112 t1113 _ A3.out) (h := ?_); rintro w24 hb; replace BK1110 := zkb BK1110 hb; replace HB := zkB HB hb; (try clear hb)) | ((with_reducible refine gtd 5 rfl ?_); refine zbx 5 #[.bool false, .int .u64 0, .int .u64 0] 43 (h := ?_); intro gb1114 hg w25 hbox hb; have GW1114 := zkz HB hg; have NB1110_1114 := zkl BK1110 hg; have NB1114_1110 := zkr BK1110 hg; replace BK1110 := zkb BK1110 hb; replace HB := zkB HB hb; have BK1114 := Aside0.mk (hbox); clear hb hbox hg; obtain ⟨_, _⟩ := zsy NB1114_1110; obtain ⟨_, _, _, _, _, _⟩ := zq3 BK1114) | ((with_reducible refine gtc 115 rfl ?_); refine zgL 10 Try.func115 (flyballref04_Finite.calls k a1 true _ A4.out) (h := ?_); rintro w' ⟨nd, rfl⟩) | (go_at_call 116; (with_reducible refine (flyballref16_le.calls k t1112 a1 false _ A13.out).mono ?_); rintro e w' ⟨rfl, ⟨nd, rfl⟩⟩))
  go_ret
  exact ⟨zaE, zaB⟩
 replace c12 := Bool.eq_false_iff.mpr c12
 subst c12
 replace H := zif H
 obtain rfl := Option.some.inj H
 go_enter Try.func42, Try.ntmps42
 go_wp2_with (first | ((with_reducible refine gtd 2 rfl ?_); refine zbx 2 #[.bool a0_0, .int .u64 a0_1, .int .u64 a0_2] 43 (h := ?_); intro gb1110 hg w28 hbox hb; have GW1110 := zkZ hg (zaB (p := Below w.heap.size w _)); replace HB := Aside0.mk (below_step zaB hb); have BK1110 := Aside0.mk (hbox); clear hb hbox hg; obtain ⟨_, _, _, _, _, _⟩ := zq3 BK1110) | ((with_reducible refine gtc 49 rfl ?_); refine zgL 8 Try.func49 (flyballref16_Norm.calls k a0_0 a0_1 a0_2 false t1112 t1113 _ A3.out) (h := ?_); rintro w30 hb; replace BK1110 := zkb BK1110 hb; replace HB := zkB HB hb; (try clear hb)) | ((with_reducible refine gtd 5 rfl ?_); refine zbx 5 #[.bool false, .int .u64 0, .int .u64 0] 43 (h := ?_); intro gb1114 hg w31 hbox hb; have GW1114 := zkz HB hg; have NB1110_1114 := zkl BK1110 hg; have NB1114_1110 := zkr BK1110 hg; replace BK1110 := zkb BK1110 hb; replace HB := zkB HB hb; have BK1114 := Aside0.mk (hbox); clear hb hbox hg; obtain ⟨_, _⟩ := zsy NB1114_1110; obtain ⟨_, _, _, _, _, _⟩ := zq3 BK1114) | ((with_reducible refine gtc 115 rfl ?_); refine zgL 10 Try.func115 (flyballref04_Finite.calls k a1 false _ A4.out) (h := ?_); rintro w' ⟨nd, rfl⟩))
 go_ret
 exact ⟨zaE, zaB⟩
theorem flyballref16_Inside.calls (k : Nat) (a0_0 : Bool) (a0_1 : Int) (a0_2 : Int) (a1_0 : Bool) (a1_1 : Int) (a1_2 : Int) (r : Bool) (w : World) (h : flyballref16_Inside.f k a0_0 a0_1 a0_2 a1_0 a1_1 a1_2 = some r) :
  Calls Try.prog 44 #[.agg #[.bool a0_0, .int .u64 a0_1, .int .u64 a0_2], .agg #[.bool a1_0, .int .u64 a1_1, .int .u64 a1_2]] w fun e w' => e = .returned (.bool r) ∧ Below w.heap.size w w' := by
 have hu43 := Try.underlying43
 have HB := Aside0.mk (Below.refl w.heap.size w)
 have H : ((flyballref16_Norm.f k a0_0 a0_1 a0_2).bind fun bt1120 => ((flyballref16_Norm.f k a1_0 a1_1 a1_2).bind fun bt1124 => (if bt1120.1 = true then (flyballref16_Inside.j0 k true bt1120.1 bt1120.2.1 bt1120.2.2 bt1124.1 bt1124.2.1 bt1124.2.2) else (flyballref16_Inside.j0 k bt1124.1 bt1120.1 bt1120.2.1 bt1120.2.2 bt1124.1 bt1124.2.1 bt1124.2.2)))) = some r := h
 clear h
 obtain ⟨⟨t1120, t1121, t1122⟩, A3, H⟩ := zbs H
 try dsimp only at H
 obtain ⟨⟨t1124, t1125, t1126⟩, A4, H⟩ := zbs H
 try dsimp only at H
 have HC5 := Aside0.mk H
 clear H
 go_enter Try.func44, Try.ntmps44
 go_upto_region 3 with (first | ((with_reducible refine gtd 2 rfl ?_); refine zbx 2 #[.bool a0_0, .int .u64 a0_1, .int .u64 a0_2] 43 (h := ?_); intro gb1118 hg w6 hbox hb; have GW1118 := zkZ hg (zaB (p := Below w.heap.size w _)); replace HB := Aside0.mk (below_step zaB hb); have BK1118 := Aside0.mk (hbox); clear hb hbox hg) | ((with_reducible refine gtd 3 rfl ?_); refine zbx 3 #[.bool a1_0, .int .u64 a1_1, .int .u64 a1_2] 43 (h := ?_); intro gb1119 hg w7 hbox hb; have GW1119 := zkz HB hg; have NB1118_1119 := zkl BK1118 hg; have NB1119_1118 := zkr BK1118 hg; replace BK1118 := zkb BK1118 hb; replace HB := zkB HB hb; have BK1119 := Aside0.mk (hbox); clear hb hbox hg; obtain ⟨_, _⟩ := zsy NB1118_1119; obtain ⟨z9_0, z9_1, z9_2, f9_0, f9_1, f9_2⟩ := zq3 BK1118) | ((with_reducible refine gtc 49 rfl ?_); refine zgL 8 Try.func49 (flyballref16_Norm.calls k a0_0 a0_1 a0_2 t1120 t1121 t1122 _ A3.out) (h := ?_); rintro w10 hb; replace BK1118 := zkb BK1118 hb; replace BK1119 := zkb BK1119 hb; replace HB := zkB HB hb; (try clear hb)) | ((with_reducible refine gtd 5 rfl ?_); refine zbx 5 #[.bool false, .int .u64 0, .int .u64 0] 43 (h := ?_); intro gb1123 hg w11 hbox hb; have GW1123 := zkz HB hg; have NB1118_1123 := zkl BK1118 hg; have NB1123_1118 := zkr BK1118 hg; have NB1119_1123 := zkl BK1119 hg; have NB1123_1119 := zkr BK1119 hg; replace BK1118 := zkb BK1118 hb; replace BK1119 := zkb BK1119 hb; replace HB := zkB HB hb; have BK1123 := Aside0.mk (hbox); clear hb hbox hg; obtain ⟨_, _, _, _⟩ := zs2 NB1123_1118 NB1123_1119; obtain ⟨z14_0, z14_1, z14_2, f14_0, f14_1, f14_2⟩ := zq3 BK1123; obtain ⟨z15_0, z15_1, z15_2, f15_0, f15_1, f15_2⟩ := zq3 BK1119) | ((with_reducible refine gtc 49 rfl ?_); refine zgL 10 Try.func49 (flyballref16_Norm.calls k a1_0 a1_1 a1_2 t1124 t1125 t1126 _ A4.out) (h := ?_); rintro w16 hb; replace BK1118 := Aside0.mk (blk_below (zkf (zkf (zkf BK1118.out NB1118_1123.out _) NB1118_1123.out _) NB1118_1123.out _) hb); replace BK1119 := Aside0.mk (blk_below (zkf (zkf (zkf BK1119.out NB1119_1123.out _) NB1119_1123.out _) NB1119_1123.out _) hb); replace BK1123 := Aside0.mk (blk_below (o := .cells #[.bool t1120, .int .u64 t1121, .int .u64 t1122] 43 (0, 0)) (blk_put (cs := #[.bool t1120, .int .u64 t1121, .int .u64 0]) (blk_put (cs := #[.bool t1120, .int .u64 0, .int .u64 0]) (blk_put BK1123.out 0 _ rfl) 1 _ rfl) 2 _ rfl) hb); replace HB := Aside0.mk (below_step (below_set (below_set (below_set HB.out GW1123.out) GW1123.out) GW1123.out) hb); (try clear hb)) | ((with_reducible refine gtd 6 rfl ?_); refine zbx 6 #[.bool false, .int .u64 0, .int .u64 0] 43 (h := ?_); intro gb1127 hg w17 hbox hb; have GW1127 := zkz HB hg; have NB1118_1127 := zkl BK1118 hg; have NB1127_1118 := zkr BK1118 hg; have NB1119_1127 := zkl BK1119 hg; have NB1127_1119 := zkr BK1119 hg; have NB1123_1127 := zkl BK1123 hg; have NB1127_1123 := zkr BK1123 hg; replace BK1118 := zkb BK1118 hb; replace BK1119 := zkb BK1119 hb; replace BK1123 := zkb BK1123 hb; replace HB := zkB HB hb; have BK1127 := Aside0.mk (hbox); clear hb hbox hg; obtain ⟨_, _, _, _, _, _⟩ := zs3 NB1127_1118 NB1127_1119 NB1127_1123; obtain ⟨z21_0, z21_1, z21_2, f21_0, f21_1, f21_2⟩ := zq3 BK1127))
 (try simp only [Act.put, List.setIfInBounds_toArray, List.set_cons_zero, List.set_cons_succ])
 go_cut [16] (fun v16 wc => ∃ (kq : Nat) (x16_4 : Bool), v16 = .bool x16_4 ∧ Aside0 (flyballref16_Inside.j0 kq x16_4 t1120 t1121 t1122 t1124 t1125 t1126 = some r) ∧ Aside0 (kq ≤ k) ∧ Aside0 (wc.heap[gb1118]? = some (.cells #[.bool a0_0, .int .u64 a0_1, .int .u64 a0_2] 43 (0, 0))) ∧ Aside0 (wc.heap[gb1119]? = some (.cells #[.bool a1_0, .int .u64 a1_1, .int .u64 a1_2] 43 (0, 0))) ∧ Aside0 (wc.heap[gb1123]? = some (.cells #[.bool t1120, .int .u64 t1121, .int .u64 t1122] 43 (0, 0))) ∧ Aside0 (wc.heap[gb1127]? = some (.cells #[.bool t1124, .int .u64 t1125, .int .u64 t1126] 43 (0, 0))) ∧ Aside0 (Below w.heap.size w wc))
 case first =>
  have H := HC5.out
  clear HC5
  by_cases c22 : t1120 = true
  ·subst c22
   replace H := zit H
   have H' := Aside0.mk H
   clear H
   obtain ⟨_, _, _, _, _, _⟩ := zs3 NB1123_1118 NB1123_1119 NB1123_1127
   obtain ⟨z26_0, z26_1, z26_2, f26_0, f26_1, f26_2⟩ := zq3 BK1123
   go_wp2
   go_meet
   case rel => exact ⟨_, (true), zrl, H', ⟨zle⟩, ⟨(zkf (zkf (zkf (zkq BK1118) NB1118_1127.out _) NB1118_1127.out _) NB1118_1127.out _)⟩, ⟨(zkf (zkf (zkf (zkq BK1119) NB1119_1127.out _) NB1119_1127.out _) NB1119_1127.out _)⟩, ⟨(zkf (zkf (zkf (zkq BK1123) NB1123_1127.out _) NB1123_1127.out _) NB1123_1127.out _)⟩, ⟨(blk_put (cs := #[.bool t1124, .int .u64 t1125, .int .u64 0]) (blk_put (cs := #[.bool t1124, .int .u64 0, .int .u64 0]) (blk_put (zkq BK1127) 0 _ rfl) 1 _ rfl) 2 _ rfl)⟩, ⟨zaB⟩⟩
  replace c22 := Bool.eq_false_iff.mpr c22
  subst c22
  replace H := zif H
  have H' := Aside0.mk H
  clear H
  obtain ⟨_, _, _, _, _, _⟩ := zs3 NB1123_1118 NB1123_1119 NB1123_1127
  obtain ⟨z30_0, z30_1, z30_2, f30_0, f30_1, f30_2⟩ := zq3 BK1123
  obtain ⟨_, _, _, _⟩ := zs2 NB1127_1118 NB1127_1119
  obtain ⟨z33_0, z33_1, z33_2, f33_0, f33_1, f33_2⟩ := zq3 BK1127
  go_wp2
  go_meet
  case rel => exact ⟨_, (t1124), zrl, H', ⟨zle⟩, ⟨(zkf (zkf (zkf (zkq BK1118) NB1118_1127.out _) NB1118_1127.out _) NB1118_1127.out _)⟩, ⟨(zkf (zkf (zkf (zkq BK1119) NB1119_1127.out _) NB1119_1127.out _) NB1119_1127.out _)⟩, ⟨(zkf (zkf (zkf (zkq BK1123) NB1123_1127.out _) NB1123_1127.out _) NB1123_1127.out _)⟩, ⟨(blk_put (cs := #[.bool t1124, .int .u64 t1125, .int .u64 0]) (blk_put (cs := #[.bool t1124, .int .u64 0, .int .u64 0]) (blk_put (zkq BK1127) 0 _ rfl) 1 _ rfl) 2 _ rfl)⟩, ⟨zaB⟩⟩
 case rest =>
  clear HC5
  try clear c1
  try clear c2
  try clear p2
  try clear c3
  try clear c4
  try clear c8
  try clear c12
  try clear c13
  try clear c18
  try clear c19
  try clear c20
  try clear c22
  try clear c23
  try clear c24
  try clear c25
  try clear c27
  try clear c28
  try clear c29
  try clear c31
  try clear c32
  try clear z14_0 z14_1 z14_2 f14_0 f14_1 f14_2
  try clear z15_0 z15_1 z15_2 f15_0 f15_1 f15_2
  try clear z21_0 z21_1 z21_2 f21_0 f21_1 f21_2
  try clear z26_0 z26_1 z26_2 f26_0 f26_1 f26_2
  try clear z30_0 z30_1 z30_2 f30_0 f30_1 f30_2
  try clear z33_0 z33_1 z33_2 f33_0 f33_1 f33_2
  try clear z9_0 z9_1 z9_2 f9_0 f9_1 f9_2
  obtain ⟨kq, x16_4, rfl, HA, HJ4, BK1118, BK1119, BK1123, BK1127, HB⟩ := hcut
  cases kq with
  | zero => exact absurd HA.out (by simp [flyballref16_Inside.j0])
  | succ kj4 =>
   have H := HA.out
   clear HA
   simp only [flyballref16_Inside.j0] at H
   by_cases c34 : x16_4 = true
   ·subst c34
    replace H := zit H
    obtain rfl := Option.some.inj H
    obtain ⟨_, _, _, _, _, _⟩ := zs3 NB1123_1118 NB1123_1119 NB1123_1127
    obtain ⟨_, _, _, _, _, _⟩ := zq3 BK1123
    go_wp2
    go_ret
    exact ⟨zaE, zaB⟩
   replace c34 := Bool.eq_false_iff.mpr c34
   subst c34
   replace H := zif H
   obtain ⟨t1128, A39, H⟩ := zbs H
   try dsimp only at H
   by_cases c40 : t1128 = true
   ·subst c40
    replace H := zit H
    obtain ⟨t1129, A41, H⟩ := zbs H
    try dsimp only at H
    obtain rfl := Option.some.inj H
    obtain ⟨_, _, _, _, _, _⟩ := zs3 NB1127_1118 NB1127_1119 NB1127_1123
    obtain ⟨_, _, _, _, _, _⟩ := zq3 BK1127
    obtain ⟨_, _, _, _⟩ := zs2 NB1123_1118 NB1123_1119
    obtain ⟨_, _, _, _, _, _⟩ := zq3 BK1123
    go_wp2_with (first | ((with_reducible refine gtc 116 rfl ?_); refine zgL 23 Try.func116 (flyballref16_le.calls kj4 t1125 t1121 true _ A39.out) (h := ?_); rintro w' ⟨nd, rfl⟩) | (go_at_call 116; (with_reducible refine (flyballref16_le.calls kj4 t1122 t1126 t1129 _ A41.out).mono ?_); rintro e w' ⟨rfl, ⟨nd, rfl⟩⟩))
    go_ret
    exact ⟨zaE, zaB⟩
   replace c40 := Bool.eq_false_iff.mpr c40
   subst c40
   replace H := zif H
   obtain rfl := Option.some.inj H
   obtain ⟨_, _, _, _, _, _⟩ := zs3 NB1127_1118 NB1127_1119 NB1127_1123
   obtain ⟨_, _, _, _, _, _⟩ := zq3 BK1127
   obtain ⟨_, _, _, _⟩ := zs2 NB1123_1118 NB1123_1119
   obtain ⟨_, _, _, _, _, _⟩ := zq3 BK1123
   go_wp2_with (first | ((with_reducible refine gtc 116 rfl ?_); refine zgL 23 Try.func116 (flyballref16_le.calls kj4 t1125 t1121 false _ A39.out) (h := ?_); rintro w' ⟨nd, rfl⟩))
   go_ret
   exact ⟨zaE, zaB⟩
theorem flyballref16_Join.calls (k : Nat) (a0_0 : Bool) (a0_1 : Int) (a0_2 : Int) (a1_0 : Bool) (a1_1 : Int) (a1_2 : Int) (r1 : Bool) (r2 : Int) (r3 : Int) (w : World) (h : flyballref16_Join.f k a0_0 a0_1 a0_2 a1_0 a1_1 a1_2 = some (r1, r2, r3)) :
  Calls Try.prog 46 #[.agg #[.bool a0_0, .int .u64 a0_1, .int .u64 a0_2], .agg #[.bool a1_0, .int .u64 a1_1, .int .u64 a1_2]] w fun e w' => e = .returned (.agg #[.bool r1, .int .u64 r2, .int .u64 r3]) ∧ Below w.heap.size w w' := by
 have hu43 := Try.underlying43
 have HB := Aside0.mk (Below.refl w.heap.size w)
 have H : ((flyballref16_Norm.f k a0_0 a0_1 a0_2).bind fun bt1133 => ((flyballref16_Norm.f k a1_0 a1_1 a1_2).bind fun bt1137 => (if bt1133.1 = true then (some (bt1137.1, bt1137.2.1, bt1137.2.2)) else (if bt1137.1 = true then (some (bt1133.1, bt1133.2.1, bt1133.2.2)) else ((flyballref16_le.f k bt1137.2.1 bt1133.2.1).bind fun t1141 => (if t1141 = true then ((flyballref16_le.f k bt1133.2.2 bt1137.2.2).bind fun t1142 => (if t1142 = true then (some (bt1133.1, bt1137.2.1, bt1137.2.2)) else (some (bt1133.1, bt1137.2.1, bt1133.2.2)))) else ((flyballref16_le.f k bt1133.2.2 bt1137.2.2).bind fun t1143 => (if t1143 = true then (some (bt1133.1, bt1133.2.1, bt1137.2.2)) else (some (bt1133.1, bt1133.2.1, bt1133.2.2)))))))))) = some (r1, r2, r3) := h
 clear h
 obtain ⟨⟨t1133, t1134, t1135⟩, A3, H⟩ := zbs H
 try dsimp only at H
 obtain ⟨⟨t1137, t1138, t1139⟩, A4, H⟩ := zbs H
 try dsimp only at H
 by_cases c5 : t1133 = true
 ·subst c5
  replace H := zit H
  simp only [Option.some.injEq, Prod.mk.injEq] at H
  obtain ⟨rfl, rfl, rfl⟩ := H
  go_enter Try.func46, Try.ntmps46
  go_wp2_with (first | ((with_reducible refine gtd 2 rfl ?_); refine zbx 2 #[.bool a0_0, .int .u64 a0_1, .int .u64 a0_2] 43 (h := ?_); intro gb1130 hg w6 hbox hb; have GW1130 := zkZ hg (zaB (p := Below w.heap.size w _)); replace HB := Aside0.mk (below_step zaB hb); have BK1130 := Aside0.mk (hbox); clear hb hbox hg) | ((with_reducible refine gtd 3 rfl ?_); refine zbx 3 #[.bool a1_0, .int .u64 a1_1, .int .u64 a1_2] 43 (h := ?_); intro gb1131 hg w7 hbox hb; have GW1131 := zkz HB hg; have NB1130_1131 := zkl BK1130 hg; have NB1131_1130 := zkr BK1130 hg; replace BK1130 := zkb BK1130 hb; replace HB := zkB HB hb; have BK1131 := Aside0.mk (hbox); clear hb hbox hg) | ((with_reducible refine gtd 4 rfl ?_); refine zbx 4 #[.bool false, .int .u64 0, .int .u64 0] 43 (h := ?_); intro gb1132 hg w8 hbox hb; have GW1132 := zkz HB hg; have NB1130_1132 := zkl BK1130 hg; have NB1132_1130 := zkr BK1130 hg; have NB1131_1132 := zkl BK1131 hg; have NB1132_1131 := zkr BK1131 hg; replace BK1130 := zkb BK1130 hb; replace BK1131 := zkb BK1131 hb; replace HB := zkB HB hb; have BK1132 := Aside0.mk (hbox); clear hb hbox hg; obtain ⟨_, _, _, _⟩ := zs2 NB1130_1131 NB1130_1132; obtain ⟨_, _, _, _, _, _⟩ := zq3 BK1130) | ((with_reducible refine gtc 49 rfl ?_); refine zgL 8 Try.func49 (flyballref16_Norm.calls k a0_0 a0_1 a0_2 true t1134 t1135 _ A3.out) (h := ?_); rintro w12 hb; replace BK1130 := zkb BK1130 hb; replace BK1131 := zkb BK1131 hb; replace BK1132 := zkb BK1132 hb; replace HB := zkB HB hb; (try clear hb)) | ((with_reducible refine gtd 5 rfl ?_); refine zbx 5 #[.bool false, .int .u64 0, .int .u64 0] 43 (h := ?_); intro gb1136 hg w13 hbox hb; have GW1136 := zkz HB hg; have NB1130_1136 := zkl BK1130 hg; have NB1136_1130 := zkr BK1130 hg; have NB1131_1136 := zkl BK1131 hg; have NB1136_1131 := zkr BK1131 hg; have NB1132_1136 := zkl BK1132 hg; have NB1136_1132 := zkr BK1132 hg; replace BK1130 := zkb BK1130 hb; replace BK1131 := zkb BK1131 hb; replace BK1132 := zkb BK1132 hb; replace HB := zkB HB hb; have BK1136 := Aside0.mk (hbox); clear hb hbox hg; obtain ⟨_, _, _, _, _, _⟩ := zs3 NB1136_1130 NB1136_1131 NB1136_1132; obtain ⟨_, _, _, _, _, _⟩ := zq3 BK1136; obtain ⟨_, _⟩ := zsy NB1131_1132; obtain ⟨_, _, _, _, _, _⟩ := zq3 BK1131) | ((with_reducible refine gtc 49 rfl ?_); refine zgL 10 Try.func49 (flyballref16_Norm.calls k a1_0 a1_1 a1_2 t1137 t1138 t1139 _ A4.out) (h := ?_); rintro w20 hb; replace BK1130 := Aside0.mk (blk_below (g := gb1130) (o := .cells #[.bool a0_0, .int .u64 a0_1, .int .u64 a0_2] 43 (0, 0)) (by (with_reducible repeat (first | refine blk_drewN ?_ _ | refine blk_drew ?_ | refine blk_alloc ?_ _)); refine blk_far ?_ NB1130_1136.out _; (with_reducible repeat (first | refine blk_drewN ?_ _ | refine blk_drew ?_ | refine blk_alloc ?_ _)); refine blk_far ?_ NB1130_1136.out _; (with_reducible repeat (first | refine blk_drewN ?_ _ | refine blk_drew ?_ | refine blk_alloc ?_ _)); refine blk_far ?_ NB1130_1136.out _; (with_reducible repeat (first | refine blk_drewN ?_ _ | refine blk_drew ?_ | refine blk_alloc ?_ _)); exact BK1130.out) hb); replace BK1131 := Aside0.mk (blk_below (g := gb1131) (o := .cells #[.bool a1_0, .int .u64 a1_1, .int .u64 a1_2] 43 (0, 0)) (by (with_reducible repeat (first | refine blk_drewN ?_ _ | refine blk_drew ?_ | refine blk_alloc ?_ _)); refine blk_far ?_ NB1131_1136.out _; (with_reducible repeat (first | refine blk_drewN ?_ _ | refine blk_drew ?_ | refine blk_alloc ?_ _)); refine blk_far ?_ NB1131_1136.out _; (with_reducible repeat (first | refine blk_drewN ?_ _ | refine blk_drew ?_ | refine blk_alloc ?_ _)); refine blk_far ?_ NB1131_1136.out _; (with_reducible repeat (first | refine blk_drewN ?_ _ | refine blk_drew ?_ | refine blk_alloc ?_ _)); exact BK1131.out) hb); replace BK1132 := Aside0.mk (blk_below (g := gb1132) (o := .cells #[.bool false, .int .u64 0, .int .u64 0] 43 (0, 0)) (by (with_reducible repeat (first | refine blk_drewN ?_ _ | refine blk_drew ?_ | refine blk_alloc ?_ _)); refine blk_far ?_ NB1132_1136.out _; (with_reducible repeat (first | refine blk_drewN ?_ _ | refine blk_drew ?_ | refine blk_alloc ?_ _)); refine blk_far ?_ NB1132_1136.out _; (with_reducible repeat (first | refine blk_drewN ?_ _ | refine blk_drew ?_ | refine blk_alloc ?_ _)); refine blk_far ?_ NB1132_1136.out _; (with_reducible repeat (first | refine blk_drewN ?_ _ | refine blk_drew ?_ | refine blk_alloc ?_ _)); exact BK1132.out) hb); replace BK1136 := Aside0.mk (blk_below (g := gb1136) (o := .cells #[.bool true, .int .u64 t1134, .int .u64 t1135] 43 (0, 0)) (by (with_reducible repeat (first | refine blk_drewN ?_ _ | refine blk_drew ?_ | refine blk_alloc ?_ _)); refine blk_put (cs := #[.bool true, .int .u64 t1134, .int .u64 0]) ?_ 2 _ rfl; (with_reducible repeat (first | refine blk_drewN ?_ _ | refine blk_drew ?_ | refine blk_alloc ?_ _)); refine blk_put (cs := #[.bool true, .int .u64 0, .int .u64 0]) ?_ 1 _ rfl; (with_reducible repeat (first | refine blk_drewN ?_ _ | refine blk_drew ?_ | refine blk_alloc ?_ _)); refine blk_put (cs := #[.bool false, .int .u64 0, .int .u64 0]) ?_ 0 _ rfl; (with_reducible repeat (first | refine blk_drewN ?_ _ | refine blk_drew ?_ | refine blk_alloc ?_ _)); exact BK1136.out) hb); replace HB := Aside0.mk (below_step zaB hb); (try clear hb)) | ((with_reducible refine gtd 6 rfl ?_); refine zbx 6 #[.bool false, .int .u64 0, .int .u64 0] 43 (h := ?_); intro gb1140 hg w21 hbox hb; have GW1140 := zkz HB hg; have NB1130_1140 := zkl BK1130 hg; have NB1140_1130 := zkr BK1130 hg; have NB1131_1140 := zkl BK1131 hg; have NB1140_1131 := zkr BK1131 hg; have NB1132_1140 := zkl BK1132 hg; have NB1140_1132 := zkr BK1132 hg; have NB1136_1140 := zkl BK1136 hg; have NB1140_1136 := zkr BK1136 hg; replace BK1130 := zkb BK1130 hb; replace BK1131 := zkb BK1131 hb; replace BK1132 := zkb BK1132 hb; replace BK1136 := zkb BK1136 hb; replace HB := zkB HB hb; have BK1140 := Aside0.mk (hbox); clear hb hbox hg; obtain ⟨_, _, _, _, _, _, _, _⟩ := zs4 NB1140_1130 NB1140_1131 NB1140_1132 NB1140_1136; obtain ⟨_, _, _, _, _, _⟩ := zq3 BK1140; obtain ⟨_, _, _, _, _, _⟩ := zq3 BK1136; obtain ⟨_, _, _, _, _, _⟩ := zq3 BK1132))
  refine bodyPost_ret (results_cell_row rfl _ _ gb1132 43 #[.bool t1137, .int .u64 t1138, .int .u64 t1139] (0, 0) _ rfl (by (with_reducible repeat (first | refine blk_drewN ?_ _ | refine blk_drew ?_ | refine blk_alloc ?_ _)); refine blk_put (cs := #[.bool t1137, .int .u64 t1138, .int .u64 0]) ?_ 2 _ rfl; (with_reducible repeat (first | refine blk_drewN ?_ _ | refine blk_drew ?_ | refine blk_alloc ?_ _)); refine blk_put (cs := #[.bool t1137, .int .u64 0, .int .u64 0]) ?_ 1 _ rfl; (with_reducible repeat (first | refine blk_drewN ?_ _ | refine blk_drew ?_ | refine blk_alloc ?_ _)); refine blk_put (cs := #[.bool false, .int .u64 0, .int .u64 0]) ?_ 0 _ rfl; (with_reducible repeat (first | refine blk_drewN ?_ _ | refine blk_drew ?_ | refine blk_alloc ?_ _)); refine blk_far ?_ NB1132_1140.out _; (with_reducible repeat (first | refine blk_drewN ?_ _ | refine blk_drew ?_ | refine blk_alloc ?_ _)); refine blk_far ?_ NB1132_1140.out _; (with_reducible repeat (first | refine blk_drewN ?_ _ | refine blk_drew ?_ | refine blk_alloc ?_ _)); refine blk_far ?_ NB1132_1140.out _; (with_reducible repeat (first | refine blk_drewN ?_ _ | refine blk_drew ?_ | refine blk_alloc ?_ _)); exact BK1132.out) Try.underlying43 rfl (by kernel_rfl)) rfl ?_
  exact ⟨zaE, zaB⟩
 replace c5 := Bool.eq_false_iff.mpr c5
 subst c5
 replace H := zif H
 by_cases c29 : t1137 = true
 ·subst c29
  replace H := zit H
  simp only [Option.some.injEq, Prod.mk.injEq] at H
  obtain ⟨rfl, rfl, rfl⟩ := H
  go_enter Try.func46, Try.ntmps46
  go_wp2_with (first | ((with_reducible refine gtd 2 rfl ?_); refine zbx 2 #[.bool a0_0, .int .u64 a0_1, .int .u64 a0_2] 43 (h := ?_); intro gb1130 hg w30 hbox hb; have GW1130 := zkZ hg (zaB (p := Below w.heap.size w _)); replace HB := Aside0.mk (below_step zaB hb); have BK1130 := Aside0.mk (hbox); clear hb hbox hg) | ((with_reducible refine gtd 3 rfl ?_); refine zbx 3 #[.bool a1_0, .int .u64 a1_1, .int .u64 a1_2] 43 (h := ?_); intro gb1131 hg w31 hbox hb; have GW1131 := zkz HB hg; have NB1130_1131 := zkl BK1130 hg; have NB1131_1130 := zkr BK1130 hg; replace BK1130 := zkb BK1130 hb; replace HB := zkB HB hb; have BK1131 := Aside0.mk (hbox); clear hb hbox hg) | ((with_reducible refine gtd 4 rfl ?_); refine zbx 4 #[.bool false, .int .u64 0, .int .u64 0] 43 (h := ?_); intro gb1132 hg w32 hbox hb; have GW1132 := zkz HB hg; have NB1130_1132 := zkl BK1130 hg; have NB1132_1130 := zkr BK1130 hg; have NB1131_1132 := zkl BK1131 hg; have NB1132_1131 := zkr BK1131 hg; replace BK1130 := zkb BK1130 hb; replace BK1131 := zkb BK1131 hb; replace HB := zkB HB hb; have BK1132 := Aside0.mk (hbox); clear hb hbox hg; obtain ⟨_, _, _, _⟩ := zs2 NB1130_1131 NB1130_1132; obtain ⟨_, _, _, _, _, _⟩ := zq3 BK1130) | ((with_reducible refine gtc 49 rfl ?_); refine zgL 8 Try.func49 (flyballref16_Norm.calls k a0_0 a0_1 a0_2 false t1134 t1135 _ A3.out) (h := ?_); rintro w36 hb; replace BK1130 := zkb BK1130 hb; replace BK1131 := zkb BK1131 hb; replace BK1132 := zkb BK1132 hb; replace HB := zkB HB hb; (try clear hb)) | ((with_reducible refine gtd 5 rfl ?_); refine zbx 5 #[.bool false, .int .u64 0, .int .u64 0] 43 (h := ?_); intro gb1136 hg w37 hbox hb; have GW1136 := zkz HB hg; have NB1130_1136 := zkl BK1130 hg; have NB1136_1130 := zkr BK1130 hg; have NB1131_1136 := zkl BK1131 hg; have NB1136_1131 := zkr BK1131 hg; have NB1132_1136 := zkl BK1132 hg; have NB1136_1132 := zkr BK1132 hg; replace BK1130 := zkb BK1130 hb; replace BK1131 := zkb BK1131 hb; replace BK1132 := zkb BK1132 hb; replace HB := zkB HB hb; have BK1136 := Aside0.mk (hbox); clear hb hbox hg; obtain ⟨_, _, _, _, _, _⟩ := zs3 NB1136_1130 NB1136_1131 NB1136_1132; obtain ⟨_, _, _, _, _, _⟩ := zq3 BK1136; obtain ⟨_, _⟩ := zsy NB1131_1132; obtain ⟨_, _, _, _, _, _⟩ := zq3 BK1131) | ((with_reducible refine gtc 49 rfl ?_); refine zgL 10 Try.func49 (flyballref16_Norm.calls k a1_0 a1_1 a1_2 true t1138 t1139 _ A4.out) (h := ?_); rintro w44 hb; replace BK1130 := Aside0.mk (blk_below (g := gb1130) (o := .cells #[.bool a0_0, .int .u64 a0_1, .int .u64 a0_2] 43 (0, 0)) (by (with_reducible repeat (first | refine blk_drewN ?_ _ | refine blk_drew ?_ | refine blk_alloc ?_ _)); refine blk_far ?_ NB1130_1136.out _; (with_reducible repeat (first | refine blk_drewN ?_ _ | refine blk_drew ?_ | refine blk_alloc ?_ _)); refine blk_far ?_ NB1130_1136.out _; (with_reducible repeat (first | refine blk_drewN ?_ _ | refine blk_drew ?_ | refine blk_alloc ?_ _)); refine blk_far ?_ NB1130_1136.out _; (with_reducible repeat (first | refine blk_drewN ?_ _ | refine blk_drew ?_ | refine blk_alloc ?_ _)); exact BK1130.out) hb); replace BK1131 := Aside0.mk (blk_below (g := gb1131) (o := .cells #[.bool a1_0, .int .u64 a1_1, .int .u64 a1_2] 43 (0, 0)) (by (with_reducible repeat (first | refine blk_drewN ?_ _ | refine blk_drew ?_ | refine blk_alloc ?_ _)); refine blk_far ?_ NB1131_1136.out _; (with_reducible repeat (first | refine blk_drewN ?_ _ | refine blk_drew ?_ | refine blk_alloc ?_ _)); refine blk_far ?_ NB1131_1136.out _; (with_reducible repeat (first | refine blk_drewN ?_ _ | refine blk_drew ?_ | refine blk_alloc ?_ _)); refine blk_far ?_ NB1131_1136.out _; (with_reducible repeat (first | refine blk_drewN ?_ _ | refine blk_drew ?_ | refine blk_alloc ?_ _)); exact BK1131.out) hb); replace BK1132 := Aside0.mk (blk_below (g := gb1132) (o := .cells #[.bool false, .int .u64 0, .int .u64 0] 43 (0, 0)) (by (with_reducible repeat (first | refine blk_drewN ?_ _ | refine blk_drew ?_ | refine blk_alloc ?_ _)); refine blk_far ?_ NB1132_1136.out _; (with_reducible repeat (first | refine blk_drewN ?_ _ | refine blk_drew ?_ | refine blk_alloc ?_ _)); refine blk_far ?_ NB1132_1136.out _; (with_reducible repeat (first | refine blk_drewN ?_ _ | refine blk_drew ?_ | refine blk_alloc ?_ _)); refine blk_far ?_ NB1132_1136.out _; (with_reducible repeat (first | refine blk_drewN ?_ _ | refine blk_drew ?_ | refine blk_alloc ?_ _)); exact BK1132.out) hb); replace BK1136 := Aside0.mk (blk_below (g := gb1136) (o := .cells #[.bool false, .int .u64 t1134, .int .u64 t1135] 43 (0, 0)) (by (with_reducible repeat (first | refine blk_drewN ?_ _ | refine blk_drew ?_ | refine blk_alloc ?_ _)); refine blk_put (cs := #[.bool false, .int .u64 t1134, .int .u64 0]) ?_ 2 _ rfl; (with_reducible repeat (first | refine blk_drewN ?_ _ | refine blk_drew ?_ | refine blk_alloc ?_ _)); refine blk_put (cs := #[.bool false, .int .u64 0, .int .u64 0]) ?_ 1 _ rfl; (with_reducible repeat (first | refine blk_drewN ?_ _ | refine blk_drew ?_ | refine blk_alloc ?_ _)); refine blk_put (cs := #[.bool false, .int .u64 0, .int .u64 0]) ?_ 0 _ rfl; (with_reducible repeat (first | refine blk_drewN ?_ _ | refine blk_drew ?_ | refine blk_alloc ?_ _)); exact BK1136.out) hb); replace HB := Aside0.mk (below_step zaB hb); (try clear hb)) | ((with_reducible refine gtd 6 rfl ?_); refine zbx 6 #[.bool false, .int .u64 0, .int .u64 0] 43 (h := ?_); intro gb1140 hg w45 hbox hb; have GW1140 := zkz HB hg; have NB1130_1140 := zkl BK1130 hg; have NB1140_1130 := zkr BK1130 hg; have NB1131_1140 := zkl BK1131 hg; have NB1140_1131 := zkr BK1131 hg; have NB1132_1140 := zkl BK1132 hg; have NB1140_1132 := zkr BK1132 hg; have NB1136_1140 := zkl BK1136 hg; have NB1140_1136 := zkr BK1136 hg; replace BK1130 := zkb BK1130 hb; replace BK1131 := zkb BK1131 hb; replace BK1132 := zkb BK1132 hb; replace BK1136 := zkb BK1136 hb; replace HB := zkB HB hb; have BK1140 := Aside0.mk (hbox); clear hb hbox hg; obtain ⟨_, _, _, _, _, _, _, _⟩ := zs4 NB1140_1130 NB1140_1131 NB1140_1132 NB1140_1136; obtain ⟨_, _, _, _, _, _⟩ := zq3 BK1140; obtain ⟨_, _, _, _, _, _⟩ := zq3 BK1136; obtain ⟨_, _, _, _, _, _⟩ := zq3 BK1132))
  refine bodyPost_ret (results_cell_row rfl _ _ gb1132 43 #[.bool false, .int .u64 t1134, .int .u64 t1135] (0, 0) _ rfl (by (with_reducible repeat (first | refine blk_drewN ?_ _ | refine blk_drew ?_ | refine blk_alloc ?_ _)); refine blk_put (cs := #[.bool false, .int .u64 t1134, .int .u64 0]) ?_ 2 _ rfl; (with_reducible repeat (first | refine blk_drewN ?_ _ | refine blk_drew ?_ | refine blk_alloc ?_ _)); refine blk_put (cs := #[.bool false, .int .u64 0, .int .u64 0]) ?_ 1 _ rfl; (with_reducible repeat (first | refine blk_drewN ?_ _ | refine blk_drew ?_ | refine blk_alloc ?_ _)); refine blk_put (cs := #[.bool false, .int .u64 0, .int .u64 0]) ?_ 0 _ rfl; (with_reducible repeat (first | refine blk_drewN ?_ _ | refine blk_drew ?_ | refine blk_alloc ?_ _)); refine blk_far ?_ NB1132_1140.out _; (with_reducible repeat (first | refine blk_drewN ?_ _ | refine blk_drew ?_ | refine blk_alloc ?_ _)); refine blk_far ?_ NB1132_1140.out _; (with_reducible repeat (first | refine blk_drewN ?_ _ | refine blk_drew ?_ | refine blk_alloc ?_ _)); refine blk_far ?_ NB1132_1140.out _; (with_reducible repeat (first | refine blk_drewN ?_ _ | refine blk_drew ?_ | refine blk_alloc ?_ _)); exact BK1132.out) Try.underlying43 rfl (by kernel_rfl)) rfl ?_
  exact ⟨zaE, zaB⟩
 replace c29 := Bool.eq_false_iff.mpr c29
 subst c29
 replace H := zif H
 obtain ⟨t1141, A53, H⟩ := zbs H
 try dsimp only at H
 by_cases c54 : t1141 = true
 ·subst c54
  replace H := zit H
  obtain ⟨t1142, A55, H⟩ := zbs H
  try dsimp only at H
  by_cases c56 : t1142 = true
  ·subst c56
   replace H := zit H
   simp only [Option.some.injEq, Prod.mk.injEq] at H
   obtain ⟨rfl, rfl, rfl⟩ := H
   go_enter Try.func46, Try.ntmps46
   go_wp2_with (first | ((with_reducible refine gtd 2 rfl ?_); refine zbx 2 #[.bool a0_0, .int .u64 a0_1, .int .u64 a0_2] 43 (h := ?_); intro gb1130 hg w57 hbox hb; have GW1130 := zkZ hg (zaB (p := Below w.heap.size w _)); replace HB := Aside0.mk (below_step zaB hb); have BK1130 := Aside0.mk (hbox); clear hb hbox hg) | ((with_reducible refine gtd 3 rfl ?_); refine zbx 3 #[.bool a1_0, .int .u64 a1_1, .int .u64 a1_2] 43 (h := ?_); intro gb1131 hg w58 hbox hb; have GW1131 := zkz HB hg; have NB1130_1131 := zkl BK1130 hg; have NB1131_1130 := zkr BK1130 hg; replace BK1130 := zkb BK1130 hb; replace HB := zkB HB hb; have BK1131 := Aside0.mk (hbox); clear hb hbox hg) | ((with_reducible refine gtd 4 rfl ?_); refine zbx 4 #[.bool false, .int .u64 0, .int .u64 0] 43 (h := ?_); intro gb1132 hg w59 hbox hb; have GW1132 := zkz HB hg; have NB1130_1132 := zkl BK1130 hg; have NB1132_1130 := zkr BK1130 hg; have NB1131_1132 := zkl BK1131 hg; have NB1132_1131 := zkr BK1131 hg; replace BK1130 := zkb BK1130 hb; replace BK1131 := zkb BK1131 hb; replace HB := zkB HB hb; have BK1132 := Aside0.mk (hbox); clear hb hbox hg; obtain ⟨_, _, _, _⟩ := zs2 NB1130_1131 NB1130_1132; obtain ⟨_, _, _, _, _, _⟩ := zq3 BK1130) | ((with_reducible refine gtc 49 rfl ?_); refine zgL 8 Try.func49 (flyballref16_Norm.calls k a0_0 a0_1 a0_2 false t1134 t1135 _ A3.out) (h := ?_); rintro w63 hb; replace BK1130 := zkb BK1130 hb; replace BK1131 := zkb BK1131 hb; replace BK1132 := zkb BK1132 hb; replace HB := zkB HB hb; (try clear hb)) | ((with_reducible refine gtd 5 rfl ?_); refine zbx 5 #[.bool false, .int .u64 0, .int .u64 0] 43 (h := ?_); intro gb1136 hg w64 hbox hb; have GW1136 := zkz HB hg; have NB1130_1136 := zkl BK1130 hg; have NB1136_1130 := zkr BK1130 hg; have NB1131_1136 := zkl BK1131 hg; have NB1136_1131 := zkr BK1131 hg; have NB1132_1136 := zkl BK1132 hg; have NB1136_1132 := zkr BK1132 hg; replace BK1130 := zkb BK1130 hb; replace BK1131 := zkb BK1131 hb; replace BK1132 := zkb BK1132 hb; replace HB := zkB HB hb; have BK1136 := Aside0.mk (hbox); clear hb hbox hg; obtain ⟨_, _, _, _, _, _⟩ := zs3 NB1136_1130 NB1136_1131 NB1136_1132; obtain ⟨_, _, _, _, _, _⟩ := zq3 BK1136; obtain ⟨_, _⟩ := zsy NB1131_1132; obtain ⟨_, _, _, _, _, _⟩ := zq3 BK1131) | ((with_reducible refine gtc 49 rfl ?_); refine zgL 10 Try.func49 (flyballref16_Norm.calls k a1_0 a1_1 a1_2 false t1138 t1139 _ A4.out) (h := ?_); rintro w71 hb; replace BK1130 := Aside0.mk (blk_below (g := gb1130) (o := .cells #[.bool a0_0, .int .u64 a0_1, .int .u64 a0_2] 43 (0, 0)) (by (with_reducible repeat (first | refine blk_drewN ?_ _ | refine blk_drew ?_ | refine blk_alloc ?_ _)); refine blk_far ?_ NB1130_1136.out _; (with_reducible repeat (first | refine blk_drewN ?_ _ | refine blk_drew ?_ | refine blk_alloc ?_ _)); refine blk_far ?_ NB1130_1136.out _; (with_reducible repeat (first | refine blk_drewN ?_ _ | refine blk_drew ?_ | refine blk_alloc ?_ _)); refine blk_far ?_ NB1130_1136.out _; (with_reducible repeat (first | refine blk_drewN ?_ _ | refine blk_drew ?_ | refine blk_alloc ?_ _)); exact BK1130.out) hb); replace BK1131 := Aside0.mk (blk_below (g := gb1131) (o := .cells #[.bool a1_0, .int .u64 a1_1, .int .u64 a1_2] 43 (0, 0)) (by (with_reducible repeat (first | refine blk_drewN ?_ _ | refine blk_drew ?_ | refine blk_alloc ?_ _)); refine blk_far ?_ NB1131_1136.out _; (with_reducible repeat (first | refine blk_drewN ?_ _ | refine blk_drew ?_ | refine blk_alloc ?_ _)); refine blk_far ?_ NB1131_1136.out _; (with_reducible repeat (first | refine blk_drewN ?_ _ | refine blk_drew ?_ | refine blk_alloc ?_ _)); refine blk_far ?_ NB1131_1136.out _; (with_reducible repeat (first | refine blk_drewN ?_ _ | refine blk_drew ?_ | refine blk_alloc ?_ _)); exact BK1131.out) hb); replace BK1132 := Aside0.mk (blk_below (g := gb1132) (o := .cells #[.bool false, .int .u64 0, .int .u64 0] 43 (0, 0)) (by (with_reducible repeat (first | refine blk_drewN ?_ _ | refine blk_drew ?_ | refine blk_alloc ?_ _)); refine blk_far ?_ NB1132_1136.out _; (with_reducible repeat (first | refine blk_drewN ?_ _ | refine blk_drew ?_ | refine blk_alloc ?_ _)); refine blk_far ?_ NB1132_1136.out _; (with_reducible repeat (first | refine blk_drewN ?_ _ | refine blk_drew ?_ | refine blk_alloc ?_ _)); refine blk_far ?_ NB1132_1136.out _; (with_reducible repeat (first | refine blk_drewN ?_ _ | refine blk_drew ?_ | refine blk_alloc ?_ _)); exact BK1132.out) hb); replace BK1136 := Aside0.mk (blk_below (g := gb1136) (o := .cells #[.bool false, .int .u64 t1134, .int .u64 t1135] 43 (0, 0)) (by (with_reducible repeat (first | refine blk_drewN ?_ _ | refine blk_drew ?_ | refine blk_alloc ?_ _)); refine blk_put (cs := #[.bool false, .int .u64 t1134, .int .u64 0]) ?_ 2 _ rfl; (with_reducible repeat (first | refine blk_drewN ?_ _ | refine blk_drew ?_ | refine blk_alloc ?_ _)); refine blk_put (cs := #[.bool false, .int .u64 0, .int .u64 0]) ?_ 1 _ rfl; (with_reducible repeat (first | refine blk_drewN ?_ _ | refine blk_drew ?_ | refine blk_alloc ?_ _)); refine blk_put (cs := #[.bool false, .int .u64 0, .int .u64 0]) ?_ 0 _ rfl; (with_reducible repeat (first | refine blk_drewN ?_ _ | refine blk_drew ?_ | refine blk_alloc ?_ _)); exact BK1136.out) hb); replace HB := Aside0.mk (below_step zaB hb); (try clear hb)) | ((with_reducible refine gtd 6 rfl ?_); refine zbx 6 #[.bool false, .int .u64 0, .int .u64 0] 43 (h := ?_); intro gb1140 hg w72 hbox hb; have GW1140 := zkz HB hg; have NB1130_1140 := zkl BK1130 hg; have NB1140_1130 := zkr BK1130 hg; have NB1131_1140 := zkl BK1131 hg; have NB1140_1131 := zkr BK1131 hg; have NB1132_1140 := zkl BK1132 hg; have NB1140_1132 := zkr BK1132 hg; have NB1136_1140 := zkl BK1136 hg; have NB1140_1136 := zkr BK1136 hg; replace BK1130 := zkb BK1130 hb; replace BK1131 := zkb BK1131 hb; replace BK1132 := zkb BK1132 hb; replace BK1136 := zkb BK1136 hb; replace HB := zkB HB hb; have BK1140 := Aside0.mk (hbox); clear hb hbox hg; obtain ⟨_, _, _, _, _, _, _, _⟩ := zs4 NB1140_1130 NB1140_1131 NB1140_1132 NB1140_1136; obtain ⟨_, _, _, _, _, _⟩ := zq3 BK1140; obtain ⟨_, _, _, _, _, _⟩ := zq3 BK1136) | ((with_reducible refine gtc 116 rfl ?_); refine zgL 21 Try.func116 (flyballref16_le.calls k t1138 t1134 true _ A53.out) (h := ?_); rintro w' ⟨nd, rfl⟩) | ((with_reducible refine gtc 116 rfl ?_); refine zgL 29 Try.func116 (flyballref16_le.calls k t1135 t1139 true _ A55.out) (h := ?_); rintro w' ⟨nd, rfl⟩; obtain ⟨_, _, _, _, _, _⟩ := zq3 BK1132))
   refine bodyPost_ret (results_cell_row rfl _ _ gb1132 43 #[.bool false, .int .u64 t1138, .int .u64 t1139] (0, 0) _ rfl (by (with_reducible repeat (first | refine blk_drewN ?_ _ | refine blk_drew ?_ | refine blk_alloc ?_ _)); refine blk_put (cs := #[.bool false, .int .u64 t1138, .int .u64 0]) ?_ 2 _ rfl; (with_reducible repeat (first | refine blk_drewN ?_ _ | refine blk_drew ?_ | refine blk_alloc ?_ _)); refine blk_put (cs := #[.bool false, .int .u64 0, .int .u64 0]) ?_ 1 _ rfl; (with_reducible repeat (first | refine blk_drewN ?_ _ | refine blk_drew ?_ | refine blk_alloc ?_ _)); refine blk_put (cs := #[.bool false, .int .u64 0, .int .u64 0]) ?_ 0 _ rfl; (with_reducible repeat (first | refine blk_drewN ?_ _ | refine blk_drew ?_ | refine blk_alloc ?_ _)); refine blk_far ?_ NB1132_1136.out _; (with_reducible repeat (first | refine blk_drewN ?_ _ | refine blk_drew ?_ | refine blk_alloc ?_ _)); refine blk_far ?_ NB1132_1136.out _; (with_reducible repeat (first | refine blk_drewN ?_ _ | refine blk_drew ?_ | refine blk_alloc ?_ _)); refine blk_far ?_ NB1132_1140.out _; (with_reducible repeat (first | refine blk_drewN ?_ _ | refine blk_drew ?_ | refine blk_alloc ?_ _)); refine blk_far ?_ NB1132_1140.out _; (with_reducible repeat (first | refine blk_drewN ?_ _ | refine blk_drew ?_ | refine blk_alloc ?_ _)); refine blk_far ?_ NB1132_1140.out _; (with_reducible repeat (first | refine blk_drewN ?_ _ | refine blk_drew ?_ | refine blk_alloc ?_ _)); exact BK1132.out) Try.underlying43 rfl (by kernel_rfl)) rfl ?_
   exact ⟨zaE, zaB⟩
  replace c56 := Bool.eq_false_iff.mpr c56
  subst c56
  replace H := zif H
  simp only [Option.some.injEq, Prod.mk.injEq] at H
  obtain ⟨rfl, rfl, rfl⟩ := H
  go_enter Try.func46, Try.ntmps46
  go_wp2_with (first | ((with_reducible refine gtd 2 rfl ?_); refine zbx 2 #[.bool a0_0, .int .u64 a0_1, .int .u64 a0_2] 43 (h := ?_); intro gb1130 hg w80 hbox hb; have GW1130 := zkZ hg (zaB (p := Below w.heap.size w _)); replace HB := Aside0.mk (below_step zaB hb); have BK1130 := Aside0.mk (hbox); clear hb hbox hg) | ((with_reducible refine gtd 3 rfl ?_); refine zbx 3 #[.bool a1_0, .int .u64 a1_1, .int .u64 a1_2] 43 (h := ?_); intro gb1131 hg w81 hbox hb; have GW1131 := zkz HB hg; have NB1130_1131 := zkl BK1130 hg; have NB1131_1130 := zkr BK1130 hg; replace BK1130 := zkb BK1130 hb; replace HB := zkB HB hb; have BK1131 := Aside0.mk (hbox); clear hb hbox hg) | ((with_reducible refine gtd 4 rfl ?_); refine zbx 4 #[.bool false, .int .u64 0, .int .u64 0] 43 (h := ?_); intro gb1132 hg w82 hbox hb; have GW1132 := zkz HB hg; have NB1130_1132 := zkl BK1130 hg; have NB1132_1130 := zkr BK1130 hg; have NB1131_1132 := zkl BK1131 hg; have NB1132_1131 := zkr BK1131 hg; replace BK1130 := zkb BK1130 hb; replace BK1131 := zkb BK1131 hb; replace HB := zkB HB hb; have BK1132 := Aside0.mk (hbox); clear hb hbox hg; obtain ⟨_, _, _, _⟩ := zs2 NB1130_1131 NB1130_1132; obtain ⟨_, _, _, _, _, _⟩ := zq3 BK1130) | ((with_reducible refine gtc 49 rfl ?_); refine zgL 8 Try.func49 (flyballref16_Norm.calls k a0_0 a0_1 a0_2 false t1134 t1135 _ A3.out) (h := ?_); rintro w86 hb; replace BK1130 := zkb BK1130 hb; replace BK1131 := zkb BK1131 hb; replace BK1132 := zkb BK1132 hb; replace HB := zkB HB hb; (try clear hb)) | ((with_reducible refine gtd 5 rfl ?_); refine zbx 5 #[.bool false, .int .u64 0, .int .u64 0] 43 (h := ?_); intro gb1136 hg w87 hbox hb; have GW1136 := zkz HB hg; have NB1130_1136 := zkl BK1130 hg; have NB1136_1130 := zkr BK1130 hg; have NB1131_1136 := zkl BK1131 hg; have NB1136_1131 := zkr BK1131 hg; have NB1132_1136 := zkl BK1132 hg; have NB1136_1132 := zkr BK1132 hg; replace BK1130 := zkb BK1130 hb; replace BK1131 := zkb BK1131 hb; replace BK1132 := zkb BK1132 hb; replace HB := zkB HB hb; have BK1136 := Aside0.mk (hbox); clear hb hbox hg; obtain ⟨_, _, _, _, _, _⟩ := zs3 NB1136_1130 NB1136_1131 NB1136_1132; obtain ⟨_, _, _, _, _, _⟩ := zq3 BK1136; obtain ⟨_, _⟩ := zsy NB1131_1132; obtain ⟨_, _, _, _, _, _⟩ := zq3 BK1131) | ((with_reducible refine gtc 49 rfl ?_); refine zgL 10 Try.func49 (flyballref16_Norm.calls k a1_0 a1_1 a1_2 false t1138 t1139 _ A4.out) (h := ?_); rintro w94 hb; replace BK1130 := Aside0.mk (blk_below (g := gb1130) (o := .cells #[.bool a0_0, .int .u64 a0_1, .int .u64 a0_2] 43 (0, 0)) (by (with_reducible repeat (first | refine blk_drewN ?_ _ | refine blk_drew ?_ | refine blk_alloc ?_ _)); refine blk_far ?_ NB1130_1136.out _; (with_reducible repeat (first | refine blk_drewN ?_ _ | refine blk_drew ?_ | refine blk_alloc ?_ _)); refine blk_far ?_ NB1130_1136.out _; (with_reducible repeat (first | refine blk_drewN ?_ _ | refine blk_drew ?_ | refine blk_alloc ?_ _)); refine blk_far ?_ NB1130_1136.out _; (with_reducible repeat (first | refine blk_drewN ?_ _ | refine blk_drew ?_ | refine blk_alloc ?_ _)); exact BK1130.out) hb); replace BK1131 := Aside0.mk (blk_below (g := gb1131) (o := .cells #[.bool a1_0, .int .u64 a1_1, .int .u64 a1_2] 43 (0, 0)) (by (with_reducible repeat (first | refine blk_drewN ?_ _ | refine blk_drew ?_ | refine blk_alloc ?_ _)); refine blk_far ?_ NB1131_1136.out _; (with_reducible repeat (first | refine blk_drewN ?_ _ | refine blk_drew ?_ | refine blk_alloc ?_ _)); refine blk_far ?_ NB1131_1136.out _; (with_reducible repeat (first | refine blk_drewN ?_ _ | refine blk_drew ?_ | refine blk_alloc ?_ _)); refine blk_far ?_ NB1131_1136.out _; (with_reducible repeat (first | refine blk_drewN ?_ _ | refine blk_drew ?_ | refine blk_alloc ?_ _)); exact BK1131.out) hb); replace BK1132 := Aside0.mk (blk_below (g := gb1132) (o := .cells #[.bool false, .int .u64 0, .int .u64 0] 43 (0, 0)) (by (with_reducible repeat (first | refine blk_drewN ?_ _ | refine blk_drew ?_ | refine blk_alloc ?_ _)); refine blk_far ?_ NB1132_1136.out _; (with_reducible repeat (first | refine blk_drewN ?_ _ | refine blk_drew ?_ | refine blk_alloc ?_ _)); refine blk_far ?_ NB1132_1136.out _; (with_reducible repeat (first | refine blk_drewN ?_ _ | refine blk_drew ?_ | refine blk_alloc ?_ _)); refine blk_far ?_ NB1132_1136.out _; (with_reducible repeat (first | refine blk_drewN ?_ _ | refine blk_drew ?_ | refine blk_alloc ?_ _)); exact BK1132.out) hb); replace BK1136 := Aside0.mk (blk_below (g := gb1136) (o := .cells #[.bool false, .int .u64 t1134, .int .u64 t1135] 43 (0, 0)) (by (with_reducible repeat (first | refine blk_drewN ?_ _ | refine blk_drew ?_ | refine blk_alloc ?_ _)); refine blk_put (cs := #[.bool false, .int .u64 t1134, .int .u64 0]) ?_ 2 _ rfl; (with_reducible repeat (first | refine blk_drewN ?_ _ | refine blk_drew ?_ | refine blk_alloc ?_ _)); refine blk_put (cs := #[.bool false, .int .u64 0, .int .u64 0]) ?_ 1 _ rfl; (with_reducible repeat (first | refine blk_drewN ?_ _ | refine blk_drew ?_ | refine blk_alloc ?_ _)); refine blk_put (cs := #[.bool false, .int .u64 0, .int .u64 0]) ?_ 0 _ rfl; (with_reducible repeat (first | refine blk_drewN ?_ _ | refine blk_drew ?_ | refine blk_alloc ?_ _)); exact BK1136.out) hb); replace HB := Aside0.mk (below_step zaB hb); (try clear hb)) | ((with_reducible refine gtd 6 rfl ?_); refine zbx 6 #[.bool false, .int .u64 0, .int .u64 0] 43 (h := ?_); intro gb1140 hg w95 hbox hb; have GW1140 := zkz HB hg; have NB1130_1140 := zkl BK1130 hg; have NB1140_1130 := zkr BK1130 hg; have NB1131_1140 := zkl BK1131 hg; have NB1140_1131 := zkr BK1131 hg; have NB1132_1140 := zkl BK1132 hg; have NB1140_1132 := zkr BK1132 hg; have NB1136_1140 := zkl BK1136 hg; have NB1140_1136 := zkr BK1136 hg; replace BK1130 := zkb BK1130 hb; replace BK1131 := zkb BK1131 hb; replace BK1132 := zkb BK1132 hb; replace BK1136 := zkb BK1136 hb; replace HB := zkB HB hb; have BK1140 := Aside0.mk (hbox); clear hb hbox hg; obtain ⟨_, _, _, _, _, _, _, _⟩ := zs4 NB1140_1130 NB1140_1131 NB1140_1132 NB1140_1136; obtain ⟨_, _, _, _, _, _⟩ := zq3 BK1140; obtain ⟨_, _, _, _, _, _⟩ := zq3 BK1136) | ((with_reducible refine gtc 116 rfl ?_); refine zgL 21 Try.func116 (flyballref16_le.calls k t1138 t1134 true _ A53.out) (h := ?_); rintro w' ⟨nd, rfl⟩) | ((with_reducible refine gtc 116 rfl ?_); refine zgL 29 Try.func116 (flyballref16_le.calls k t1135 t1139 false _ A55.out) (h := ?_); rintro w' ⟨nd, rfl⟩; obtain ⟨_, _, _, _, _, _⟩ := zq3 BK1132))
  refine bodyPost_ret (results_cell_row rfl _ _ gb1132 43 #[.bool false, .int .u64 t1138, .int .u64 t1135] (0, 0) _ rfl (by (with_reducible repeat (first | refine blk_drewN ?_ _ | refine blk_drew ?_ | refine blk_alloc ?_ _)); refine blk_put (cs := #[.bool false, .int .u64 t1138, .int .u64 0]) ?_ 2 _ rfl; (with_reducible repeat (first | refine blk_drewN ?_ _ | refine blk_drew ?_ | refine blk_alloc ?_ _)); refine blk_put (cs := #[.bool false, .int .u64 0, .int .u64 0]) ?_ 1 _ rfl; (with_reducible repeat (first | refine blk_drewN ?_ _ | refine blk_drew ?_ | refine blk_alloc ?_ _)); refine blk_put (cs := #[.bool false, .int .u64 0, .int .u64 0]) ?_ 0 _ rfl; (with_reducible repeat (first | refine blk_drewN ?_ _ | refine blk_drew ?_ | refine blk_alloc ?_ _)); refine blk_far ?_ NB1132_1136.out _; (with_reducible repeat (first | refine blk_drewN ?_ _ | refine blk_drew ?_ | refine blk_alloc ?_ _)); refine blk_far ?_ NB1132_1140.out _; (with_reducible repeat (first | refine blk_drewN ?_ _ | refine blk_drew ?_ | refine blk_alloc ?_ _)); refine blk_far ?_ NB1132_1140.out _; (with_reducible repeat (first | refine blk_drewN ?_ _ | refine blk_drew ?_ | refine blk_alloc ?_ _)); refine blk_far ?_ NB1132_1140.out _; (with_reducible repeat (first | refine blk_drewN ?_ _ | refine blk_drew ?_ | refine blk_alloc ?_ _)); exact BK1132.out) Try.underlying43 rfl (by kernel_rfl)) rfl ?_
  exact ⟨zaE, zaB⟩
 replace c54 := Bool.eq_false_iff.mpr c54
 subst c54
 replace H := zif H
 obtain ⟨t1143, A103, H⟩ := zbs H
 try dsimp only at H
 by_cases c104 : t1143 = true
 ·subst c104
  replace H := zit H
  simp only [Option.some.injEq, Prod.mk.injEq] at H
  obtain ⟨rfl, rfl, rfl⟩ := H
  go_enter Try.func46, Try.ntmps46
  go_wp2_with (first | ((with_reducible refine gtd 2 rfl ?_); refine zbx 2 #[.bool a0_0, .int .u64 a0_1, .int .u64 a0_2] 43 (h := ?_); intro gb1130 hg w105 hbox hb; have GW1130 := zkZ hg (zaB (p := Below w.heap.size w _)); replace HB := Aside0.mk (below_step zaB hb); have BK1130 := Aside0.mk (hbox); clear hb hbox hg) | ((with_reducible refine gtd 3 rfl ?_); refine zbx 3 #[.bool a1_0, .int .u64 a1_1, .int .u64 a1_2] 43 (h := ?_); intro gb1131 hg w106 hbox hb; have GW1131 := zkz HB hg; have NB1130_1131 := zkl BK1130 hg; have NB1131_1130 := zkr BK1130 hg; replace BK1130 := zkb BK1130 hb; replace HB := zkB HB hb; have BK1131 := Aside0.mk (hbox); clear hb hbox hg) | ((with_reducible refine gtd 4 rfl ?_); refine zbx 4 #[.bool false, .int .u64 0, .int .u64 0] 43 (h := ?_); intro gb1132 hg w107 hbox hb; have GW1132 := zkz HB hg; have NB1130_1132 := zkl BK1130 hg; have NB1132_1130 := zkr BK1130 hg; have NB1131_1132 := zkl BK1131 hg; have NB1132_1131 := zkr BK1131 hg; replace BK1130 := zkb BK1130 hb; replace BK1131 := zkb BK1131 hb; replace HB := zkB HB hb; have BK1132 := Aside0.mk (hbox); clear hb hbox hg; obtain ⟨_, _, _, _⟩ := zs2 NB1130_1131 NB1130_1132; obtain ⟨_, _, _, _, _, _⟩ := zq3 BK1130) | ((with_reducible refine gtc 49 rfl ?_); refine zgL 8 Try.func49 (flyballref16_Norm.calls k a0_0 a0_1 a0_2 false t1134 t1135 _ A3.out) (h := ?_); rintro w111 hb; replace BK1130 := zkb BK1130 hb; replace BK1131 := zkb BK1131 hb; replace BK1132 := zkb BK1132 hb; replace HB := zkB HB hb; (try clear hb)) | ((with_reducible refine gtd 5 rfl ?_); refine zbx 5 #[.bool false, .int .u64 0, .int .u64 0] 43 (h := ?_); intro gb1136 hg w112 hbox hb; have GW1136 := zkz HB hg; have NB1130_1136 := zkl BK1130 hg; have NB1136_1130 := zkr BK1130 hg; have NB1131_1136 := zkl BK1131 hg; have NB1136_1131 := zkr BK1131 hg; have NB1132_1136 := zkl BK1132 hg; have NB1136_1132 := zkr BK1132 hg; replace BK1130 := zkb BK1130 hb; replace BK1131 := zkb BK1131 hb; replace BK1132 := zkb BK1132 hb; replace HB := zkB HB hb; have BK1136 := Aside0.mk (hbox); clear hb hbox hg; obtain ⟨_, _, _, _, _, _⟩ := zs3 NB1136_1130 NB1136_1131 NB1136_1132; obtain ⟨_, _, _, _, _, _⟩ := zq3 BK1136; obtain ⟨_, _⟩ := zsy NB1131_1132; obtain ⟨_, _, _, _, _, _⟩ := zq3 BK1131) | ((with_reducible refine gtc 49 rfl ?_); refine zgL 10 Try.func49 (flyballref16_Norm.calls k a1_0 a1_1 a1_2 false t1138 t1139 _ A4.out) (h := ?_); rintro w119 hb; replace BK1130 := Aside0.mk (blk_below (g := gb1130) (o := .cells #[.bool a0_0, .int .u64 a0_1, .int .u64 a0_2] 43 (0, 0)) (by (with_reducible repeat (first | refine blk_drewN ?_ _ | refine blk_drew ?_ | refine blk_alloc ?_ _)); refine blk_far ?_ NB1130_1136.out _; (with_reducible repeat (first | refine blk_drewN ?_ _ | refine blk_drew ?_ | refine blk_alloc ?_ _)); refine blk_far ?_ NB1130_1136.out _; (with_reducible repeat (first | refine blk_drewN ?_ _ | refine blk_drew ?_ | refine blk_alloc ?_ _)); refine blk_far ?_ NB1130_1136.out _; (with_reducible repeat (first | refine blk_drewN ?_ _ | refine blk_drew ?_ | refine blk_alloc ?_ _)); exact BK1130.out) hb); replace BK1131 := Aside0.mk (blk_below (g := gb1131) (o := .cells #[.bool a1_0, .int .u64 a1_1, .int .u64 a1_2] 43 (0, 0)) (by (with_reducible repeat (first | refine blk_drewN ?_ _ | refine blk_drew ?_ | refine blk_alloc ?_ _)); refine blk_far ?_ NB1131_1136.out _; (with_reducible repeat (first | refine blk_drewN ?_ _ | refine blk_drew ?_ | refine blk_alloc ?_ _)); refine blk_far ?_ NB1131_1136.out _; (with_reducible repeat (first | refine blk_drewN ?_ _ | refine blk_drew ?_ | refine blk_alloc ?_ _)); refine blk_far ?_ NB1131_1136.out _; (with_reducible repeat (first | refine blk_drewN ?_ _ | refine blk_drew ?_ | refine blk_alloc ?_ _)); exact BK1131.out) hb); replace BK1132 := Aside0.mk (blk_below (g := gb1132) (o := .cells #[.bool false, .int .u64 0, .int .u64 0] 43 (0, 0)) (by (with_reducible repeat (first | refine blk_drewN ?_ _ | refine blk_drew ?_ | refine blk_alloc ?_ _)); refine blk_far ?_ NB1132_1136.out _; (with_reducible repeat (first | refine blk_drewN ?_ _ | refine blk_drew ?_ | refine blk_alloc ?_ _)); refine blk_far ?_ NB1132_1136.out _; (with_reducible repeat (first | refine blk_drewN ?_ _ | refine blk_drew ?_ | refine blk_alloc ?_ _)); refine blk_far ?_ NB1132_1136.out _; (with_reducible repeat (first | refine blk_drewN ?_ _ | refine blk_drew ?_ | refine blk_alloc ?_ _)); exact BK1132.out) hb); replace BK1136 := Aside0.mk (blk_below (g := gb1136) (o := .cells #[.bool false, .int .u64 t1134, .int .u64 t1135] 43 (0, 0)) (by (with_reducible repeat (first | refine blk_drewN ?_ _ | refine blk_drew ?_ | refine blk_alloc ?_ _)); refine blk_put (cs := #[.bool false, .int .u64 t1134, .int .u64 0]) ?_ 2 _ rfl; (with_reducible repeat (first | refine blk_drewN ?_ _ | refine blk_drew ?_ | refine blk_alloc ?_ _)); refine blk_put (cs := #[.bool false, .int .u64 0, .int .u64 0]) ?_ 1 _ rfl; (with_reducible repeat (first | refine blk_drewN ?_ _ | refine blk_drew ?_ | refine blk_alloc ?_ _)); refine blk_put (cs := #[.bool false, .int .u64 0, .int .u64 0]) ?_ 0 _ rfl; (with_reducible repeat (first | refine blk_drewN ?_ _ | refine blk_drew ?_ | refine blk_alloc ?_ _)); exact BK1136.out) hb); replace HB := Aside0.mk (below_step zaB hb); (try clear hb)) | ((with_reducible refine gtd 6 rfl ?_); refine zbx 6 #[.bool false, .int .u64 0, .int .u64 0] 43 (h := ?_); intro gb1140 hg w120 hbox hb; have GW1140 := zkz HB hg; have NB1130_1140 := zkl BK1130 hg; have NB1140_1130 := zkr BK1130 hg; have NB1131_1140 := zkl BK1131 hg; have NB1140_1131 := zkr BK1131 hg; have NB1132_1140 := zkl BK1132 hg; have NB1140_1132 := zkr BK1132 hg; have NB1136_1140 := zkl BK1136 hg; have NB1140_1136 := zkr BK1136 hg; replace BK1130 := zkb BK1130 hb; replace BK1131 := zkb BK1131 hb; replace BK1132 := zkb BK1132 hb; replace BK1136 := zkb BK1136 hb; replace HB := zkB HB hb; have BK1140 := Aside0.mk (hbox); clear hb hbox hg; obtain ⟨_, _, _, _, _, _, _, _⟩ := zs4 NB1140_1130 NB1140_1131 NB1140_1132 NB1140_1136; obtain ⟨_, _, _, _, _, _⟩ := zq3 BK1140; obtain ⟨_, _, _, _, _, _⟩ := zq3 BK1136) | ((with_reducible refine gtc 116 rfl ?_); refine zgL 21 Try.func116 (flyballref16_le.calls k t1138 t1134 false _ A53.out) (h := ?_); rintro w' ⟨nd, rfl⟩) | ((with_reducible refine gtc 116 rfl ?_); refine zgL 29 Try.func116 (flyballref16_le.calls k t1135 t1139 true _ A103.out) (h := ?_); rintro w' ⟨nd, rfl⟩; obtain ⟨_, _, _, _, _, _⟩ := zq3 BK1132))
  refine bodyPost_ret (results_cell_row rfl _ _ gb1132 43 #[.bool false, .int .u64 t1134, .int .u64 t1139] (0, 0) _ rfl (by (with_reducible repeat (first | refine blk_drewN ?_ _ | refine blk_drew ?_ | refine blk_alloc ?_ _)); refine blk_put (cs := #[.bool false, .int .u64 t1134, .int .u64 0]) ?_ 2 _ rfl; (with_reducible repeat (first | refine blk_drewN ?_ _ | refine blk_drew ?_ | refine blk_alloc ?_ _)); refine blk_put (cs := #[.bool false, .int .u64 0, .int .u64 0]) ?_ 1 _ rfl; (with_reducible repeat (first | refine blk_drewN ?_ _ | refine blk_drew ?_ | refine blk_alloc ?_ _)); refine blk_put (cs := #[.bool false, .int .u64 0, .int .u64 0]) ?_ 0 _ rfl; (with_reducible repeat (first | refine blk_drewN ?_ _ | refine blk_drew ?_ | refine blk_alloc ?_ _)); refine blk_far ?_ NB1132_1136.out _; (with_reducible repeat (first | refine blk_drewN ?_ _ | refine blk_drew ?_ | refine blk_alloc ?_ _)); refine blk_far ?_ NB1132_1140.out _; (with_reducible repeat (first | refine blk_drewN ?_ _ | refine blk_drew ?_ | refine blk_alloc ?_ _)); refine blk_far ?_ NB1132_1140.out _; (with_reducible repeat (first | refine blk_drewN ?_ _ | refine blk_drew ?_ | refine blk_alloc ?_ _)); refine blk_far ?_ NB1132_1140.out _; (with_reducible repeat (first | refine blk_drewN ?_ _ | refine blk_drew ?_ | refine blk_alloc ?_ _)); exact BK1132.out) Try.underlying43 rfl (by kernel_rfl)) rfl ?_
  exact ⟨zaE, zaB⟩
 replace c104 := Bool.eq_false_iff.mpr c104
 subst c104
 replace H := zif H
 simp only [Option.some.injEq, Prod.mk.injEq] at H
 obtain ⟨rfl, rfl, rfl⟩ := H
 go_enter Try.func46, Try.ntmps46
 go_wp2_with (first | ((with_reducible refine gtd 2 rfl ?_); refine zbx 2 #[.bool a0_0, .int .u64 a0_1, .int .u64 a0_2] 43 (h := ?_); intro gb1130 hg w128 hbox hb; have GW1130 := zkZ hg (zaB (p := Below w.heap.size w _)); replace HB := Aside0.mk (below_step zaB hb); have BK1130 := Aside0.mk (hbox); clear hb hbox hg) | ((with_reducible refine gtd 3 rfl ?_); refine zbx 3 #[.bool a1_0, .int .u64 a1_1, .int .u64 a1_2] 43 (h := ?_); intro gb1131 hg w129 hbox hb; have GW1131 := zkz HB hg; have NB1130_1131 := zkl BK1130 hg; have NB1131_1130 := zkr BK1130 hg; replace BK1130 := zkb BK1130 hb; replace HB := zkB HB hb; have BK1131 := Aside0.mk (hbox); clear hb hbox hg) | ((with_reducible refine gtd 4 rfl ?_); refine zbx 4 #[.bool false, .int .u64 0, .int .u64 0] 43 (h := ?_); intro gb1132 hg w130 hbox hb; have GW1132 := zkz HB hg; have NB1130_1132 := zkl BK1130 hg; have NB1132_1130 := zkr BK1130 hg; have NB1131_1132 := zkl BK1131 hg; have NB1132_1131 := zkr BK1131 hg; replace BK1130 := zkb BK1130 hb; replace BK1131 := zkb BK1131 hb; replace HB := zkB HB hb; have BK1132 := Aside0.mk (hbox); clear hb hbox hg; obtain ⟨_, _, _, _⟩ := zs2 NB1130_1131 NB1130_1132; obtain ⟨_, _, _, _, _, _⟩ := zq3 BK1130) | ((with_reducible refine gtc 49 rfl ?_); refine zgL 8 Try.func49 (flyballref16_Norm.calls k a0_0 a0_1 a0_2 false t1134 t1135 _ A3.out) (h := ?_); rintro w134 hb; replace BK1130 := zkb BK1130 hb; replace BK1131 := zkb BK1131 hb; replace BK1132 := zkb BK1132 hb; replace HB := zkB HB hb; (try clear hb)) | ((with_reducible refine gtd 5 rfl ?_); refine zbx 5 #[.bool false, .int .u64 0, .int .u64 0] 43 (h := ?_); intro gb1136 hg w135 hbox hb; have GW1136 := zkz HB hg; have NB1130_1136 := zkl BK1130 hg; have NB1136_1130 := zkr BK1130 hg; have NB1131_1136 := zkl BK1131 hg; have NB1136_1131 := zkr BK1131 hg; have NB1132_1136 := zkl BK1132 hg; have NB1136_1132 := zkr BK1132 hg; replace BK1130 := zkb BK1130 hb; replace BK1131 := zkb BK1131 hb; replace BK1132 := zkb BK1132 hb; replace HB := zkB HB hb; have BK1136 := Aside0.mk (hbox); clear hb hbox hg; obtain ⟨_, _, _, _, _, _⟩ := zs3 NB1136_1130 NB1136_1131 NB1136_1132; obtain ⟨_, _, _, _, _, _⟩ := zq3 BK1136; obtain ⟨_, _⟩ := zsy NB1131_1132; obtain ⟨_, _, _, _, _, _⟩ := zq3 BK1131) | ((with_reducible refine gtc 49 rfl ?_); refine zgL 10 Try.func49 (flyballref16_Norm.calls k a1_0 a1_1 a1_2 false t1138 t1139 _ A4.out) (h := ?_); rintro w142 hb; replace BK1130 := Aside0.mk (blk_below (g := gb1130) (o := .cells #[.bool a0_0, .int .u64 a0_1, .int .u64 a0_2] 43 (0, 0)) (by (with_reducible repeat (first | refine blk_drewN ?_ _ | refine blk_drew ?_ | refine blk_alloc ?_ _)); refine blk_far ?_ NB1130_1136.out _; (with_reducible repeat (first | refine blk_drewN ?_ _ | refine blk_drew ?_ | refine blk_alloc ?_ _)); refine blk_far ?_ NB1130_1136.out _; (with_reducible repeat (first | refine blk_drewN ?_ _ | refine blk_drew ?_ | refine blk_alloc ?_ _)); refine blk_far ?_ NB1130_1136.out _; (with_reducible repeat (first | refine blk_drewN ?_ _ | refine blk_drew ?_ | refine blk_alloc ?_ _)); exact BK1130.out) hb); replace BK1131 := Aside0.mk (blk_below (g := gb1131) (o := .cells #[.bool a1_0, .int .u64 a1_1, .int .u64 a1_2] 43 (0, 0)) (by (with_reducible repeat (first | refine blk_drewN ?_ _ | refine blk_drew ?_ | refine blk_alloc ?_ _)); refine blk_far ?_ NB1131_1136.out _; (with_reducible repeat (first | refine blk_drewN ?_ _ | refine blk_drew ?_ | refine blk_alloc ?_ _)); refine blk_far ?_ NB1131_1136.out _; (with_reducible repeat (first | refine blk_drewN ?_ _ | refine blk_drew ?_ | refine blk_alloc ?_ _)); refine blk_far ?_ NB1131_1136.out _; (with_reducible repeat (first | refine blk_drewN ?_ _ | refine blk_drew ?_ | refine blk_alloc ?_ _)); exact BK1131.out) hb); replace BK1132 := Aside0.mk (blk_below (g := gb1132) (o := .cells #[.bool false, .int .u64 0, .int .u64 0] 43 (0, 0)) (by (with_reducible repeat (first | refine blk_drewN ?_ _ | refine blk_drew ?_ | refine blk_alloc ?_ _)); refine blk_far ?_ NB1132_1136.out _; (with_reducible repeat (first | refine blk_drewN ?_ _ | refine blk_drew ?_ | refine blk_alloc ?_ _)); refine blk_far ?_ NB1132_1136.out _; (with_reducible repeat (first | refine blk_drewN ?_ _ | refine blk_drew ?_ | refine blk_alloc ?_ _)); refine blk_far ?_ NB1132_1136.out _; (with_reducible repeat (first | refine blk_drewN ?_ _ | refine blk_drew ?_ | refine blk_alloc ?_ _)); exact BK1132.out) hb); replace BK1136 := Aside0.mk (blk_below (g := gb1136) (o := .cells #[.bool false, .int .u64 t1134, .int .u64 t1135] 43 (0, 0)) (by (with_reducible repeat (first | refine blk_drewN ?_ _ | refine blk_drew ?_ | refine blk_alloc ?_ _)); refine blk_put (cs := #[.bool false, .int .u64 t1134, .int .u64 0]) ?_ 2 _ rfl; (with_reducible repeat (first | refine blk_drewN ?_ _ | refine blk_drew ?_ | refine blk_alloc ?_ _)); refine blk_put (cs := #[.bool false, .int .u64 0, .int .u64 0]) ?_ 1 _ rfl; (with_reducible repeat (first | refine blk_drewN ?_ _ | refine blk_drew ?_ | refine blk_alloc ?_ _)); refine blk_put (cs := #[.bool false, .int .u64 0, .int .u64 0]) ?_ 0 _ rfl; (with_reducible repeat (first | refine blk_drewN ?_ _ | refine blk_drew ?_ | refine blk_alloc ?_ _)); exact BK1136.out) hb); replace HB := Aside0.mk (below_step zaB hb); (try clear hb)) | ((with_reducible refine gtd 6 rfl ?_); refine zbx 6 #[.bool false, .int .u64 0, .int .u64 0] 43 (h := ?_); intro gb1140 hg w143 hbox hb; have GW1140 := zkz HB hg; have NB1130_1140 := zkl BK1130 hg; have NB1140_1130 := zkr BK1130 hg; have NB1131_1140 := zkl BK1131 hg; have NB1140_1131 := zkr BK1131 hg; have NB1132_1140 := zkl BK1132 hg; have NB1140_1132 := zkr BK1132 hg; have NB1136_1140 := zkl BK1136 hg; have NB1140_1136 := zkr BK1136 hg; replace BK1130 := zkb BK1130 hb; replace BK1131 := zkb BK1131 hb; replace BK1132 := zkb BK1132 hb; replace BK1136 := zkb BK1136 hb; replace HB := zkB HB hb; have BK1140 := Aside0.mk (hbox); clear hb hbox hg; obtain ⟨_, _, _, _, _, _, _, _⟩ := zs4 NB1140_1130 NB1140_1131 NB1140_1132 NB1140_1136; obtain ⟨_, _, _, _, _, _⟩ := zq3 BK1140; obtain ⟨_, _, _, _, _, _⟩ := zq3 BK1136) | ((with_reducible refine gtc 116 rfl ?_); refine zgL 21 Try.func116 (flyballref16_le.calls k t1138 t1134 false _ A53.out) (h := ?_); rintro w' ⟨nd, rfl⟩) | ((with_reducible refine gtc 116 rfl ?_); refine zgL 29 Try.func116 (flyballref16_le.calls k t1135 t1139 false _ A103.out) (h := ?_); rintro w' ⟨nd, rfl⟩; obtain ⟨_, _, _, _, _, _⟩ := zq3 BK1132))
 refine bodyPost_ret (results_cell_row rfl _ _ gb1132 43 #[.bool false, .int .u64 t1134, .int .u64 t1135] (0, 0) _ rfl (by (with_reducible repeat (first | refine blk_drewN ?_ _ | refine blk_drew ?_ | refine blk_alloc ?_ _)); refine blk_put (cs := #[.bool false, .int .u64 t1134, .int .u64 0]) ?_ 2 _ rfl; (with_reducible repeat (first | refine blk_drewN ?_ _ | refine blk_drew ?_ | refine blk_alloc ?_ _)); refine blk_put (cs := #[.bool false, .int .u64 0, .int .u64 0]) ?_ 1 _ rfl; (with_reducible repeat (first | refine blk_drewN ?_ _ | refine blk_drew ?_ | refine blk_alloc ?_ _)); refine blk_put (cs := #[.bool false, .int .u64 0, .int .u64 0]) ?_ 0 _ rfl; (with_reducible repeat (first | refine blk_drewN ?_ _ | refine blk_drew ?_ | refine blk_alloc ?_ _)); refine blk_far ?_ NB1132_1140.out _; (with_reducible repeat (first | refine blk_drewN ?_ _ | refine blk_drew ?_ | refine blk_alloc ?_ _)); refine blk_far ?_ NB1132_1140.out _; (with_reducible repeat (first | refine blk_drewN ?_ _ | refine blk_drew ?_ | refine blk_alloc ?_ _)); refine blk_far ?_ NB1132_1140.out _; (with_reducible repeat (first | refine blk_drewN ?_ _ | refine blk_drew ?_ | refine blk_alloc ?_ _)); exact BK1132.out) Try.underlying43 rfl (by kernel_rfl)) rfl ?_
 exact ⟨zaE, zaB⟩
theorem flyballref16_Meet.calls (k : Nat) (a0_0 : Bool) (a0_1 : Int) (a0_2 : Int) (a1_0 : Bool) (a1_1 : Int) (a1_2 : Int) (r1 : Bool) (r2 : Int) (r3 : Int) (w : World) (h : flyballref16_Meet.f k a0_0 a0_1 a0_2 a1_0 a1_1 a1_2 = some (r1, r2, r3)) :
  Calls Try.prog 48 #[.agg #[.bool a0_0, .int .u64 a0_1, .int .u64 a0_2], .agg #[.bool a1_0, .int .u64 a1_1, .int .u64 a1_2]] w fun e w' => e = .returned (.agg #[.bool r1, .int .u64 r2, .int .u64 r3]) ∧ Below w.heap.size w w' := by
 have hu43 := Try.underlying43
 have HB := Aside0.mk (Below.refl w.heap.size w)
 have H : ((flyballref16_Norm.f k a0_0 a0_1 a0_2).bind fun bt1147 => ((flyballref16_Norm.f k a1_0 a1_1 a1_2).bind fun bt1151 => (if bt1147.1 = true then (flyballref16_Meet.j0 k true bt1147.1 bt1147.2.1 bt1147.2.2 bt1151.1 bt1151.2.1 bt1151.2.2) else (flyballref16_Meet.j0 k bt1151.1 bt1147.1 bt1147.2.1 bt1147.2.2 bt1151.1 bt1151.2.1 bt1151.2.2)))) = some (r1, r2, r3) := h
 clear h
 obtain ⟨⟨t1147, t1148, t1149⟩, A3, H⟩ := zbs H
 try dsimp only at H
 obtain ⟨⟨t1151, t1152, t1153⟩, A4, H⟩ := zbs H
 try dsimp only at H
 have HC5 := Aside0.mk H
 clear H
 go_enter Try.func48, Try.ntmps48
 go_upto_region 3 with (first | ((with_reducible refine gtd 2 rfl ?_); refine zbx 2 #[.bool a0_0, .int .u64 a0_1, .int .u64 a0_2] 43 (h := ?_); intro gb1144 hg w6 hbox hb; have GW1144 := zkZ hg (zaB (p := Below w.heap.size w _)); replace HB := Aside0.mk (below_step zaB hb); have BK1144 := Aside0.mk (hbox); clear hb hbox hg) | ((with_reducible refine gtd 3 rfl ?_); refine zbx 3 #[.bool a1_0, .int .u64 a1_1, .int .u64 a1_2] 43 (h := ?_); intro gb1145 hg w7 hbox hb; have GW1145 := zkz HB hg; have NB1144_1145 := zkl BK1144 hg; have NB1145_1144 := zkr BK1144 hg; replace BK1144 := zkb BK1144 hb; replace HB := zkB HB hb; have BK1145 := Aside0.mk (hbox); clear hb hbox hg) | ((with_reducible refine gtd 4 rfl ?_); refine zbx 4 #[.bool false, .int .u64 0, .int .u64 0] 43 (h := ?_); intro gb1146 hg w8 hbox hb; have GW1146 := zkz HB hg; have NB1144_1146 := zkl BK1144 hg; have NB1146_1144 := zkr BK1144 hg; have NB1145_1146 := zkl BK1145 hg; have NB1146_1145 := zkr BK1145 hg; replace BK1144 := zkb BK1144 hb; replace BK1145 := zkb BK1145 hb; replace HB := zkB HB hb; have BK1146 := Aside0.mk (hbox); clear hb hbox hg; obtain ⟨_, _, _, _⟩ := zs2 NB1144_1145 NB1144_1146; obtain ⟨z11_0, z11_1, z11_2, f11_0, f11_1, f11_2⟩ := zq3 BK1144) | ((with_reducible refine gtc 49 rfl ?_); refine zgL 8 Try.func49 (flyballref16_Norm.calls k a0_0 a0_1 a0_2 t1147 t1148 t1149 _ A3.out) (h := ?_); rintro w12 hb; replace BK1144 := zkb BK1144 hb; replace BK1145 := zkb BK1145 hb; replace BK1146 := zkb BK1146 hb; replace HB := zkB HB hb; (try clear hb)) | ((with_reducible refine gtd 5 rfl ?_); refine zbx 5 #[.bool false, .int .u64 0, .int .u64 0] 43 (h := ?_); intro gb1150 hg w13 hbox hb; have GW1150 := zkz HB hg; have NB1144_1150 := zkl BK1144 hg; have NB1150_1144 := zkr BK1144 hg; have NB1145_1150 := zkl BK1145 hg; have NB1150_1145 := zkr BK1145 hg; have NB1146_1150 := zkl BK1146 hg; have NB1150_1146 := zkr BK1146 hg; replace BK1144 := zkb BK1144 hb; replace BK1145 := zkb BK1145 hb; replace BK1146 := zkb BK1146 hb; replace HB := zkB HB hb; have BK1150 := Aside0.mk (hbox); clear hb hbox hg; obtain ⟨_, _, _, _, _, _⟩ := zs3 NB1150_1144 NB1150_1145 NB1150_1146; obtain ⟨z17_0, z17_1, z17_2, f17_0, f17_1, f17_2⟩ := zq3 BK1150; obtain ⟨_, _⟩ := zsy NB1145_1146; obtain ⟨z19_0, z19_1, z19_2, f19_0, f19_1, f19_2⟩ := zq3 BK1145) | ((with_reducible refine gtc 49 rfl ?_); refine zgL 10 Try.func49 (flyballref16_Norm.calls k a1_0 a1_1 a1_2 t1151 t1152 t1153 _ A4.out) (h := ?_); rintro w20 hb; replace BK1144 := Aside0.mk (blk_below (zkf (zkf (zkf BK1144.out NB1144_1150.out _) NB1144_1150.out _) NB1144_1150.out _) hb); replace BK1145 := Aside0.mk (blk_below (zkf (zkf (zkf BK1145.out NB1145_1150.out _) NB1145_1150.out _) NB1145_1150.out _) hb); replace BK1146 := Aside0.mk (blk_below (zkf (zkf (zkf BK1146.out NB1146_1150.out _) NB1146_1150.out _) NB1146_1150.out _) hb); replace BK1150 := Aside0.mk (blk_below (o := .cells #[.bool t1147, .int .u64 t1148, .int .u64 t1149] 43 (0, 0)) (blk_put (cs := #[.bool t1147, .int .u64 t1148, .int .u64 0]) (blk_put (cs := #[.bool t1147, .int .u64 0, .int .u64 0]) (blk_put BK1150.out 0 _ rfl) 1 _ rfl) 2 _ rfl) hb); replace HB := Aside0.mk (below_step (below_set (below_set (below_set HB.out GW1150.out) GW1150.out) GW1150.out) hb); (try clear hb)) | ((with_reducible refine gtd 6 rfl ?_); refine zbx 6 #[.bool false, .int .u64 0, .int .u64 0] 43 (h := ?_); intro gb1154 hg w21 hbox hb; have GW1154 := zkz HB hg; have NB1144_1154 := zkl BK1144 hg; have NB1154_1144 := zkr BK1144 hg; have NB1145_1154 := zkl BK1145 hg; have NB1154_1145 := zkr BK1145 hg; have NB1146_1154 := zkl BK1146 hg; have NB1154_1146 := zkr BK1146 hg; have NB1150_1154 := zkl BK1150 hg; have NB1154_1150 := zkr BK1150 hg; replace BK1144 := zkb BK1144 hb; replace BK1145 := zkb BK1145 hb; replace BK1146 := zkb BK1146 hb; replace BK1150 := zkb BK1150 hb; replace HB := zkB HB hb; have BK1154 := Aside0.mk (hbox); clear hb hbox hg; obtain ⟨_, _, _, _, _, _, _, _⟩ := zs4 NB1154_1144 NB1154_1145 NB1154_1146 NB1154_1150; obtain ⟨z26_0, z26_1, z26_2, f26_0, f26_1, f26_2⟩ := zq3 BK1154))
 (try simp only [Act.put, List.setIfInBounds_toArray, List.set_cons_zero, List.set_cons_succ])
 go_cut [16] (fun v16 wc => ∃ (kq : Nat) (x16_4 : Bool), v16 = .bool x16_4 ∧ Aside0 (flyballref16_Meet.j0 kq x16_4 t1147 t1148 t1149 t1151 t1152 t1153 = some (r1, r2, r3)) ∧ Aside0 (kq ≤ k) ∧ Aside0 (wc.heap[gb1144]? = some (.cells #[.bool a0_0, .int .u64 a0_1, .int .u64 a0_2] 43 (0, 0))) ∧ Aside0 (wc.heap[gb1145]? = some (.cells #[.bool a1_0, .int .u64 a1_1, .int .u64 a1_2] 43 (0, 0))) ∧ Aside0 (wc.heap[gb1146]? = some (.cells #[.bool false, .int .u64 0, .int .u64 0] 43 (0, 0))) ∧ Aside0 (wc.heap[gb1150]? = some (.cells #[.bool t1147, .int .u64 t1148, .int .u64 t1149] 43 (0, 0))) ∧ Aside0 (wc.heap[gb1154]? = some (.cells #[.bool t1151, .int .u64 t1152, .int .u64 t1153] 43 (0, 0))) ∧ Aside0 (Below w.heap.size w wc))
 case first =>
  have H := HC5.out
  clear HC5
  by_cases c27 : t1147 = true
  ·subst c27
   replace H := zit H
   have H' := Aside0.mk H
   clear H
   obtain ⟨_, _, _, _, _, _, _, _⟩ := zs4 NB1150_1144 NB1150_1145 NB1150_1146 NB1150_1154
   obtain ⟨z32_0, z32_1, z32_2, f32_0, f32_1, f32_2⟩ := zq3 BK1150
   go_wp2
   go_meet
   case rel => exact ⟨_, (true), zrl, H', ⟨zle⟩, ⟨(zkf (zkf (zkf (zkq BK1144) NB1144_1154.out _) NB1144_1154.out _) NB1144_1154.out _)⟩, ⟨(zkf (zkf (zkf (zkq BK1145) NB1145_1154.out _) NB1145_1154.out _) NB1145_1154.out _)⟩, ⟨(zkf (zkf (zkf (zkq BK1146) NB1146_1154.out _) NB1146_1154.out _) NB1146_1154.out _)⟩, ⟨(zkf (zkf (zkf (zkq BK1150) NB1150_1154.out _) NB1150_1154.out _) NB1150_1154.out _)⟩, ⟨(blk_put (cs := #[.bool t1151, .int .u64 t1152, .int .u64 0]) (blk_put (cs := #[.bool t1151, .int .u64 0, .int .u64 0]) (blk_put (zkq BK1154) 0 _ rfl) 1 _ rfl) 2 _ rfl)⟩, ⟨zaB⟩⟩
  replace c27 := Bool.eq_false_iff.mpr c27
  subst c27
  replace H := zif H
  have H' := Aside0.mk H
  clear H
  obtain ⟨_, _, _, _, _, _, _, _⟩ := zs4 NB1150_1144 NB1150_1145 NB1150_1146 NB1150_1154
  obtain ⟨z37_0, z37_1, z37_2, f37_0, f37_1, f37_2⟩ := zq3 BK1150
  obtain ⟨_, _, _, _, _, _⟩ := zs3 NB1154_1144 NB1154_1145 NB1154_1146
  obtain ⟨z41_0, z41_1, z41_2, f41_0, f41_1, f41_2⟩ := zq3 BK1154
  go_wp2
  go_meet
  case rel => exact ⟨_, (t1151), zrl, H', ⟨zle⟩, ⟨(zkf (zkf (zkf (zkq BK1144) NB1144_1154.out _) NB1144_1154.out _) NB1144_1154.out _)⟩, ⟨(zkf (zkf (zkf (zkq BK1145) NB1145_1154.out _) NB1145_1154.out _) NB1145_1154.out _)⟩, ⟨(zkf (zkf (zkf (zkq BK1146) NB1146_1154.out _) NB1146_1154.out _) NB1146_1154.out _)⟩, ⟨(zkf (zkf (zkf (zkq BK1150) NB1150_1154.out _) NB1150_1154.out _) NB1150_1154.out _)⟩, ⟨(blk_put (cs := #[.bool t1151, .int .u64 t1152, .int .u64 0]) (blk_put (cs := #[.bool t1151, .int .u64 0, .int .u64 0]) (blk_put (zkq BK1154) 0 _ rfl) 1 _ rfl) 2 _ rfl)⟩, ⟨zaB⟩⟩
 case rest =>
  clear HC5
  try clear c1
  try clear c2
  try clear p2
  try clear c3
  try clear c4
  try clear c9
  try clear c10
  try clear c14
  try clear c15
  try clear c16
  try clear c18
  try clear c22
  try clear c23
  try clear c24
  try clear c25
  try clear c27
  try clear c28
  try clear c29
  try clear c30
  try clear c31
  try clear c33
  try clear c34
  try clear c35
  try clear c36
  try clear c38
  try clear c39
  try clear c40
  try clear z11_0 z11_1 z11_2 f11_0 f11_1 f11_2
  try clear z17_0 z17_1 z17_2 f17_0 f17_1 f17_2
  try clear z19_0 z19_1 z19_2 f19_0 f19_1 f19_2
  try clear z26_0 z26_1 z26_2 f26_0 f26_1 f26_2
  try clear z32_0 z32_1 z32_2 f32_0 f32_1 f32_2
  try clear z37_0 z37_1 z37_2 f37_0 f37_1 f37_2
  try clear z41_0 z41_1 z41_2 f41_0 f41_1 f41_2
  obtain ⟨kq, x16_4, rfl, HA, HJ4, BK1144, BK1145, BK1146, BK1150, BK1154, HB⟩ := hcut
  cases kq with
  | zero => exact absurd HA.out (by simp [flyballref16_Meet.j0])
  | succ kj4 =>
   have H := HA.out
   clear HA
   simp only [flyballref16_Meet.j0] at H
   by_cases c42 : x16_4 = true
   ·subst c42
    replace H := zit H
    simp only [Option.some.injEq, Prod.mk.injEq] at H
    obtain ⟨rfl, rfl, rfl⟩ := H
    obtain ⟨_, _, _, _, _, _, _, _⟩ := zs4 NB1146_1144 NB1146_1145 NB1146_1150 NB1146_1154
    obtain ⟨z47_0, z47_1, z47_2, f47_0, f47_1, f47_2⟩ := zq3 BK1146
    go_wp2
    refine bodyPost_ret (results_cell_row rfl _ _ gb1146 43 #[.bool true, .int .u64 0, .int .u64 0] (0, 0) _ rfl (blk_put (cs := #[.bool true, .int .u64 0, .int .u64 0]) (blk_put (cs := #[.bool true, .int .u64 0, .int .u64 0]) (blk_put (zkq BK1146) 0 _ rfl) 1 _ rfl) 2 _ rfl) Try.underlying43 rfl (by kernel_rfl)) rfl ?_
    exact ⟨zaE, zaB⟩
   replace c42 := Bool.eq_false_iff.mpr c42
   subst c42
   replace H := zif H
   obtain ⟨t1155, A48, H⟩ := zbs H
   try dsimp only at H
   have HC49 := Aside0.mk H
   clear H
   obtain ⟨_, _, _, _, _, _, _, _⟩ := zs4 NB1150_1144 NB1150_1145 NB1150_1146 NB1150_1154
   obtain ⟨z54_0, z54_1, z54_2, f54_0, f54_1, f54_2⟩ := zq3 BK1150
   obtain ⟨_, _, _, _, _, _⟩ := zs3 NB1154_1144 NB1154_1145 NB1154_1146
   obtain ⟨z58_0, z58_1, z58_2, f58_0, f58_1, f58_2⟩ := zq3 BK1154
   go_upto_if 22 with (first | ((with_reducible refine gtc 116 rfl ?_); refine zgL 22 Try.func116 (flyballref16_le.calls kj4 t1148 t1152 t1155 _ A48.out) (h := ?_); rintro w' ⟨nd, rfl⟩))
   (try simp only [Act.put, List.setIfInBounds_toArray, List.set_cons_zero, List.set_cons_succ])
   go_cut [] (fun wc => ∃ (kq : Nat) (x1151001_48 : Int), Aside0 (flyballref16_Meet.j1 kq t1147 x1151001_48 t1149 t1151 t1152 t1153 = some (r1, r2, r3)) ∧ Aside0 (kq ≤ kj4) ∧ Aside0 (wc.heap[gb1144]? = some (.cells #[.bool a0_0, .int .u64 a0_1, .int .u64 a0_2] 43 (0, 0))) ∧ Aside0 (wc.heap[gb1145]? = some (.cells #[.bool a1_0, .int .u64 a1_1, .int .u64 a1_2] 43 (0, 0))) ∧ Aside0 (wc.heap[gb1146]? = some (.cells #[.bool false, .int .u64 0, .int .u64 0] 43 (0, 0))) ∧ Aside0 (wc.heap[gb1150]? = some (.cells #[.bool t1147, .int .u64 x1151001_48, .int .u64 t1149] 43 (0, 0))) ∧ Aside0 (wc.heap[gb1154]? = some (.cells #[.bool t1151, .int .u64 t1152, .int .u64 t1153] 43 (0, 0))) ∧ Aside0 (Below w.heap.size w wc))
   case first =>
    have H := HC49.out
    clear HC49
    by_cases c59 : t1155 = true
    ·subst c59
     replace H := zit H
     have H' := Aside0.mk H
     clear H
     obtain ⟨_, _, _, _, _, _, _, _⟩ := zs4 NB1154_1144 NB1154_1145 NB1154_1146 NB1154_1150
     obtain ⟨z64_0, z64_1, z64_2, f64_0, f64_1, f64_2⟩ := zq3 BK1154
     obtain ⟨_, _, _, _, _, _⟩ := zs3 NB1150_1144 NB1150_1145 NB1150_1146
     obtain ⟨z68_0, z68_1, z68_2, f68_0, f68_1, f68_2⟩ := zq3 BK1150
     go_wp2
     go_meet
     case rel => exact ⟨_, (t1152), H', ⟨by have := HJ4.out; first | omega | exact Nat.le_refl _⟩, ⟨(zkf (zkq BK1144) NB1144_1150.out _)⟩, ⟨(zkf (zkq BK1145) NB1145_1150.out _)⟩, ⟨(zkf (zkq BK1146) NB1146_1150.out _)⟩, ⟨(blk_put (zkq BK1150) 1 _ rfl)⟩, ⟨(zkf (zkq BK1154) NB1154_1150.out _)⟩, ⟨zaB⟩⟩
    replace c59 := Bool.eq_false_iff.mpr c59
    subst c59
    replace H := zif H
    have H' := Aside0.mk H
    clear H
    go_wp2
    go_meet
    case rel => exact ⟨_, (t1148), H', ⟨by have := HJ4.out; first | omega | exact Nat.le_refl _⟩, ⟨zkq BK1144⟩, ⟨zkq BK1145⟩, ⟨zkq BK1146⟩, ⟨zkq BK1150⟩, ⟨zkq BK1154⟩, ⟨zaB⟩⟩
   case rest =>
    clear HC49
    try clear c1
    try clear c2
    try clear p2
    try clear c3
    try clear c4
    try clear c5
    try clear c6
    try clear c9
    try clear c10
    try clear c11
    try clear c14
    try clear c15
    try clear c16
    try clear c18
    try clear c22
    try clear c23
    try clear c24
    try clear c25
    try clear c27
    try clear c28
    try clear c29
    try clear c30
    try clear c31
    try clear c33
    try clear c34
    try clear c35
    try clear c36
    try clear c38
    try clear c39
    try clear c40
    try clear c42
    try clear c43
    try clear c44
    try clear c45
    try clear c46
    try clear c48
    try clear c49
    try clear c50
    try clear c51
    try clear c52
    try clear c53
    try clear c55
    try clear c56
    try clear c57
    try clear c59
    try clear c60
    try clear c61
    try clear c62
    try clear c63
    try clear c65
    try clear c66
    try clear c67
    try clear z11_0 z11_1 z11_2 f11_0 f11_1 f11_2
    try clear z17_0 z17_1 z17_2 f17_0 f17_1 f17_2
    try clear z19_0 z19_1 z19_2 f19_0 f19_1 f19_2
    try clear z26_0 z26_1 z26_2 f26_0 f26_1 f26_2
    try clear z32_0 z32_1 z32_2 f32_0 f32_1 f32_2
    try clear z37_0 z37_1 z37_2 f37_0 f37_1 f37_2
    try clear z41_0 z41_1 z41_2 f41_0 f41_1 f41_2
    try clear z47_0 z47_1 z47_2 f47_0 f47_1 f47_2
    try clear z54_0 z54_1 z54_2 f54_0 f54_1 f54_2
    try clear z58_0 z58_1 z58_2 f58_0 f58_1 f58_2
    try clear z64_0 z64_1 z64_2 f64_0 f64_1 f64_2
    try clear z68_0 z68_1 z68_2 f68_0 f68_1 f68_2
    try clear p2
    obtain ⟨kq, x1151001_48, HA, HJ48, BK1144, BK1145, BK1146, BK1150, BK1154, HB⟩ := hcut
    cases kq with
    | zero => exact absurd HA.out (by simp [flyballref16_Meet.j1])
    | succ kj48 =>
     have H := HA.out
     clear HA
     simp only [flyballref16_Meet.j1] at H
     obtain ⟨t1156, A69, H⟩ := zbs H
     try dsimp only at H
     by_cases c70 : t1156 = true
     ·subst c70
      replace H := zit H
      obtain ⟨⟨t1157, t1158, t1159⟩, A71, H⟩ := zbs H
      try dsimp only at H
      simp only [Option.some.injEq, Prod.mk.injEq] at H
      obtain ⟨rfl, rfl, rfl⟩ := H
      obtain ⟨_, _, _, _, _, _, _, _⟩ := zs4 NB1154_1144 NB1154_1145 NB1154_1146 NB1154_1150
      obtain ⟨_, _, _, _, _, _⟩ := zq3 BK1154
      obtain ⟨_, _, _, _, _, _⟩ := zs3 NB1150_1144 NB1150_1145 NB1150_1146
      obtain ⟨_, _, _, _, _, _⟩ := zq3 BK1150
      go_wp2_with (first | ((with_reducible refine gtc 116 rfl ?_); refine zgL 30 Try.func116 (flyballref16_le.calls kj48 t1153 t1149 true _ A69.out) (h := ?_); rintro w' ⟨nd, rfl⟩; (try (rw [drewN_self wc]; generalize hq_ : World.drewN wc _ = wc; have n0_ : Aside0 (wc.heap[gb1144]? = some (.cells #[.bool a0_0, .int .u64 a0_1, .int .u64 a0_2] 43 (0, 0))) := ⟨by rw [← hq_]; exact (zkq BK1144)⟩; have n1_ : Aside0 (wc.heap[gb1145]? = some (.cells #[.bool a1_0, .int .u64 a1_1, .int .u64 a1_2] 43 (0, 0))) := ⟨by rw [← hq_]; exact (zkq BK1145)⟩; have n2_ : Aside0 (wc.heap[gb1146]? = some (.cells #[.bool false, .int .u64 0, .int .u64 0] 43 (0, 0))) := ⟨by rw [← hq_]; exact (zkq BK1146)⟩; have n3_ : Aside0 (wc.heap[gb1150]? = some (.cells #[.bool t1147, .int .u64 x1151001_48, .int .u64 t1149] 43 (0, 0))) := ⟨by rw [← hq_]; exact (zkq BK1150)⟩; have n4_ : Aside0 (wc.heap[gb1154]? = some (.cells #[.bool t1151, .int .u64 t1152, .int .u64 t1153] 43 (0, 0))) := ⟨by rw [← hq_]; exact (zkq BK1154)⟩; have n5_ : Aside0 (Below w.heap.size w wc) := ⟨by rw [← hq_]; exact zaB⟩; clear BK1144 BK1145 BK1146 BK1150 BK1154 HB hq_; have BK1144 := n0_; have BK1145 := n1_; have BK1146 := n2_; have BK1150 := n3_; have BK1154 := n4_; have HB := n5_; clear n0_ n1_ n2_ n3_ n4_ n5_; have hdq1144_0 := zc0 BK1144; have hdq1144_1 := zc1 BK1144; have hdq1144_2 := zc2 BK1144; have hdq1144_f := zfz BK1144; have hdq1145_0 := zc0 BK1145; have hdq1145_1 := zc1 BK1145; have hdq1145_2 := zc2 BK1145; have hdq1145_f := zfz BK1145; have hdq1146_0 := zc0 BK1146; have hdq1146_1 := zc1 BK1146; have hdq1146_2 := zc2 BK1146; have hdq1146_f := zfz BK1146; have hdq1150_0 := zc0 BK1150; have hdq1150_1 := zc1 BK1150; have hdq1150_2 := zc2 BK1150; have hdq1150_f := zfz BK1150; have hdq1154_0 := zc0 BK1154; have hdq1154_1 := zc1 BK1154; have hdq1154_2 := zc2 BK1154; have hdq1154_f := zfz BK1154))) | ((with_reducible refine gtc 49 rfl ?_); refine zgL 35 Try.func49 (flyballref16_Norm.calls kj48 t1147 x1151001_48 t1153 t1157 t1158 t1159 _ A71.out) (h := ?_); rintro w81 hb; replace BK1144 := Aside0.mk (blk_below (zkf BK1144.out NB1144_1150.out _) hb); replace BK1145 := Aside0.mk (blk_below (zkf BK1145.out NB1145_1150.out _) hb); replace BK1146 := Aside0.mk (blk_below (zkf BK1146.out NB1146_1150.out _) hb); replace BK1150 := Aside0.mk (blk_below (o := .cells #[.bool t1147, .int .u64 x1151001_48, .int .u64 t1153] 43 (0, 0)) (blk_put BK1150.out 2 _ rfl) hb); replace BK1154 := Aside0.mk (blk_below (zkf BK1154.out NB1154_1150.out _) hb); replace HB := Aside0.mk (below_step (below_set HB.out GW1150.out) hb); (try clear hb); obtain ⟨_, _, _, _⟩ := zs2 NB1146_1144 NB1146_1145; obtain ⟨_, _, _, _, _, _⟩ := zq3 BK1146))
      refine bodyPost_ret (results_cell_row rfl _ _ gb1146 43 #[.bool t1157, .int .u64 t1158, .int .u64 t1159] (0, 0) _ rfl (blk_put (cs := #[.bool t1157, .int .u64 t1158, .int .u64 0]) (blk_put (cs := #[.bool t1157, .int .u64 0, .int .u64 0]) (blk_put (zkq BK1146) 0 _ rfl) 1 _ rfl) 2 _ rfl) Try.underlying43 rfl (by kernel_rfl)) rfl ?_
      exact ⟨zaE, zaB⟩
     replace c70 := Bool.eq_false_iff.mpr c70
     subst c70
     replace H := zif H
     obtain ⟨⟨t1160, t1161, t1162⟩, A85, H⟩ := zbs H
     try dsimp only at H
     simp only [Option.some.injEq, Prod.mk.injEq] at H
     obtain ⟨rfl, rfl, rfl⟩ := H
     obtain ⟨_, _, _, _, _, _, _, _⟩ := zs4 NB1154_1144 NB1154_1145 NB1154_1146 NB1154_1150
     obtain ⟨_, _, _, _, _, _⟩ := zq3 BK1154
     obtain ⟨_, _, _, _, _, _⟩ := zs3 NB1150_1144 NB1150_1145 NB1150_1146
     obtain ⟨_, _, _, _, _, _⟩ := zq3 BK1150
     go_wp2_with (first | ((with_reducible refine gtc 116 rfl ?_); refine zgL 30 Try.func116 (flyballref16_le.calls kj48 t1153 t1149 false _ A69.out) (h := ?_); rintro w' ⟨nd, rfl⟩; (try (rw [drewN_self wc]; generalize hq_ : World.drewN wc _ = wc; have n0_ : Aside0 (wc.heap[gb1144]? = some (.cells #[.bool a0_0, .int .u64 a0_1, .int .u64 a0_2] 43 (0, 0))) := ⟨by rw [← hq_]; exact (zkq BK1144)⟩; have n1_ : Aside0 (wc.heap[gb1145]? = some (.cells #[.bool a1_0, .int .u64 a1_1, .int .u64 a1_2] 43 (0, 0))) := ⟨by rw [← hq_]; exact (zkq BK1145)⟩; have n2_ : Aside0 (wc.heap[gb1146]? = some (.cells #[.bool false, .int .u64 0, .int .u64 0] 43 (0, 0))) := ⟨by rw [← hq_]; exact (zkq BK1146)⟩; have n3_ : Aside0 (wc.heap[gb1150]? = some (.cells #[.bool t1147, .int .u64 x1151001_48, .int .u64 t1149] 43 (0, 0))) := ⟨by rw [← hq_]; exact (zkq BK1150)⟩; have n4_ : Aside0 (wc.heap[gb1154]? = some (.cells #[.bool t1151, .int .u64 t1152, .int .u64 t1153] 43 (0, 0))) := ⟨by rw [← hq_]; exact (zkq BK1154)⟩; have n5_ : Aside0 (Below w.heap.size w wc) := ⟨by rw [← hq_]; exact zaB⟩; clear BK1144 BK1145 BK1146 BK1150 BK1154 HB hq_; have BK1144 := n0_; have BK1145 := n1_; have BK1146 := n2_; have BK1150 := n3_; have BK1154 := n4_; have HB := n5_; clear n0_ n1_ n2_ n3_ n4_ n5_; have hdq1144_0 := zc0 BK1144; have hdq1144_1 := zc1 BK1144; have hdq1144_2 := zc2 BK1144; have hdq1144_f := zfz BK1144; have hdq1145_0 := zc0 BK1145; have hdq1145_1 := zc1 BK1145; have hdq1145_2 := zc2 BK1145; have hdq1145_f := zfz BK1145; have hdq1146_0 := zc0 BK1146; have hdq1146_1 := zc1 BK1146; have hdq1146_2 := zc2 BK1146; have hdq1146_f := zfz BK1146; have hdq1150_0 := zc0 BK1150; have hdq1150_1 := zc1 BK1150; have hdq1150_2 := zc2 BK1150; have hdq1150_f := zfz BK1150; have hdq1154_0 := zc0 BK1154; have hdq1154_1 := zc1 BK1154; have hdq1154_2 := zc2 BK1154; have hdq1154_f := zfz BK1154))) | ((with_reducible refine gtc 49 rfl ?_); refine zgL 35 Try.func49 (flyballref16_Norm.calls kj48 t1147 x1151001_48 t1149 t1160 t1161 t1162 _ A85.out) (h := ?_); rintro w95 hb; replace BK1144 := zkb BK1144 hb; replace BK1145 := zkb BK1145 hb; replace BK1146 := zkb BK1146 hb; replace BK1150 := zkb BK1150 hb; replace BK1154 := zkb BK1154 hb; replace HB := zkB HB hb; (try clear hb); obtain ⟨_, _, _, _⟩ := zs2 NB1146_1144 NB1146_1145; obtain ⟨_, _, _, _, _, _⟩ := zq3 BK1146))
     refine bodyPost_ret (results_cell_row rfl _ _ gb1146 43 #[.bool t1160, .int .u64 t1161, .int .u64 t1162] (0, 0) _ rfl (blk_put (cs := #[.bool t1160, .int .u64 t1161, .int .u64 0]) (blk_put (cs := #[.bool t1160, .int .u64 0, .int .u64 0]) (blk_put (zkq BK1146) 0 _ rfl) 1 _ rfl) 2 _ rfl) Try.underlying43 rfl (by kernel_rfl)) rfl ?_
     exact ⟨zaE, zaB⟩
theorem flyballref16_minus.calls (a0 : Int) (r : Int) (w : World) (h : flyballref16_minus.f a0 = some r) :
  Calls Try.prog 191 #[.int .u64 a0] w fun e w' => e = .returned (.int .u64 r) ∧ Drawn0 w w' := by
 have H : (some (Go.bits .xor .u64 a0 9223372036854775808)) = some r := h
 clear h
 obtain rfl := Option.some.inj H
 go_enter Try.func191, Try.ntmps191
 go_wp2
 go_ret
 exact ⟨by first | rfl | (simp; done) | (simp [*]; done), by repeat (first | exact Drawn0.refl _ | apply Drawn0.step)⟩
def flyballref16_Neg.T4 : Bool × List (List Nat × List Nat) := (true, [([], []), ([0], [0]), ([1], [1]), ([], []), ([3], [3]), ([4, 2], [4]), ([2, 5, 5], [2, 5]), ([6, 6, 0, 1, 2, 3, 4, 5, 6], [6])])
def flyballref16_Neg.B4 : List Nat := [0, 1, 3, 0, 8, 31, 63, 127]
theorem flyballref16_Neg.tab4 : rtab .any (opsOf Try.f167 4) = flyballref16_Neg.T4 := by kernel_rfl
theorem flyballref16_Neg.bits4 : waitsOk flyballref16_Neg.T4.2 flyballref16_Neg.B4 = true := by kernel_rfl
theorem flyballref16_Neg.calls (k : Nat) (a0_0 : Bool) (a0_1 : Int) (a0_2 : Int) (r1 : Bool) (r2 : Int) (r3 : Int) (w : World) (h : flyballref16_Neg.f k a0_0 a0_1 a0_2 = some (r1, r2, r3)) :
  Calls Try.prog 167 #[.agg #[.bool a0_0, .int .u64 a0_1, .int .u64 a0_2]] w fun e w' => e = .returned (.agg #[.bool r1, .int .u64 r2, .int .u64 r3]) ∧ Below w.heap.size w w' := by
 have hu43 := Try.underlying43
 have HB := Aside0.mk (Below.refl w.heap.size w)
 have H : ((flyballref16_Norm.f k a0_0 a0_1 a0_2).bind fun bt1165 => (if bt1165.1 = true then (some (bt1165.1, bt1165.2.1, bt1165.2.2)) else ((flyballref16_minus.f bt1165.2.2).bind fun t1169 => ((flyballref16_minus.f bt1165.2.1).bind fun t1170 => ((flyballref16_Make.f k t1169 t1170).bind fun bt1171 => (some (bt1171.1, bt1171.2.1, bt1171.2.2))))))) = some (r1, r2, r3) := h
 clear h
 obtain ⟨⟨t1165, t1166, t1167⟩, A2, H⟩ := zbs H
 try dsimp only at H
 by_cases c3 : t1165 = true
 ·subst c3
  replace H := zit H
  simp only [Option.some.injEq, Prod.mk.injEq] at H
  obtain ⟨rfl, rfl, rfl⟩ := H
  go_enter Try.func167, Try.ntmps167
  go_wp2_with (first | ((with_reducible refine gtd 1 rfl ?_); refine zbx 1 #[.bool a0_0, .int .u64 a0_1, .int .u64 a0_2] 43 (h := ?_); intro gb1163 hg w4 hbox hb; have GW1163 := zkZ hg (zaB (p := Below w.heap.size w _)); replace HB := Aside0.mk (below_step zaB hb); have BK1163 := Aside0.mk (hbox); clear hb hbox hg) | ((with_reducible refine gtd 2 rfl ?_); refine zbx 2 #[.bool false, .int .u64 0, .int .u64 0] 43 (h := ?_); intro gb1164 hg w5 hbox hb; have GW1164 := zkz HB hg; have NB1163_1164 := zkl BK1163 hg; have NB1164_1163 := zkr BK1163 hg; replace BK1163 := zkb BK1163 hb; replace HB := zkB HB hb; have BK1164 := Aside0.mk (hbox); clear hb hbox hg; obtain ⟨_, _⟩ := zsy NB1163_1164; obtain ⟨_, _, _, _, _, _⟩ := zq3 BK1163) | ((with_reducible refine gtc 49 rfl ?_); refine zgL 5 Try.func49 (flyballref16_Norm.calls k a0_0 a0_1 a0_2 true t1166 t1167 _ A2.out) (h := ?_); rintro w8 hb; replace BK1163 := zkb BK1163 hb; replace BK1164 := zkb BK1164 hb; replace HB := zkB HB hb; (try clear hb)) | ((with_reducible refine gtd 3 rfl ?_); refine zbx 3 #[.bool false, .int .u64 0, .int .u64 0] 43 (h := ?_); intro gb1168 hg w9 hbox hb; have GW1168 := zkz HB hg; have NB1163_1168 := zkl BK1163 hg; have NB1168_1163 := zkr BK1163 hg; have NB1164_1168 := zkl BK1164 hg; have NB1168_1164 := zkr BK1164 hg; replace BK1163 := zkb BK1163 hb; replace BK1164 := zkb BK1164 hb; replace HB := zkB HB hb; have BK1168 := Aside0.mk (hbox); clear hb hbox hg; obtain ⟨_, _, _, _⟩ := zs2 NB1168_1163 NB1168_1164; obtain ⟨_, _, _, _, _, _⟩ := zq3 BK1168; obtain ⟨_, _, _, _, _, _⟩ := zq3 BK1164))
  refine bodyPost_ret (results_cell_row rfl _ _ gb1164 43 #[.bool true, .int .u64 t1166, .int .u64 t1167] (0, 0) _ rfl (blk_put (cs := #[.bool true, .int .u64 t1166, .int .u64 0]) (blk_put (cs := #[.bool true, .int .u64 0, .int .u64 0]) (blk_put (zkf (zkf (zkf (zkq BK1164) NB1164_1168.out _) NB1164_1168.out _) NB1164_1168.out _) 0 _ rfl) 1 _ rfl) 2 _ rfl) Try.underlying43 rfl (by kernel_rfl)) rfl ?_
  exact ⟨zaE, zaB⟩
 replace c3 := Bool.eq_false_iff.mpr c3
 subst c3
 replace H := zif H
 obtain ⟨t1169, A14, H⟩ := zbs H
 try dsimp only at H
 obtain ⟨t1170, A15, H⟩ := zbs H
 try dsimp only at H
 obtain ⟨⟨t1171, t1172, t1173⟩, A16, H⟩ := zbs H
 try dsimp only at H
 simp only [Option.some.injEq, Prod.mk.injEq] at H
 obtain ⟨rfl, rfl, rfl⟩ := H
 go_enter Try.func167, Try.ntmps167
 try go_wp2_with (first | ((with_reducible refine gtd 1 rfl ?_); refine zbx 1 #[.bool a0_0, .int .u64 a0_1, .int .u64 a0_2] 43 (h := ?_); intro gb1163 hg w17 hbox hb; have GW1163 := zkZ hg (zaB (p := Below w.heap.size w _)); replace HB := Aside0.mk (below_step zaB hb); have BK1163 := Aside0.mk (hbox); clear hb hbox hg) | ((with_reducible refine gtd 2 rfl ?_); refine zbx 2 #[.bool false, .int .u64 0, .int .u64 0] 43 (h := ?_); intro gb1164 hg w18 hbox hb; have GW1164 := zkz HB hg; have NB1163_1164 := zkl BK1163 hg; have NB1164_1163 := zkr BK1163 hg; replace BK1163 := zkb BK1163 hb; replace HB := zkB HB hb; have BK1164 := Aside0.mk (hbox); clear hb hbox hg; obtain ⟨_, _⟩ := zsy NB1163_1164; obtain ⟨_, _, _, _, _, _⟩ := zq3 BK1163) | ((with_reducible refine gtc 49 rfl ?_); refine zgL 5 Try.func49 (flyballref16_Norm.calls k a0_0 a0_1 a0_2 false t1166 t1167 _ A2.out) (h := ?_); rintro w21 hb; replace BK1163 := zkb BK1163 hb; replace BK1164 := zkb BK1164 hb; replace HB := zkB HB hb; (try clear hb)) | ((with_reducible refine gtd 3 rfl ?_); refine zbx 3 #[.bool false, .int .u64 0, .int .u64 0] 43 (h := ?_); intro gb1168 hg w22 hbox hb; have GW1168 := zkz HB hg; have NB1163_1168 := zkl BK1163 hg; have NB1168_1163 := zkr BK1163 hg; have NB1164_1168 := zkl BK1164 hg; have NB1168_1164 := zkr BK1164 hg; replace BK1163 := zkb BK1163 hb; replace BK1164 := zkb BK1164 hb; replace HB := zkB HB hb; have BK1168 := Aside0.mk (hbox); clear hb hbox hg; obtain ⟨_, _, _, _⟩ := zs2 NB1168_1163 NB1168_1164; obtain ⟨_, _, _, _, _, _⟩ := zq3 BK1168))
 generalize hW_ : (((w22.setCell ⟨gb1168, 0, none⟩ (.bool false)).setCell ⟨gb1168, 1, none⟩ (.int .u64 t1166)).setCell ⟨gb1168, 2, none⟩ (.int .u64 t1167)) = w26
 replace BK1163 := zkg hW_ (zkf (zkf (zkf BK1163.out NB1163_1168.out _) NB1163_1168.out _) NB1163_1168.out _)
 replace BK1164 := zkg hW_ (zkf (zkf (zkf BK1164.out NB1164_1168.out _) NB1164_1168.out _) NB1164_1168.out _)
 replace BK1168 := zkg hW_ (ob := .cells #[.bool false, .int .u64 t1166, .int .u64 t1167] 43 (0, 0)) (blk_put (cs := #[.bool false, .int .u64 t1166, .int .u64 0]) (blk_put (cs := #[.bool false, .int .u64 0, .int .u64 0]) (blk_put BK1168.out 0 _ rfl) 1 _ rfl) 2 _ rfl)
 replace HB := zkG hW_ (below_set (below_set (below_set HB.out GW1168.out) GW1168.out) GW1168.out)
 clear hW_
 replace BK1163 := Aside0.mk (blk_drew BK1163.out)
 replace BK1164 := Aside0.mk (blk_drew BK1164.out)
 replace BK1168 := Aside0.mk (blk_drew BK1168.out)
 replace HB := Aside0.mk (below_drew1 HB.out)
 refine start_ (n := 8) (S := fun w' => w'.cell? ⟨gb1168, 0, none⟩ = some (.bool false) ∧ w'.cell? ⟨gb1168, 1, none⟩ = some (.int .u64 t1166) ∧ w'.cell? ⟨gb1168, 2, none⟩ = some (.int .u64 t1167)) (ds := []) #[false, false, false, false, false, false, false, false] (by kernel_rfl) rfl rfl (ze3 BK1168) (fun hHeld => ?_); refine with_tabW flyballref16_Neg.tab4 flyballref16_Neg.bits4 (fun HT_ HW_ => ?_)
 generalize w26.drew = w27 at BK1163 BK1164 BK1168 HB hHeld ⊢
 refine zpA 0 9 (h := ?_)
 refine zpA 3 12 (h := ?_)
 refine ztA 1 10 (h := ?_)
 refine ztA 4 13 (h := ?_)
 refine zoA 2 11 (h := fun K hK => ?_)
 refine zgA Try.func191 (flyballref16_minus.calls t1167 t1169 _ A14.out) (h := ?_)
 rintro w' ⟨nd, rfl⟩
 refine hK.out _ _ (ze3 BK1168) (fun hHeld => ?_)
 clear hK K
 refine znA 11 (h := ?_)
 refine zoA 5 14 (h := fun K hK => ?_)
 refine zgA Try.func191 (flyballref16_minus.calls t1166 t1170 _ A15.out) (h := ?_)
 rintro w' ⟨nd, rfl⟩
 refine hK.out _ _ (ze3 BK1168) (fun hHeld => ?_)
 clear hK K
 refine znA 14 (h := ?_)
 refine zoA 6 15 (h := fun K hK => ?_)
 refine zgA Try.func38 (flyballref16_Make.calls k t1169 t1170 t1171 t1172 t1173 _ A16.out) (h := ?_)
 rintro w28 hb
 replace BK1163 := zkb BK1163 hb
 replace BK1164 := zkb BK1164 hb
 replace BK1168 := zkb BK1168 hb
 replace HB := zkB HB hb
 (try clear hb)
 refine hK.out _ _ (ze3 BK1168) (fun hHeld => ?_)
 clear hK K
 refine znA 15 (h := ?_)
 refine one_ (i := 7) (N := none) #[true, true, true, true, true, true, true, true] rfl rfl (one_of HT_.out (by kernel_rfl)) (by decide) (fun K hK => ?_)
 have hs29 := zc0 BK1164
 have hfs29 := blk_frozen BK1164.out 0
 obtain ⟨_, _, _, _⟩ := zs2 NB1163_1164 NB1168_1164
 have hs30 := zc1 BK1164
 have hfs30 := blk_frozen BK1164.out 1
 obtain ⟨_, _, _, _⟩ := zs2 NB1163_1164 NB1168_1164
 have hs31 := zc2 BK1164
 have hfs31 := blk_frozen BK1164.out 2
 obtain ⟨_, _, _, _⟩ := zs2 NB1163_1164 NB1168_1164
 refine skip_ (w1 := ?_) (by rfl) rfl ?_ ?_
 rotate_left
 ·go_simp
  rfl
 refine hK.out _ _ ⟨(zff NB1168_1164 (zff NB1168_1164 (zff NB1168_1164 hHeld.1))), (zff NB1168_1164 (zff NB1168_1164 (zff NB1168_1164 hHeld.2.1))), (zff NB1168_1164 (zff NB1168_1164 (zff NB1168_1164 hHeld.2.2)))⟩ (fun hHeld => ?_)
 clear hK K
 refine done_ (done_of HT_.out (by kernel_rfl)) ?_
 try go_wp2
 refine bodyPost_ret (results_cell_row rfl _ _ gb1164 43 #[.bool t1171, .int .u64 t1172, .int .u64 t1173] (0, 0) _ rfl (blk_put (cs := #[.bool t1171, .int .u64 t1172, .int .u64 0]) (blk_put (cs := #[.bool t1171, .int .u64 0, .int .u64 0]) (blk_put (zkq BK1164) 0 _ rfl) 1 _ rfl) 2 _ rfl) Try.underlying43 rfl (by kernel_rfl)) rfl ?_
 exact ⟨zaE, zaB⟩
theorem flyballref16_Abs.calls (k : Nat) (a0_0 : Bool) (a0_1 : Int) (a0_2 : Int) (r1 : Bool) (r2 : Int) (r3 : Int) (w : World) (h : flyballref16_Abs.f k a0_0 a0_1 a0_2 = some (r1, r2, r3)) :
  Calls Try.prog 121 #[.agg #[.bool a0_0, .int .u64 a0_1, .int .u64 a0_2]] w fun e w' => e = .returned (.agg #[.bool r1, .int .u64 r2, .int .u64 r3]) ∧ Below w.heap.size w w' := by
 have hu43 := Try.underlying43
 have HB := Aside0.mk (Below.refl w.heap.size w)
 have H : ((flyballref16_Norm.f k a0_0 a0_1 a0_2).bind fun bt1176 => (if bt1176.1 = true then (flyballref16_Abs.j0 k true bt1176.1 bt1176.2.1 bt1176.2.2) else ((flyballref16_le.f k 0 bt1176.2.1).bind fun t1180 => (flyballref16_Abs.j0 k t1180 bt1176.1 bt1176.2.1 bt1176.2.2)))) = some (r1, r2, r3) := h
 clear h
 obtain ⟨⟨t1176, t1177, t1178⟩, A2, H⟩ := zbs H
 try dsimp only at H
 have HC3 := Aside0.mk H
 clear H
 go_enter Try.func121, Try.ntmps121
 go_upto_region 2 with (first | ((with_reducible refine gtd 1 rfl ?_); refine zbx 1 #[.bool a0_0, .int .u64 a0_1, .int .u64 a0_2] 43 (h := ?_); intro gb1174 hg w4 hbox hb; have GW1174 := zkZ hg (zaB (p := Below w.heap.size w _)); replace HB := Aside0.mk (below_step zaB hb); have BK1174 := Aside0.mk (hbox); clear hb hbox hg) | ((with_reducible refine gtd 2 rfl ?_); refine zbx 2 #[.bool false, .int .u64 0, .int .u64 0] 43 (h := ?_); intro gb1175 hg w5 hbox hb; have GW1175 := zkz HB hg; have NB1174_1175 := zkl BK1174 hg; have NB1175_1174 := zkr BK1174 hg; replace BK1174 := zkb BK1174 hb; replace HB := zkB HB hb; have BK1175 := Aside0.mk (hbox); clear hb hbox hg; obtain ⟨_, _⟩ := zsy NB1174_1175; obtain ⟨z7_0, z7_1, z7_2, f7_0, f7_1, f7_2⟩ := zq3 BK1174) | ((with_reducible refine gtc 49 rfl ?_); refine zgL 7 Try.func49 (flyballref16_Norm.calls k a0_0 a0_1 a0_2 t1176 t1177 t1178 _ A2.out) (h := ?_); rintro w8 hb; replace BK1174 := zkb BK1174 hb; replace BK1175 := zkb BK1175 hb; replace HB := zkB HB hb; (try clear hb)) | ((with_reducible refine gtd 3 rfl ?_); refine zbx 3 #[.bool false, .int .u64 0, .int .u64 0] 43 (h := ?_); intro gb1179 hg w9 hbox hb; have GW1179 := zkz HB hg; have NB1174_1179 := zkl BK1174 hg; have NB1179_1174 := zkr BK1174 hg; have NB1175_1179 := zkl BK1175 hg; have NB1179_1175 := zkr BK1175 hg; replace BK1174 := zkb BK1174 hb; replace BK1175 := zkb BK1175 hb; replace HB := zkB HB hb; have BK1179 := Aside0.mk (hbox); clear hb hbox hg; obtain ⟨_, _, _, _⟩ := zs2 NB1179_1174 NB1179_1175; obtain ⟨z12_0, z12_1, z12_2, f12_0, f12_1, f12_2⟩ := zq3 BK1179))
 (try simp only [Act.put, List.setIfInBounds_toArray, List.set_cons_zero, List.set_cons_succ])
 go_cut [14] (fun v14 wc => ∃ (kq : Nat) (x14_2 : Bool), v14 = .bool x14_2 ∧ Aside0 (flyballref16_Abs.j0 kq x14_2 t1176 t1177 t1178 = some (r1, r2, r3)) ∧ Aside0 (kq ≤ k) ∧ Aside0 (wc.heap[gb1174]? = some (.cells #[.bool a0_0, .int .u64 a0_1, .int .u64 a0_2] 43 (0, 0))) ∧ Aside0 (wc.heap[gb1175]? = some (.cells #[.bool false, .int .u64 0, .int .u64 0] 43 (0, 0))) ∧ Aside0 (wc.heap[gb1179]? = some (.cells #[.bool t1176, .int .u64 t1177, .int .u64 t1178] 43 (0, 0))) ∧ Aside0 (Below w.heap.size w wc))
 case first =>
  have H := HC3.out
  clear HC3
  by_cases c13 : t1176 = true
  ·subst c13
   replace H := zit H
   have H' := Aside0.mk H
   clear H
   obtain ⟨_, _, _, _⟩ := zs2 NB1179_1174 NB1179_1175
   obtain ⟨z16_0, z16_1, z16_2, f16_0, f16_1, f16_2⟩ := zq3 BK1179
   go_wp2
   go_meet
   case rel => exact ⟨_, (true), zrl, H', ⟨zle⟩, ⟨(by (with_reducible repeat (first | refine blk_drewN ?_ _ | refine blk_drew ?_ | refine blk_alloc ?_ _)); refine blk_far ?_ NB1174_1179.out _; (with_reducible repeat (first | refine blk_drewN ?_ _ | refine blk_drew ?_ | refine blk_alloc ?_ _)); refine blk_far ?_ NB1174_1179.out _; (with_reducible repeat (first | refine blk_drewN ?_ _ | refine blk_drew ?_ | refine blk_alloc ?_ _)); refine blk_far ?_ NB1174_1179.out _; (with_reducible repeat (first | refine blk_drewN ?_ _ | refine blk_drew ?_ | refine blk_alloc ?_ _)); exact BK1174.out)⟩, ⟨(by (with_reducible repeat (first | refine blk_drewN ?_ _ | refine blk_drew ?_ | refine blk_alloc ?_ _)); refine blk_far ?_ NB1175_1179.out _; (with_reducible repeat (first | refine blk_drewN ?_ _ | refine blk_drew ?_ | refine blk_alloc ?_ _)); refine blk_far ?_ NB1175_1179.out _; (with_reducible repeat (first | refine blk_drewN ?_ _ | refine blk_drew ?_ | refine blk_alloc ?_ _)); refine blk_far ?_ NB1175_1179.out _; (with_reducible repeat (first | refine blk_drewN ?_ _ | refine blk_drew ?_ | refine blk_alloc ?_ _)); exact BK1175.out)⟩, ⟨(by (with_reducible repeat (first | refine blk_drewN ?_ _ | refine blk_drew ?_ | refine blk_alloc ?_ _)); refine blk_put (cs := #[.bool true, .int .u64 t1177, .int .u64 0]) ?_ 2 _ rfl; (with_reducible repeat (first | refine blk_drewN ?_ _ | refine blk_drew ?_ | refine blk_alloc ?_ _)); refine blk_put (cs := #[.bool true, .int .u64 0, .int .u64 0]) ?_ 1 _ rfl; (with_reducible repeat (first | refine blk_drewN ?_ _ | refine blk_drew ?_ | refine blk_alloc ?_ _)); refine blk_put (cs := #[.bool false, .int .u64 0, .int .u64 0]) ?_ 0 _ rfl; (with_reducible repeat (first | refine blk_drewN ?_ _ | refine blk_drew ?_ | refine blk_alloc ?_ _)); exact BK1179.out)⟩, ⟨zaB⟩⟩
  replace c13 := Bool.eq_false_iff.mpr c13
  subst c13
  replace H := zif H
  obtain ⟨t1180, A17, H⟩ := zbs H
  try dsimp only at H
  have H' := Aside0.mk H
  clear H
  obtain ⟨_, _, _, _⟩ := zs2 NB1179_1174 NB1179_1175
  obtain ⟨z20_0, z20_1, z20_2, f20_0, f20_1, f20_2⟩ := zq3 BK1179
  go_wp2_with (first | (go_at_call 116; (with_reducible refine (flyballref16_le.calls k 0 t1177 t1180 _ A17.out).mono ?_); rintro e w' ⟨rfl, ⟨nd, rfl⟩⟩))
  go_meet
  case rel => exact ⟨_, (t1180), zrl, H', ⟨zle⟩, ⟨(by (with_reducible repeat (first | refine blk_drewN ?_ _ | refine blk_drew ?_ | refine blk_alloc ?_ _)); refine blk_far ?_ NB1174_1179.out _; (with_reducible repeat (first | refine blk_drewN ?_ _ | refine blk_drew ?_ | refine blk_alloc ?_ _)); refine blk_far ?_ NB1174_1179.out _; (with_reducible repeat (first | refine blk_drewN ?_ _ | refine blk_drew ?_ | refine blk_alloc ?_ _)); refine blk_far ?_ NB1174_1179.out _; (with_reducible repeat (first | refine blk_drewN ?_ _ | refine blk_drew ?_ | refine blk_alloc ?_ _)); exact BK1174.out)⟩, ⟨(by (with_reducible repeat (first | refine blk_drewN ?_ _ | refine blk_drew ?_ | refine blk_alloc ?_ _)); refine blk_far ?_ NB1175_1179.out _; (with_reducible repeat (first | refine blk_drewN ?_ _ | refine blk_drew ?_ | refine blk_alloc ?_ _)); refine blk_far ?_ NB1175_1179.out _; (with_reducible repeat (first | refine blk_drewN ?_ _ | refine blk_drew ?_ | refine blk_alloc ?_ _)); refine blk_far ?_ NB1175_1179.out _; (with_reducible repeat (first | refine blk_drewN ?_ _ | refine blk_drew ?_ | refine blk_alloc ?_ _)); exact BK1175.out)⟩, ⟨(by (with_reducible repeat (first | refine blk_drewN ?_ _ | refine blk_drew ?_ | refine blk_alloc ?_ _)); refine blk_put (cs := #[.bool false, .int .u64 t1177, .int .u64 0]) ?_ 2 _ rfl; (with_reducible repeat (first | refine blk_drewN ?_ _ | refine blk_drew ?_ | refine blk_alloc ?_ _)); refine blk_put (cs := #[.bool false, .int .u64 0, .int .u64 0]) ?_ 1 _ rfl; (with_reducible repeat (first | refine blk_drewN ?_ _ | refine blk_drew ?_ | refine blk_alloc ?_ _)); refine blk_put (cs := #[.bool false, .int .u64 0, .int .u64 0]) ?_ 0 _ rfl; (with_reducible repeat (first | refine blk_drewN ?_ _ | refine blk_drew ?_ | refine blk_alloc ?_ _)); exact BK1179.out)⟩, ⟨zaB⟩⟩
 case rest =>
  clear HC3
  try clear c1
  try clear p2
  try clear c4
  try clear c6
  try clear c10
  try clear c11
  try clear c12
  try clear c13
  try clear c14
  try clear c15
  try clear c18
  try clear c19
  try clear z12_0 z12_1 z12_2 f12_0 f12_1 f12_2
  try clear z16_0 z16_1 z16_2 f16_0 f16_1 f16_2
  try clear z20_0 z20_1 z20_2 f20_0 f20_1 f20_2
  try clear z7_0 z7_1 z7_2 f7_0 f7_1 f7_2
  obtain ⟨kq, x14_2, rfl, HA, HJ2, BK1174, BK1175, BK1179, HB⟩ := hcut
  cases kq with
  | zero => exact absurd HA.out (by simp [flyballref16_Abs.j0])
  | succ kj2 =>
   have H := HA.out
   clear HA
   simp only [flyballref16_Abs.j0] at H
   by_cases c21 : x14_2 = true
   ·subst c21
    replace H := zit H
    simp only [Option.some.injEq, Prod.mk.injEq] at H
    obtain ⟨rfl, rfl, rfl⟩ := H
    obtain ⟨_, _, _, _⟩ := zs2 NB1179_1174 NB1179_1175
    obtain ⟨_, _, _, _, _, _⟩ := zq3 BK1179
    obtain ⟨_, _⟩ := zsy NB1175_1174
    obtain ⟨_, _, _, _, _, _⟩ := zq3 BK1175
    go_wp2
    refine bodyPost_ret (results_cell_row rfl _ _ gb1175 43 #[.bool t1176, .int .u64 t1177, .int .u64 t1178] (0, 0) _ rfl (by (with_reducible repeat (first | refine blk_drewN ?_ _ | refine blk_drew ?_ | refine blk_alloc ?_ _)); refine blk_put (cs := #[.bool t1176, .int .u64 t1177, .int .u64 0]) ?_ 2 _ rfl; (with_reducible repeat (first | refine blk_drewN ?_ _ | refine blk_drew ?_ | refine blk_alloc ?_ _)); refine blk_put (cs := #[.bool t1176, .int .u64 0, .int .u64 0]) ?_ 1 _ rfl; (with_reducible repeat (first | refine blk_drewN ?_ _ | refine blk_drew ?_ | refine blk_alloc ?_ _)); refine blk_put (cs := #[.bool false, .int .u64 0, .int .u64 0]) ?_ 0 _ rfl; (with_reducible repeat (first | refine blk_drewN ?_ _ | refine blk_drew ?_ | refine blk_alloc ?_ _)); exact BK1175.out) Try.underlying43 rfl (by kernel_rfl)) rfl ?_
    exact ⟨zaE, zaB⟩
   replace c21 := Bool.eq_false_iff.mpr c21
   subst c21
   replace H := zif H
   obtain ⟨⟨t1181, t1182, t1183⟩, A27, H⟩ := zbs H
   try dsimp only at H
   obtain ⟨t1185, A28, H⟩ := zbs H
   try dsimp only at H
   by_cases c29 : t1185 = true
   ·subst c29
    replace H := zit H
    simp only [Option.some.injEq, Prod.mk.injEq] at H
    obtain ⟨rfl, rfl, rfl⟩ := H
    obtain ⟨_, _, _, _⟩ := zs2 NB1179_1174 NB1179_1175
    obtain ⟨_, _, _, _, _, _⟩ := zq3 BK1179
    go_wp2_with (first | ((with_reducible refine gtc 167 rfl ?_); refine zgL 17 Try.func167 (flyballref16_Neg.calls kj2 t1176 t1177 t1178 t1181 t1182 t1183 _ A27.out) (h := ?_); rintro w33 hb; replace BK1174 := zkb BK1174 hb; replace BK1175 := zkb BK1175 hb; replace BK1179 := zkb BK1179 hb; replace HB := zkB HB hb; (try clear hb)) | ((with_reducible refine gtd 4 rfl ?_); refine zbx 4 #[.bool false, .int .u64 0, .int .u64 0] 43 (h := ?_); intro gb1184 hg w34 hbox hb; have GW1184 := zkz HB hg; have NB1174_1184 := zkl BK1174 hg; have NB1184_1174 := zkr BK1174 hg; have NB1175_1184 := zkl BK1175 hg; have NB1184_1175 := zkr BK1175 hg; have NB1179_1184 := zkl BK1179 hg; have NB1184_1179 := zkr BK1179 hg; replace BK1174 := zkb BK1174 hb; replace BK1175 := zkb BK1175 hb; replace BK1179 := zkb BK1179 hb; replace HB := zkB HB hb; have BK1184 := Aside0.mk (hbox); clear hb hbox hg; obtain ⟨_, _, _, _, _, _⟩ := zs3 NB1184_1174 NB1184_1175 NB1184_1179; obtain ⟨_, _, _, _, _, _⟩ := zq3 BK1184; obtain ⟨_, _, _, _, _, _⟩ := zq3 BK1179) | ((with_reducible refine gtc 116 rfl ?_); refine zgL 20 Try.func116 (flyballref16_le.calls kj2 t1178 0 true _ A28.out) (h := ?_); rintro w' ⟨nd, rfl⟩; obtain ⟨_, _⟩ := zsy NB1175_1174; obtain ⟨_, _, _, _, _, _⟩ := zq3 BK1175))
    refine bodyPost_ret (results_cell_row rfl _ _ gb1175 43 #[.bool t1181, .int .u64 t1182, .int .u64 t1183] (0, 0) _ rfl (by (with_reducible repeat (first | refine blk_drewN ?_ _ | refine blk_drew ?_ | refine blk_alloc ?_ _)); refine blk_put (cs := #[.bool t1181, .int .u64 t1182, .int .u64 0]) ?_ 2 _ rfl; (with_reducible repeat (first | refine blk_drewN ?_ _ | refine blk_drew ?_ | refine blk_alloc ?_ _)); refine blk_put (cs := #[.bool t1181, .int .u64 0, .int .u64 0]) ?_ 1 _ rfl; (with_reducible repeat (first | refine blk_drewN ?_ _ | refine blk_drew ?_ | refine blk_alloc ?_ _)); refine blk_put (cs := #[.bool false, .int .u64 0, .int .u64 0]) ?_ 0 _ rfl; (with_reducible repeat (first | refine blk_drewN ?_ _ | refine blk_drew ?_ | refine blk_alloc ?_ _)); refine blk_far ?_ NB1175_1184.out _; (with_reducible repeat (first | refine blk_drewN ?_ _ | refine blk_drew ?_ | refine blk_alloc ?_ _)); refine blk_far ?_ NB1175_1184.out _; (with_reducible repeat (first | refine blk_drewN ?_ _ | refine blk_drew ?_ | refine blk_alloc ?_ _)); refine blk_far ?_ NB1175_1184.out _; (with_reducible repeat (first | refine blk_drewN ?_ _ | refine blk_drew ?_ | refine blk_alloc ?_ _)); exact BK1175.out) Try.underlying43 rfl (by kernel_rfl)) rfl ?_
    exact ⟨zaE, zaB⟩
   replace c29 := Bool.eq_false_iff.mpr c29
   subst c29
   replace H := zif H
   obtain ⟨⟨t1186, t1187, t1188⟩, A42, H⟩ := zbs H
   try dsimp only at H
   obtain ⟨⟨t1190, t1191, t1192⟩, A43, H⟩ := zbs H
   try dsimp only at H
   simp only [Option.some.injEq, Prod.mk.injEq] at H
   obtain ⟨rfl, rfl, rfl⟩ := H
   obtain ⟨_, _, _, _⟩ := zs2 NB1179_1174 NB1179_1175
   obtain ⟨_, _, _, _, _, _⟩ := zq3 BK1179
   go_wp2_with (first | ((with_reducible refine gtc 167 rfl ?_); refine zgL 17 Try.func167 (flyballref16_Neg.calls kj2 t1176 t1177 t1178 t1181 t1182 t1183 _ A27.out) (h := ?_); rintro w47 hb; replace BK1174 := zkb BK1174 hb; replace BK1175 := zkb BK1175 hb; replace BK1179 := zkb BK1179 hb; replace HB := zkB HB hb; (try clear hb)) | ((with_reducible refine gtd 4 rfl ?_); refine zbx 4 #[.bool false, .int .u64 0, .int .u64 0] 43 (h := ?_); intro gb1184 hg w48 hbox hb; have GW1184 := zkz HB hg; have NB1174_1184 := zkl BK1174 hg; have NB1184_1174 := zkr BK1174 hg; have NB1175_1184 := zkl BK1175 hg; have NB1184_1175 := zkr BK1175 hg; have NB1179_1184 := zkl BK1179 hg; have NB1184_1179 := zkr BK1179 hg; replace BK1174 := zkb BK1174 hb; replace BK1175 := zkb BK1175 hb; replace BK1179 := zkb BK1179 hb; replace HB := zkB HB hb; have BK1184 := Aside0.mk (hbox); clear hb hbox hg; obtain ⟨_, _, _, _, _, _⟩ := zs3 NB1184_1174 NB1184_1175 NB1184_1179; obtain ⟨_, _, _, _, _, _⟩ := zq3 BK1184; obtain ⟨_, _, _, _, _, _⟩ := zq3 BK1179) | ((with_reducible refine gtc 116 rfl ?_); refine zgL 20 Try.func116 (flyballref16_le.calls kj2 t1178 0 false _ A28.out) (h := ?_); rintro w' ⟨nd, rfl⟩) | ((with_reducible refine gtc 46 rfl ?_); refine zgL 24 Try.func46 (flyballref16_Join.calls kj2 t1176 t1177 t1178 t1181 t1182 t1183 t1186 t1187 t1188 _ A42.out) (h := ?_); rintro w54 hb; replace BK1174 := Aside0.mk (blk_below (g := gb1174) (o := .cells #[.bool a0_0, .int .u64 a0_1, .int .u64 a0_2] 43 (0, 0)) (by (with_reducible repeat (first | refine blk_drewN ?_ _ | refine blk_drew ?_ | refine blk_alloc ?_ _)); refine blk_far ?_ NB1174_1184.out _; (with_reducible repeat (first | refine blk_drewN ?_ _ | refine blk_drew ?_ | refine blk_alloc ?_ _)); refine blk_far ?_ NB1174_1184.out _; (with_reducible repeat (first | refine blk_drewN ?_ _ | refine blk_drew ?_ | refine blk_alloc ?_ _)); refine blk_far ?_ NB1174_1184.out _; (with_reducible repeat (first | refine blk_drewN ?_ _ | refine blk_drew ?_ | refine blk_alloc ?_ _)); exact BK1174.out) hb); replace BK1175 := Aside0.mk (blk_below (g := gb1175) (o := .cells #[.bool false, .int .u64 0, .int .u64 0] 43 (0, 0)) (by (with_reducible repeat (first | refine blk_drewN ?_ _ | refine blk_drew ?_ | refine blk_alloc ?_ _)); refine blk_far ?_ NB1175_1184.out _; (with_reducible repeat (first | refine blk_drewN ?_ _ | refine blk_drew ?_ | refine blk_alloc ?_ _)); refine blk_far ?_ NB1175_1184.out _; (with_reducible repeat (first | refine blk_drewN ?_ _ | refine blk_drew ?_ | refine blk_alloc ?_ _)); refine blk_far ?_ NB1175_1184.out _; (with_reducible repeat (first | refine blk_drewN ?_ _ | refine blk_drew ?_ | refine blk_alloc ?_ _)); exact BK1175.out) hb); replace BK1179 := Aside0.mk (blk_below (g := gb1179) (o := .cells #[.bool t1176, .int .u64 t1177, .int .u64 t1178] 43 (0, 0)) (by (with_reducible repeat (first | refine blk_drewN ?_ _ | refine blk_drew ?_ | refine blk_alloc ?_ _)); refine blk_far ?_ NB1179_1184.out _; (with_reducible repeat (first | refine blk_drewN ?_ _ | refine blk_drew ?_ | refine blk_alloc ?_ _)); refine blk_far ?_ NB1179_1184.out _; (with_reducible repeat (first | refine blk_drewN ?_ _ | refine blk_drew ?_ | refine blk_alloc ?_ _)); refine blk_far ?_ NB1179_1184.out _; (with_reducible repeat (first | refine blk_drewN ?_ _ | refine blk_drew ?_ | refine blk_alloc ?_ _)); exact BK1179.out) hb); replace BK1184 := Aside0.mk (blk_below (g := gb1184) (o := .cells #[.bool t1181, .int .u64 t1182, .int .u64 t1183] 43 (0, 0)) (by (with_reducible repeat (first | refine blk_drewN ?_ _ | refine blk_drew ?_ | refine blk_alloc ?_ _)); refine blk_put (cs := #[.bool t1181, .int .u64 t1182, .int .u64 0]) ?_ 2 _ rfl; (with_reducible repeat (first | refine blk_drewN ?_ _ | refine blk_drew ?_ | refine blk_alloc ?_ _)); refine blk_put (cs := #[.bool t1181, .int .u64 0, .int .u64 0]) ?_ 1 _ rfl; (with_reducible repeat (first | refine blk_drewN ?_ _ | refine blk_drew ?_ | refine blk_alloc ?_ _)); refine blk_put (cs := #[.bool false, .int .u64 0, .int .u64 0]) ?_ 0 _ rfl; (with_reducible repeat (first | refine blk_drewN ?_ _ | refine blk_drew ?_ | refine blk_alloc ?_ _)); exact BK1184.out) hb); replace HB := Aside0.mk (below_step zaB hb); (try clear hb)) | ((with_reducible refine gtd 5 rfl ?_); refine zbx 5 #[.bool false, .int .u64 0, .int .u64 0] 43 (h := ?_); intro gb1189 hg w55 hbox hb; have GW1189 := zkz HB hg; have NB1174_1189 := zkl BK1174 hg; have NB1189_1174 := zkr BK1174 hg; have NB1175_1189 := zkl BK1175 hg; have NB1189_1175 := zkr BK1175 hg; have NB1179_1189 := zkl BK1179 hg; have NB1189_1179 := zkr BK1179 hg; have NB1184_1189 := zkl BK1184 hg; have NB1189_1184 := zkr BK1184 hg; replace BK1174 := zkb BK1174 hb; replace BK1175 := zkb BK1175 hb; replace BK1179 := zkb BK1179 hb; replace BK1184 := zkb BK1184 hb; replace HB := zkB HB hb; have BK1189 := Aside0.mk (hbox); clear hb hbox hg; obtain ⟨_, _, _, _, _, _, _, _⟩ := zs4 NB1189_1174 NB1189_1175 NB1189_1179 NB1189_1184; obtain ⟨_, _, _, _, _, _⟩ := zq3 BK1189) | ((with_reducible refine gtc 38 rfl ?_); refine zgL 27 Try.func38 (flyballref16_Make.calls kj2 0 t1188 t1190 t1191 t1192 _ A43.out) (h := ?_); rintro w61 hb; replace BK1174 := Aside0.mk (blk_below (g := gb1174) (o := .cells #[.bool a0_0, .int .u64 a0_1, .int .u64 a0_2] 43 (0, 0)) (by (with_reducible repeat (first | refine blk_drewN ?_ _ | refine blk_drew ?_ | refine blk_alloc ?_ _)); refine blk_far ?_ NB1174_1189.out _; (with_reducible repeat (first | refine blk_drewN ?_ _ | refine blk_drew ?_ | refine blk_alloc ?_ _)); refine blk_far ?_ NB1174_1189.out _; (with_reducible repeat (first | refine blk_drewN ?_ _ | refine blk_drew ?_ | refine blk_alloc ?_ _)); refine blk_far ?_ NB1174_1189.out _; (with_reducible repeat (first | refine blk_drewN ?_ _ | refine blk_drew ?_ | refine blk_alloc ?_ _)); exact BK1174.out) hb); replace BK1175 := Aside0.mk (blk_below (g := gb1175) (o := .cells #[.bool false, .int .u64 0, .int .u64 0] 43 (0, 0)) (by (with_reducible repeat (first | refine blk_drewN ?_ _ | refine blk_drew ?_ | refine blk_alloc ?_ _)); refine blk_far ?_ NB1175_1189.out _; (with_reducible repeat (first | refine blk_drewN ?_ _ | refine blk_drew ?_ | refine blk_alloc ?_ _)); refine blk_far ?_ NB1175_1189.out _; (with_reducible repeat (first | refine blk_drewN ?_ _ | refine blk_drew ?_ | refine blk_alloc ?_ _)); refine blk_far ?_ NB1175_1189.out _; (with_reducible repeat (first | refine blk_drewN ?_ _ | refine blk_drew ?_ | refine blk_alloc ?_ _)); exact BK1175.out) hb); replace BK1179 := Aside0.mk (blk_below (g := gb1179) (o := .cells #[.bool t1176, .int .u64 t1177, .int .u64 t1178] 43 (0, 0)) (by (with_reducible repeat (first | refine blk_drewN ?_ _ | refine blk_drew ?_ | refine blk_alloc ?_ _)); refine blk_far ?_ NB1179_1189.out _; (with_reducible repeat (first | refine blk_drewN ?_ _ | refine blk_drew ?_ | refine blk_alloc ?_ _)); refine blk_far ?_ NB1179_1189.out _; (with_reducible repeat (first | refine blk_drewN ?_ _ | refine blk_drew ?_ | refine blk_alloc ?_ _)); refine blk_far ?_ NB1179_1189.out _; (with_reducible repeat (first | refine blk_drewN ?_ _ | refine blk_drew ?_ | refine blk_alloc ?_ _)); exact BK1179.out) hb); replace BK1184 := Aside0.mk (blk_below (g := gb1184) (o := .cells #[.bool t1181, .int .u64 t1182, .int .u64 t1183] 43 (0, 0)) (by (with_reducible repeat (first | refine blk_drewN ?_ _ | refine blk_drew ?_ | refine blk_alloc ?_ _)); refine blk_far ?_ NB1184_1189.out _; (with_reducible repeat (first | refine blk_drewN ?_ _ | refine blk_drew ?_ | refine blk_alloc ?_ _)); refine blk_far ?_ NB1184_1189.out _; (with_reducible repeat (first | refine blk_drewN ?_ _ | refine blk_drew ?_ | refine blk_alloc ?_ _)); refine blk_far ?_ NB1184_1189.out _; (with_reducible repeat (first | refine blk_drewN ?_ _ | refine blk_drew ?_ | refine blk_alloc ?_ _)); exact BK1184.out) hb); replace BK1189 := Aside0.mk (blk_below (g := gb1189) (o := .cells #[.bool t1186, .int .u64 t1187, .int .u64 t1188] 43 (0, 0)) (by (with_reducible repeat (first | refine blk_drewN ?_ _ | refine blk_drew ?_ | refine blk_alloc ?_ _)); refine blk_put (cs := #[.bool t1186, .int .u64 t1187, .int .u64 0]) ?_ 2 _ rfl; (with_reducible repeat (first | refine blk_drewN ?_ _ | refine blk_drew ?_ | refine blk_alloc ?_ _)); refine blk_put (cs := #[.bool t1186, .int .u64 0, .int .u64 0]) ?_ 1 _ rfl; (with_reducible repeat (first | refine blk_drewN ?_ _ | refine blk_drew ?_ | refine blk_alloc ?_ _)); refine blk_put (cs := #[.bool false, .int .u64 0, .int .u64 0]) ?_ 0 _ rfl; (with_reducible repeat (first | refine blk_drewN ?_ _ | refine blk_drew ?_ | refine blk_alloc ?_ _)); exact BK1189.out) hb); replace HB := Aside0.mk (below_step zaB hb); (try clear hb); obtain ⟨_, _⟩ := zsy NB1175_1174; obtain ⟨_, _, _, _, _, _⟩ := zq3 BK1175))
   refine bodyPost_ret (results_cell_row rfl _ _ gb1175 43 #[.bool t1190, .int .u64 t1191, .int .u64 t1192] (0, 0) _ rfl (by (with_reducible repeat (first | refine blk_drewN ?_ _ | refine blk_drew ?_ | refine blk_alloc ?_ _)); refine blk_put (cs := #[.bool t1190, .int .u64 t1191, .int .u64 0]) ?_ 2 _ rfl; (with_reducible repeat (first | refine blk_drewN ?_ _ | refine blk_drew ?_ | refine blk_alloc ?_ _)); refine blk_put (cs := #[.bool t1190, .int .u64 0, .int .u64 0]) ?_ 1 _ rfl; (with_reducible repeat (first | refine blk_drewN ?_ _ | refine blk_drew ?_ | refine blk_alloc ?_ _)); refine blk_put (cs := #[.bool false, .int .u64 0, .int .u64 0]) ?_ 0 _ rfl; (with_reducible repeat (first | refine blk_drewN ?_ _ | refine blk_drew ?_ | refine blk_alloc ?_ _)); exact BK1175.out) Try.underlying43 rfl (by kernel_rfl)) rfl ?_
   exact ⟨zaE, zaB⟩
theorem flyballref16_Most.calls (k : Nat) (a0_0 : Bool) (a0_1 : Int) (a0_2 : Int) (r : Int) (w : World) (h : flyballref16_Most.f k a0_0 a0_1 a0_2 = some r) :
  Calls Try.prog 51 #[.agg #[.bool a0_0, .int .u64 a0_1, .int .u64 a0_2]] w fun e w' => e = .returned (.int .u64 r) ∧ Below w.heap.size w w' := by
 have hu43 := Try.underlying43
 have HB := Aside0.mk (Below.refl w.heap.size w)
 have H : ((flyballref16_Abs.f k a0_0 a0_1 a0_2).bind fun bt1194 => (if bt1194.1 = true then (some 0) else (some bt1194.2.2))) = some r := h
 clear h
 obtain ⟨⟨t1194, t1195, t1196⟩, A2, H⟩ := zbs H
 try dsimp only at H
 by_cases c3 : t1194 = true
 ·subst c3
  replace H := zit H
  obtain rfl := Option.some.inj H
  go_enter Try.func51, Try.ntmps51
  go_wp2_with (first | ((with_reducible refine gtd 1 rfl ?_); refine zbx 1 #[.bool a0_0, .int .u64 a0_1, .int .u64 a0_2] 43 (h := ?_); intro gb1193 hg w4 hbox hb; have GW1193 := zkZ hg (zaB (p := Below w.heap.size w _)); replace HB := Aside0.mk (below_step zaB hb); have BK1193 := Aside0.mk (hbox); clear hb hbox hg; obtain ⟨_, _, _, _, _, _⟩ := zq3 BK1193) | ((with_reducible refine gtc 121 rfl ?_); refine zgL 5 Try.func121 (flyballref16_Abs.calls k a0_0 a0_1 a0_2 true t1195 t1196 _ A2.out) (h := ?_); rintro w6 hb; replace BK1193 := zkb BK1193 hb; replace HB := zkB HB hb; (try clear hb)) | ((with_reducible refine gtd 3 rfl ?_); refine zbx 3 #[.bool false, .int .u64 0, .int .u64 0] 43 (h := ?_); intro gb1197 hg w7 hbox hb; have GW1197 := zkz HB hg; have NB1193_1197 := zkl BK1193 hg; have NB1197_1193 := zkr BK1193 hg; replace BK1193 := zkb BK1193 hb; replace HB := zkB HB hb; have BK1197 := Aside0.mk (hbox); clear hb hbox hg; obtain ⟨_, _⟩ := zsy NB1197_1193; obtain ⟨_, _, _, _, _, _⟩ := zq3 BK1197))
  go_ret
  exact ⟨zaE, zaB⟩
 replace c3 := Bool.eq_false_iff.mpr c3
 subst c3
 replace H := zif H
 obtain rfl := Option.some.inj H
 go_enter Try.func51, Try.ntmps51
 go_wp2_with (first | ((with_reducible refine gtd 1 rfl ?_); refine zbx 1 #[.bool a0_0, .int .u64 a0_1, .int .u64 a0_2] 43 (h := ?_); intro gb1193 hg w10 hbox hb; have GW1193 := zkZ hg (zaB (p := Below w.heap.size w _)); replace HB := Aside0.mk (below_step zaB hb); have BK1193 := Aside0.mk (hbox); clear hb hbox hg; obtain ⟨_, _, _, _, _, _⟩ := zq3 BK1193) | ((with_reducible refine gtc 121 rfl ?_); refine zgL 5 Try.func121 (flyballref16_Abs.calls k a0_0 a0_1 a0_2 false t1195 t1196 _ A2.out) (h := ?_); rintro w12 hb; replace BK1193 := zkb BK1193 hb; replace HB := zkB HB hb; (try clear hb)) | ((with_reducible refine gtd 3 rfl ?_); refine zbx 3 #[.bool false, .int .u64 0, .int .u64 0] 43 (h := ?_); intro gb1197 hg w13 hbox hb; have GW1197 := zkz HB hg; have NB1193_1197 := zkl BK1193 hg; have NB1197_1193 := zkr BK1193 hg; replace BK1193 := zkb BK1193 hb; replace HB := zkB HB hb; have BK1197 := Aside0.mk (hbox); clear hb hbox hg; obtain ⟨_, _⟩ := zsy NB1197_1193; obtain ⟨_, _, _, _, _, _⟩ := zq3 BK1197))
 go_ret
 exact ⟨zaE, zaB⟩
end Go.Proofs.Ytmadjhmecfbcmaa.F
end
section
namespace Go.Proofs.Ytmadjhmecfbcmaa.F
open Go.RowKit Go.Proofs.YtmadjhmecfbcmaaW.PrintWords Go.Proofs.YtmadjhmecfbcmaaW.PrintLast Go.Proofs.YtmadjhmecfbcmaaW.PrintMore
attribute [local go_sem] max2_int min2_int max_two min_two max_three min_three max_four min_four
set_option linter.unusedVariables false
set_option linter.unusedSimpArgs false
set_option maxHeartbeats 8000000
set_option maxRecDepth 100000
attribute [local go_sem high] eqA43
def flyballlaw16_SpanMakes.T4 : Bool × List (List Nat × List Nat) := (true, [([], []), ([0], [0]), ([], []), ([2], [2]), ([1, 3], [1, 3]), ([], []), ([5], [5]), ([], []), ([7], [7]), ([6, 8, 4], [6, 8]), ([4, 9], [4, 9]), ([10, 9], [10]), ([11], [11]), ([12, 11, 11], [11, 12]), ([11], [11]), ([11], [11]), ([14, 15, 13, 11], [11, 14, 15]), ([13, 16, 11], [11, 13, 16]), ([11, 17], [11, 17]), ([18, 16], [18]), ([19, 19], [19]), ([20, 19], [19]), ([20, 21, 19], [19, 20, 21]), ([19, 22], [19, 22]), ([23, 21, 0, 1, 2, 3, 4, 5, 6, 7, 8, 9, 10, 11, 12, 13, 14, 15, 16, 17, 18, 19, 20, 21, 22, 23], [23])])
def flyballlaw16_SpanMakes.B4 : List Nat := [0, 1, 0, 4, 15, 0, 32, 0, 128, 511, 1023, 2047, 4095, 8191, 4095, 4095, 65535, 131071, 262143, 524287, 1048575, 2097151, 4194303, 8388607, 16777215]
theorem flyballlaw16_SpanMakes.tab4 : rtab .any (opsOf Try.f10 4) = flyballlaw16_SpanMakes.T4 := by kernel_rfl
theorem flyballlaw16_SpanMakes.bits4 : waitsOk flyballlaw16_SpanMakes.T4.2 flyballlaw16_SpanMakes.B4 = true := by kernel_rfl
def flyballlaw16_SpanMakes.T5 : Bool × List (List Nat × List Nat) := (true, [([], []), ([], []), ([0, 1], [0, 1]), ([], []), ([], []), ([3, 4, 2], [3, 4]), ([2, 5], [2, 5]), ([6, 5], [6]), ([7], [7]), ([7], [7]), ([8, 9, 7, 7], [7, 8, 9]), ([7], [7]), ([7], [7]), ([11, 12, 10, 7], [7, 11, 12]), ([10, 13, 7], [7, 10, 13]), ([7, 14], [7, 14]), ([15, 13, 0, 1, 2, 3, 4, 5, 6, 7, 8, 9, 10, 11, 12, 13, 14, 15], [15])])
def flyballlaw16_SpanMakes.B5 : List Nat := [0, 0, 3, 0, 0, 31, 63, 127, 255, 255, 1023, 255, 255, 8191, 16383, 32767, 65535]
theorem flyballlaw16_SpanMakes.tab5 : rtab .any (opsOf Try.f10 5) = flyballlaw16_SpanMakes.T5 := by kernel_rfl
theorem flyballlaw16_SpanMakes.bits5 : waitsOk flyballlaw16_SpanMakes.T5.2 flyballlaw16_SpanMakes.B5 = true := by kernel_rfl
def flyballlaw16_SpanMakes.T6 : Bool × List (List Nat × List Nat) := (true, [([], []), ([], []), ([0, 1], [0, 1]), ([2], [2]), ([], []), ([], []), ([4, 5, 3], [4, 5]), ([3, 6], [3, 6]), ([7, 6], [7]), ([8], [8]), ([8], [8]), ([9, 10, 8, 8], [8, 9, 10]), ([8], [8]), ([8], [8]), ([12, 13, 11, 8], [8, 12, 13]), ([11, 14, 8], [8, 11, 14]), ([8, 15], [8, 15]), ([16, 14], [16]), ([17], [17]), ([18, 17], [17, 18]), ([19, 17, 17], [17, 19]), ([17], [17]), ([21, 20, 17], [17, 21]), ([20, 22, 17], [17, 20, 22]), ([17, 23], [17, 23]), ([24, 22], [24]), ([25, 25], [25]), ([25], [25]), ([26, 27, 25], [25, 26, 27]), ([25, 28], [25, 28]), ([29, 26, 0, 1, 2, 3, 4, 5, 6, 7, 8, 9, 10, 11, 12, 13, 14, 15, 16, 17, 18, 19, 20, 21, 22, 23, 24, 25, 26, 27, 28, 29], [29])])
def flyballlaw16_SpanMakes.B6 : List Nat := [0, 0, 3, 7, 0, 0, 63, 127, 255, 511, 511, 2047, 511, 511, 16383, 32767, 65535, 131071, 262143, 524287, 1048575, 262143, 4194303, 8388607, 16777215, 33554431, 67108863, 67108863, 268435455, 536870911, 1073741823]
theorem flyballlaw16_SpanMakes.tab6 : rtab .any (opsOf Try.f10 6) = flyballlaw16_SpanMakes.T6 := by kernel_rfl
theorem flyballlaw16_SpanMakes.bits6 : waitsOk flyballlaw16_SpanMakes.T6.2 flyballlaw16_SpanMakes.B6 = true := by kernel_rfl
def flyballlaw16_SpanMakes.T7 : Bool × List (List Nat × List Nat) := (true, [([], []), ([0], [0]), ([1], [1]), ([1, 2], [1, 2]), ([3, 1], [3]), ([4], [4]), ([4, 5], [4, 5]), ([6, 4], [6]), ([7], [7]), ([7, 8], [7, 8]), ([9, 7], [9]), ([10], [10]), ([11, 10, 10], [10, 11]), ([10], [10]), ([13, 12, 10], [10, 13]), ([12, 14, 10], [10, 12, 14]), ([10, 15], [10, 15]), ([16, 14, 0, 1, 2, 3, 4, 5, 6, 7, 8, 9, 10, 11, 12, 13, 14, 15, 16], [16])])
def flyballlaw16_SpanMakes.B7 : List Nat := [0, 1, 3, 7, 15, 31, 63, 127, 255, 511, 1023, 2047, 4095, 2047, 16383, 32767, 65535, 131071]
theorem flyballlaw16_SpanMakes.tab7 : rtab .any (opsOf Try.f10 7) = flyballlaw16_SpanMakes.T7 := by kernel_rfl
theorem flyballlaw16_SpanMakes.bits7 : waitsOk flyballlaw16_SpanMakes.T7.2 flyballlaw16_SpanMakes.B7 = true := by kernel_rfl
theorem flyballlaw16_SpanMakes.calls (k : Nat) (a0_0 : Bool) (a0_1 : Int) (a0_2 : Int) (a1_0 : Bool) (a1_1 : Int) (a1_2 : Int) (a2 : Int) (r : Bool) (w : World) (h : flyballlaw16_SpanMakes.f k a0_0 a0_1 a0_2 a1_0 a1_1 a1_2 a2 = some r) (hr_ : r = true) :
  Calls Try.prog 10 #[.agg #[.bool a0_0, .int .u64 a0_1, .int .u64 a0_2], .agg #[.bool a1_0, .int .u64 a1_1, .int .u64 a1_2], .int .u64 a2] w fun e w' => e = .returned (.bool r) ∧ Below w.heap.size w w' := by
 have hu43 := Try.underlying43
 have HB := Aside0.mk (Below.refl w.heap.size w)
 have H : ((flyballlaw16_works.f k).bind fun t1200 => (if t1200 = true then ((span_Make.f k a0_1 a1_2).bind fun bt1201 => ((flyballref16_Make.f k a0_1 a1_2).bind fun bt1204 => (if (bt1201.1 == bt1204.1 && (bt1201.2.1 == bt1204.2.1 && (bt1201.2.2 == bt1204.2.2))) = true then ((span_Point.f k a2).bind fun bt1207 => ((flyballref16_Make.f k a2 a2).bind fun bt1210 => (if (bt1207.1 == bt1210.1 && (bt1207.2.1 == bt1210.2.1 && (bt1207.2.2 == bt1210.2.2))) = true then ((span_All.f k).bind fun bt1213 => ((flyballref16_Make.f k 18442240474082181120 9218868437227405312).bind fun bt1216 => (flyballlaw16_SpanMakes.j0 k a2 t1200 (bt1213.1 == bt1216.1 && (bt1213.2.1 == bt1216.2.1 && (bt1213.2.2 == bt1216.2.2))) a0_0 a0_1 a0_2 a1_0 a1_1 a1_2))) else (flyballlaw16_SpanMakes.j0 k a2 t1200 false a0_0 a0_1 a0_2 a1_0 a1_1 a1_2)))) else (flyballlaw16_SpanMakes.j0 k a2 t1200 false a0_0 a0_1 a0_2 a1_0 a1_1 a1_2)))) else (some false))) = some r := h
 clear h
 obtain ⟨t1200, A4, H⟩ := zbs H
 try dsimp only at H
 by_cases c5 : t1200 = true
 ·subst c5
  replace H := zit H
  have HC6 := Aside0.mk H
  clear H
  go_enter Try.func10, Try.ntmps10
  go_upto_region 4 with (first | ((with_reducible refine gtd 3 rfl ?_); (try (refine gate_guard (by rfl) ?_; dsimp only)); refine zbx 3 #[.bool a0_0, .int .u64 a0_1, .int .u64 a0_2] 43 (h := ?_); intro gb1198 hg w7 hbox hb; have GW1198 := zkZ hg (zaB (p := Below w.heap.size w _)); replace HB := Aside0.mk (below_step zaB hb); have BK1198 := Aside0.mk (hbox); clear hb hbox hg) | ((with_reducible refine gtd 4 rfl ?_); (try (refine gate_guard (by rfl) ?_; dsimp only)); refine zbx 4 #[.bool a1_0, .int .u64 a1_1, .int .u64 a1_2] 43 (h := ?_); intro gb1199 hg w8 hbox hb; have GW1199 := zkz HB hg; have NB1198_1199 := zkl BK1198 hg; have NB1199_1198 := zkr BK1198 hg; replace BK1198 := zkb BK1198 hb; replace HB := zkB HB hb; have BK1199 := Aside0.mk (hbox); clear hb hbox hg) | ((with_reducible refine gtc 36 rfl ?_); refine zgL 11 Try.func36 (flyballlaw16_works.calls k  true _ A4.out rfl) (h := ?_); rintro w9 hb; replace BK1198 := zkb BK1198 hb; replace BK1199 := zkb BK1199 hb; replace HB := zkB HB hb; (try clear hb)))
  (try simp only [Act.put, List.setIfInBounds_toArray, List.set_cons_zero, List.set_cons_succ])
  go_cut [8] (fun v8 wc => ∃ (kq : Nat) (x8_5 : Bool), v8 = .bool x8_5 ∧ Aside0 (flyballlaw16_SpanMakes.j0 kq a2 true x8_5 a0_0 a0_1 a0_2 a1_0 a1_1 a1_2 = some r) ∧ Aside0 (kq ≤ k) ∧ Aside0 (wc.heap[gb1198]? = some (.cells #[.bool a0_0, .int .u64 a0_1, .int .u64 a0_2] 43 (0, 0))) ∧ Aside0 (wc.heap[gb1199]? = some (.cells #[.bool a1_0, .int .u64 a1_1, .int .u64 a1_2] 43 (0, 0))) ∧ Aside0 (Below w.heap.size w wc))
  case first =>
   have H := HC6.out
   clear HC6
   obtain ⟨⟨t1201, t1202, t1203⟩, A10, H⟩ := zbs H
   try dsimp only at H
   obtain ⟨⟨t1204, t1205, t1206⟩, A11, H⟩ := zbs H
   try dsimp only at H
   by_cases c12 : (t1201 == t1204 && (t1202 == t1205 && (t1203 == t1206))) = true
   ·rw [if_pos c12] at H
    have c12b0 : (t1201 == t1204 && (t1202 == t1205 && (t1203 == t1206))) = true := c12
    (try (have c12b1 : decide (t1201 = t1204 && (t1202 == t1205 && (t1203 == t1206))) = true := by simpa using c12))
    (try (have c12b2 : (t1201 == t1204 && (t1202 == t1205 && (t1203 == t1206))) = true := by simpa using c12))
    clear c12
    (first | rw [c12b0] | (simp only [i64_w, i32_w]; rw [c12b0]) | skip)
    obtain ⟨⟨t1207, t1208, t1209⟩, A13, H⟩ := zbs H
    try dsimp only at H
    obtain ⟨⟨t1210, t1211, t1212⟩, A14, H⟩ := zbs H
    try dsimp only at H
    by_cases c15 : (t1207 == t1210 && (t1208 == t1211 && (t1209 == t1212))) = true
    ·rw [if_pos c15] at H
     have c15b0 : (t1207 == t1210 && (t1208 == t1211 && (t1209 == t1212))) = true := c15
     (try (have c15b1 : decide (t1207 = t1210 && (t1208 == t1211 && (t1209 == t1212))) = true := by simpa using c15))
     (try (have c15b2 : (t1207 == t1210 && (t1208 == t1211 && (t1209 == t1212))) = true := by simpa using c15))
     clear c15
     obtain ⟨⟨t1213, t1214, t1215⟩, A16, H⟩ := zbs H
     try dsimp only at H
     obtain ⟨⟨t1216, t1217, t1218⟩, A17, H⟩ := zbs H
     try dsimp only at H
     have H' := Aside0.mk H
     clear H
     try go_wp2
     replace BK1198 := Aside0.mk (blk_drew BK1198.out)
     replace BK1199 := Aside0.mk (blk_drew BK1199.out)
     replace HB := Aside0.mk (below_drew1 HB.out)
     refine start_ (n := 25) (S := fun w' => w'.cell? ⟨gb1198, 0, none⟩ = some (.bool a0_0) ∧ w'.cell? ⟨gb1198, 1, none⟩ = some (.int .u64 a0_1) ∧ w'.cell? ⟨gb1198, 2, none⟩ = some (.int .u64 a0_2) ∧ w'.cell? ⟨gb1199, 0, none⟩ = some (.bool a1_0) ∧ w'.cell? ⟨gb1199, 1, none⟩ = some (.int .u64 a1_1) ∧ w'.cell? ⟨gb1199, 2, none⟩ = some (.int .u64 a1_2)) (ds := []) #[false, false, false, false, false, false, false, false, false, false, false, false, false, false, false, false, false, false, false, false, false, false, false, false, false] (by kernel_rfl) rfl rfl (zk3 BK1198 (ze3 BK1199)) (fun hHeld => ?_); refine with_tabW flyballlaw16_SpanMakes.tab4 flyballlaw16_SpanMakes.bits4 (fun HT_ HW_ => ?_)
     generalize w9.drew = w18 at BK1198 BK1199 HB hHeld ⊢
     refine zpA 0 14 (h := ?_)
     refine zpA 2 16 (h := ?_)
     refine zpA 5 19 (h := ?_)
     refine zpA 7 21 (h := ?_)
     refine ztA 1 15 (h := ?_)
     refine ztA 3 17 (h := ?_)
     refine ztA 6 20 (h := ?_)
     refine ztA 8 22 (h := ?_)
     refine zoA 4 18 (h := fun K hK => ?_)
     refine zgA Try.func37 (span_Make.calls k a0_1 a1_2 t1201 t1202 t1203 _ A10.out) (h := ?_)
     rintro w19 hb
     replace BK1198 := zkb BK1198 hb
     replace BK1199 := zkb BK1199 hb
     replace HB := zkB HB hb
     (try clear hb)
     refine hK.out _ _ (zk3 BK1198 (ze3 BK1199)) (fun hHeld => ?_)
     clear hK K
     refine znA 18 (h := ?_)
     refine zoA 9 23 (h := fun K hK => ?_)
     refine zgA Try.func38 (flyballref16_Make.calls k a0_1 a1_2 t1204 t1205 t1206 _ A11.out) (h := ?_)
     rintro w20 hb
     replace BK1198 := zkb BK1198 hb
     replace BK1199 := zkb BK1199 hb
     replace HB := zkB HB hb
     (try clear hb)
     refine hK.out _ _ (zk3 BK1198 (ze3 BK1199)) (fun hHeld => ?_)
     clear hK K
     refine znA 23 (h := ?_)
     refine zpA 10 24 (h := ?_)
     refine zpA 11 25 (h := ?_)
     refine zpA 12 26 (h := ?_)
     refine zpA 14 28 (h := ?_)
     refine zpA 15 29 (h := ?_)
     refine zoA 13 27 (h := fun K hK => ?_)
     refine zgA Try.func39 (span_Point.calls k a2 t1207 t1208 t1209 _ A13.out) (h := ?_)
     rintro w21 hb
     replace BK1198 := zkb BK1198 hb
     replace BK1199 := zkb BK1199 hb
     replace HB := zkB HB hb
     (try clear hb)
     refine hK.out _ _ (zk3 BK1198 (ze3 BK1199)) (fun hHeld => ?_)
     clear hK K
     refine znA 27 (h := ?_)
     refine zoA 16 30 (h := fun K hK => ?_)
     refine zgA Try.func38 (flyballref16_Make.calls k a2 a2 t1210 t1211 t1212 _ A14.out) (h := ?_)
     rintro w22 hb
     replace BK1198 := zkb BK1198 hb
     replace BK1199 := zkb BK1199 hb
     replace HB := zkB HB hb
     (try clear hb)
     refine hK.out _ _ (zk3 BK1198 (ze3 BK1199)) (fun hHeld => ?_)
     clear hK K
     refine znA 30 (h := ?_)
     refine zpA 17 31 (h := ?_)
     refine zpA 18 32 (h := ?_)
     refine zpA 19 33 (h := ?_)
     refine zoA 20 34 (h := fun K hK => ?_)
     refine zgA Try.func40 (span_All.calls k  t1213 t1214 t1215 _ A16.out) (h := ?_)
     rintro w23 hb
     replace BK1198 := zkb BK1198 hb
     replace BK1199 := zkb BK1199 hb
     replace HB := zkB HB hb
     (try clear hb)
     refine hK.out _ _ (zk3 BK1198 (ze3 BK1199)) (fun hHeld => ?_)
     clear hK K
     refine znA 34 (h := ?_)
     refine zoA 21 35 (h := fun K hK => ?_)
     refine zgA Try.func38 (flyballref16_Make.calls k 18442240474082181120 9218868437227405312 t1216 t1217 t1218 _ A17.out) (h := ?_)
     rintro w24 hb
     replace BK1198 := zkb BK1198 hb
     replace BK1199 := zkb BK1199 hb
     replace HB := zkB HB hb
     (try clear hb)
     refine hK.out _ _ (zk3 BK1198 (ze3 BK1199)) (fun hHeld => ?_)
     clear hK K
     refine znA 35 (h := ?_)
     refine zpA 22 36 (h := ?_)
     refine zpA 23 37 (h := ?_)
     refine zpA 24 8 (h := ?_)
     refine done_ (done_of HT_.out (by kernel_rfl)) ?_
     try go_wp2
     go_meet
     case rel => exact ⟨_, ((t1213 == t1216 && (t1214 == t1217 && (t1215 == t1218)))), zrl, H', ⟨zle⟩, ⟨zkq BK1198⟩, ⟨zkq BK1199⟩, ⟨zaB⟩⟩
    rw [if_neg c15] at H
    have c15b0 : (t1207 == t1210 && (t1208 == t1211 && (t1209 == t1212))) = false := by simpa using c15
    (try (have c15b1 : decide (t1207 = t1210 && (t1208 == t1211 && (t1209 == t1212))) = false := by simpa using c15))
    (try (have c15b2 : (t1207 == t1210 && (t1208 == t1211 && (t1209 == t1212))) = false := by simpa using c15))
    (try (have c15b3 : ¬ (t1207 = t1210 && (t1208 == t1211 && (t1209 == t1212))) := by simpa using c15))
    clear c15
    have H' := Aside0.mk H
    clear H
    try go_wp2
    replace BK1198 := Aside0.mk (blk_drew BK1198.out)
    replace BK1199 := Aside0.mk (blk_drew BK1199.out)
    replace HB := Aside0.mk (below_drew1 HB.out)
    refine start_ (n := 25) (S := fun w' => w'.cell? ⟨gb1198, 0, none⟩ = some (.bool a0_0) ∧ w'.cell? ⟨gb1198, 1, none⟩ = some (.int .u64 a0_1) ∧ w'.cell? ⟨gb1198, 2, none⟩ = some (.int .u64 a0_2) ∧ w'.cell? ⟨gb1199, 0, none⟩ = some (.bool a1_0) ∧ w'.cell? ⟨gb1199, 1, none⟩ = some (.int .u64 a1_1) ∧ w'.cell? ⟨gb1199, 2, none⟩ = some (.int .u64 a1_2)) (ds := []) #[false, false, false, false, false, false, false, false, false, false, false, false, false, false, false, false, false, false, false, false, false, false, false, false, false] (by kernel_rfl) rfl rfl (zk3 BK1198 (ze3 BK1199)) (fun hHeld => ?_); refine with_tabW flyballlaw16_SpanMakes.tab4 flyballlaw16_SpanMakes.bits4 (fun HT_ HW_ => ?_)
    generalize w9.drew = w25 at BK1198 BK1199 HB hHeld ⊢
    refine zpA 0 14 (h := ?_)
    refine zpA 2 16 (h := ?_)
    refine zpA 5 19 (h := ?_)
    refine zpA 7 21 (h := ?_)
    refine ztA 1 15 (h := ?_)
    refine ztA 3 17 (h := ?_)
    refine ztA 6 20 (h := ?_)
    refine ztA 8 22 (h := ?_)
    refine zoA 4 18 (h := fun K hK => ?_)
    refine zgA Try.func37 (span_Make.calls k a0_1 a1_2 t1201 t1202 t1203 _ A10.out) (h := ?_)
    rintro w26 hb
    replace BK1198 := zkb BK1198 hb
    replace BK1199 := zkb BK1199 hb
    replace HB := zkB HB hb
    (try clear hb)
    refine hK.out _ _ (zk3 BK1198 (ze3 BK1199)) (fun hHeld => ?_)
    clear hK K
    refine znA 18 (h := ?_)
    refine zoA 9 23 (h := fun K hK => ?_)
    refine zgA Try.func38 (flyballref16_Make.calls k a0_1 a1_2 t1204 t1205 t1206 _ A11.out) (h := ?_)
    rintro w27 hb
    replace BK1198 := zkb BK1198 hb
    replace BK1199 := zkb BK1199 hb
    replace HB := zkB HB hb
    (try clear hb)
    refine hK.out _ _ (zk3 BK1198 (ze3 BK1199)) (fun hHeld => ?_)
    clear hK K
    refine znA 23 (h := ?_)
    refine zpA 10 24 (h := ?_)
    refine zpA 11 25 (h := ?_)
    refine zpA 12 26 (h := ?_)
    refine zpA 14 28 (h := ?_)
    refine zpA 15 29 (h := ?_)
    refine zoA 13 27 (h := fun K hK => ?_)
    refine zgA Try.func39 (span_Point.calls k a2 t1207 t1208 t1209 _ A13.out) (h := ?_)
    rintro w28 hb
    replace BK1198 := zkb BK1198 hb
    replace BK1199 := zkb BK1199 hb
    replace HB := zkB HB hb
    (try clear hb)
    refine hK.out _ _ (zk3 BK1198 (ze3 BK1199)) (fun hHeld => ?_)
    clear hK K
    refine znA 27 (h := ?_)
    refine zoA 16 30 (h := fun K hK => ?_)
    refine zgA Try.func38 (flyballref16_Make.calls k a2 a2 t1210 t1211 t1212 _ A14.out) (h := ?_)
    rintro w29 hb
    replace BK1198 := zkb BK1198 hb
    replace BK1199 := zkb BK1199 hb
    replace HB := zkB HB hb
    (try clear hb)
    refine hK.out _ _ (zk3 BK1198 (ze3 BK1199)) (fun hHeld => ?_)
    clear hK K
    refine znA 30 (h := ?_)
    refine zpA 17 31 (h := ?_)
    refine zpA 18 32 (h := ?_)
    refine zpA 19 33 (h := ?_)
    refine zpU 20 34 (h := ?_)
    refine zpU 21 35 (h := ?_)
    refine zpU 22 36 (h := ?_)
    refine zpA 23 37 (h := ?_)
    refine zpA 24 8 (h := ?_)
    refine done_ (done_of HT_.out (by kernel_rfl)) ?_
    try go_wp2
    go_meet
    case rel => exact ⟨_, (false), zrl, H', ⟨zle⟩, ⟨zkq BK1198⟩, ⟨zkq BK1199⟩, ⟨zaB⟩⟩
   rw [if_neg c12] at H
   have c12b0 : (t1201 == t1204 && (t1202 == t1205 && (t1203 == t1206))) = false := by simpa using c12
   (try (have c12b1 : decide (t1201 = t1204 && (t1202 == t1205 && (t1203 == t1206))) = false := by simpa using c12))
   (try (have c12b2 : (t1201 == t1204 && (t1202 == t1205 && (t1203 == t1206))) = false := by simpa using c12))
   (try (have c12b3 : ¬ (t1201 = t1204 && (t1202 == t1205 && (t1203 == t1206))) := by simpa using c12))
   clear c12
   (first | rw [c12b0] | (simp only [i64_w, i32_w]; rw [c12b0]) | skip)
   have H' := Aside0.mk H
   clear H
   try go_wp2
   replace BK1198 := Aside0.mk (blk_drew BK1198.out)
   replace BK1199 := Aside0.mk (blk_drew BK1199.out)
   replace HB := Aside0.mk (below_drew1 HB.out)
   refine start_ (n := 25) (S := fun w' => w'.cell? ⟨gb1198, 0, none⟩ = some (.bool a0_0) ∧ w'.cell? ⟨gb1198, 1, none⟩ = some (.int .u64 a0_1) ∧ w'.cell? ⟨gb1198, 2, none⟩ = some (.int .u64 a0_2) ∧ w'.cell? ⟨gb1199, 0, none⟩ = some (.bool a1_0) ∧ w'.cell? ⟨gb1199, 1, none⟩ = some (.int .u64 a1_1) ∧ w'.cell? ⟨gb1199, 2, none⟩ = some (.int .u64 a1_2)) (ds := []) #[false, false, false, false, false, false, false, false, false, false, false, false, false, false, false, false, false, false, false, false, false, false, false, false, false] (by kernel_rfl) rfl rfl (zk3 BK1198 (ze3 BK1199)) (fun hHeld => ?_); refine with_tabW flyballlaw16_SpanMakes.tab4 flyballlaw16_SpanMakes.bits4 (fun HT_ HW_ => ?_)
   generalize w9.drew = w30 at BK1198 BK1199 HB hHeld ⊢
   refine zpA 0 14 (h := ?_)
   refine zpA 2 16 (h := ?_)
   refine zpA 5 19 (h := ?_)
   refine zpA 7 21 (h := ?_)
   refine ztA 1 15 (h := ?_)
   refine ztA 3 17 (h := ?_)
   refine ztA 6 20 (h := ?_)
   refine ztA 8 22 (h := ?_)
   refine zoA 4 18 (h := fun K hK => ?_)
   refine zgA Try.func37 (span_Make.calls k a0_1 a1_2 t1201 t1202 t1203 _ A10.out) (h := ?_)
   rintro w31 hb
   replace BK1198 := zkb BK1198 hb
   replace BK1199 := zkb BK1199 hb
   replace HB := zkB HB hb
   (try clear hb)
   refine hK.out _ _ (zk3 BK1198 (ze3 BK1199)) (fun hHeld => ?_)
   clear hK K
   refine znA 18 (h := ?_)
   refine zoA 9 23 (h := fun K hK => ?_)
   refine zgA Try.func38 (flyballref16_Make.calls k a0_1 a1_2 t1204 t1205 t1206 _ A11.out) (h := ?_)
   rintro w32 hb
   replace BK1198 := zkb BK1198 hb
   replace BK1199 := zkb BK1199 hb
   replace HB := zkB HB hb
   (try clear hb)
   refine hK.out _ _ (zk3 BK1198 (ze3 BK1199)) (fun hHeld => ?_)
   clear hK K
   refine znA 23 (h := ?_)
   refine zpA 10 24 (h := ?_)
   refine zpA 11 25 (h := ?_)
   refine zpU 12 26 (h := ?_)
   refine zpU 13 27 (h := ?_)
   refine zpU 14 28 (h := ?_)
   refine zpU 15 29 (h := ?_)
   refine zpU 16 30 (h := ?_)
   refine zpU 17 31 (h := ?_)
   refine zpA 18 32 (h := ?_)
   refine zpA 19 33 (h := ?_)
   refine zpU 20 34 (h := ?_)
   refine zpU 21 35 (h := ?_)
   refine zpU 22 36 (h := ?_)
   refine zpA 23 37 (h := ?_)
   refine zpA 24 8 (h := ?_)
   refine done_ (done_of HT_.out (by kernel_rfl)) ?_
   try go_wp2
   go_meet
   case rel => exact ⟨_, (false), zrl, H', ⟨zle⟩, ⟨zkq BK1198⟩, ⟨zkq BK1199⟩, ⟨zaB⟩⟩
  case rest =>
   clear HC6
   try clear c1
   try clear p2
   try clear c3
   try clear c4
   try clear c12
   try clear c12b0
   try clear c12b1
   try clear c12b2
   try clear c15
   try clear c15b0
   try clear c15b1
   try clear c15b2
   obtain ⟨kq, x8_5, rfl, HA, HJ5, BK1198, BK1199, HB⟩ := hcut
   cases kq with
   | zero => exact absurd HA.out (by simp [flyballlaw16_SpanMakes.j0])
   | succ kj5 =>
    have H := HA.out
    clear HA
    simp only [flyballlaw16_SpanMakes.j0] at H
    have HC33 := Aside0.mk H
    clear H
    go_upto_region 5 with (fail)
    go_cut [9] (fun v9 wc => ∃ (kq : Nat) (x9_32 : Bool), v9 = .bool x9_32 ∧ Aside0 (flyballlaw16_SpanMakes.j1 kq true x8_5 x9_32 a0_0 a0_1 a0_2 a1_0 a1_1 a1_2 = some r) ∧ Aside0 (kq ≤ kj5) ∧ Aside0 (wc.heap[gb1198]? = some (.cells #[.bool a0_0, .int .u64 a0_1, .int .u64 a0_2] 43 (0, 0))) ∧ Aside0 (wc.heap[gb1199]? = some (.cells #[.bool a1_0, .int .u64 a1_1, .int .u64 a1_2] 43 (0, 0))) ∧ Aside0 (Below w.heap.size w wc))
    case first =>
     have H := HC33.out
     clear HC33
     obtain ⟨t1219, A34, H⟩ := zbs H
     try dsimp only at H
     obtain ⟨t1220, A35, H⟩ := zbs H
     try dsimp only at H
     by_cases c36 : (t1219 == t1220) = true
     ·rw [if_pos c36] at H
      have c36b0 : (t1219 == t1220) = true := c36
      (try (have c36b1 : decide (t1219 = t1220) = true := by simpa using c36))
      (try (have c36b2 : (t1219 == t1220) = true := by simpa using c36))
      clear c36
      (first | rw [c36b0] | (simp only [i64_w, i32_w]; rw [c36b0]) | skip)
      obtain ⟨t1221, A37, H⟩ := zbs H
      try dsimp only at H
      obtain ⟨t1222, A38, H⟩ := zbs H
      try dsimp only at H
      have H' := Aside0.mk H
      clear H
      try go_wp2
      replace BK1198 := Aside0.mk (blk_drew BK1198.out)
      replace BK1199 := Aside0.mk (blk_drew BK1199.out)
      replace HB := Aside0.mk (below_drew1 HB.out)
      refine start_ (n := 17) (S := fun w' => w'.cell? ⟨gb1198, 0, none⟩ = some (.bool a0_0) ∧ w'.cell? ⟨gb1198, 1, none⟩ = some (.int .u64 a0_1) ∧ w'.cell? ⟨gb1198, 2, none⟩ = some (.int .u64 a0_2) ∧ w'.cell? ⟨gb1199, 0, none⟩ = some (.bool a1_0) ∧ w'.cell? ⟨gb1199, 1, none⟩ = some (.int .u64 a1_1) ∧ w'.cell? ⟨gb1199, 2, none⟩ = some (.int .u64 a1_2)) (ds := []) #[false, false, false, false, false, false, false, false, false, false, false, false, false, false, false, false, false] (by kernel_rfl) rfl rfl (zk3 BK1198 (ze3 BK1199)) (fun hHeld => ?_); refine with_tabW flyballlaw16_SpanMakes.tab5 flyballlaw16_SpanMakes.bits5 (fun HT_ HW_ => ?_)
      generalize wc.drew = w39 at BK1198 BK1199 HB hHeld ⊢
      refine zpA 1 39 (h := ?_)
      refine zpA 4 42 (h := ?_)
      refine ztA 0 38 (h := ?_)
      refine ztA 3 41 (h := ?_)
      refine zoA 2 40 (h := fun K hK => ?_)
      refine zgA Try.func41 (span_Has.calls kj5 a0_0 a0_1 a0_2 a2 t1219 _ A34.out) (h := ?_)
      rintro w40 hb
      replace BK1198 := zkb BK1198 hb
      replace BK1199 := zkb BK1199 hb
      replace HB := zkB HB hb
      (try clear hb)
      refine hK.out _ _ (zk3 BK1198 (ze3 BK1199)) (fun hHeld => ?_)
      clear hK K
      refine znA 40 (h := ?_)
      refine zoA 5 43 (h := fun K hK => ?_)
      refine zgA Try.func42 (flyballref16_Has.calls kj5 a0_0 a0_1 a0_2 a2 t1220 _ A35.out) (h := ?_)
      rintro w41 hb
      replace BK1198 := zkb BK1198 hb
      replace BK1199 := zkb BK1199 hb
      replace HB := zkB HB hb
      (try clear hb)
      refine hK.out _ _ (zk3 BK1198 (ze3 BK1199)) (fun hHeld => ?_)
      clear hK K
      refine znA 43 (h := ?_)
      refine zpA 6 44 (h := ?_)
      refine zpA 7 45 (h := ?_)
      refine ztA 8 46 (h := ?_)
      refine ztA 9 47 (h := ?_)
      refine ztA 11 49 (h := ?_)
      refine ztA 12 50 (h := ?_)
      refine zoA 10 48 (h := fun K hK => ?_)
      refine zgA Try.func43 (span_Inside.calls kj5 a0_0 a0_1 a0_2 a1_0 a1_1 a1_2 t1221 _ A37.out) (h := ?_)
      rintro w42 hb
      replace BK1198 := zkb BK1198 hb
      replace BK1199 := zkb BK1199 hb
      replace HB := zkB HB hb
      (try clear hb)
      refine hK.out _ _ (zk3 BK1198 (ze3 BK1199)) (fun hHeld => ?_)
      clear hK K
      refine znA 48 (h := ?_)
      refine zoA 13 51 (h := fun K hK => ?_)
      refine zgA Try.func44 (flyballref16_Inside.calls kj5 a0_0 a0_1 a0_2 a1_0 a1_1 a1_2 t1222 _ A38.out) (h := ?_)
      rintro w43 hb
      replace BK1198 := zkb BK1198 hb
      replace BK1199 := zkb BK1199 hb
      replace HB := zkB HB hb
      (try clear hb)
      refine hK.out _ _ (zk3 BK1198 (ze3 BK1199)) (fun hHeld => ?_)
      clear hK K
      refine znA 51 (h := ?_)
      refine zpA 14 52 (h := ?_)
      refine zpA 15 53 (h := ?_)
      refine zpA 16 9 (h := ?_)
      refine done_ (done_of HT_.out (by kernel_rfl)) ?_
      try go_wp2
      go_meet
      case rel => exact ⟨_, ((t1221 == t1222)), zrl, H', ⟨by have := HJ5.out; first | omega | exact Nat.le_refl _⟩, ⟨zkq BK1198⟩, ⟨zkq BK1199⟩, ⟨zaB⟩⟩
     rw [if_neg c36] at H
     have c36b0 : (t1219 == t1220) = false := by simpa using c36
     (try (have c36b1 : decide (t1219 = t1220) = false := by simpa using c36))
     (try (have c36b2 : (t1219 == t1220) = false := by simpa using c36))
     (try (have c36b3 : ¬ (t1219 = t1220) := by simpa using c36))
     clear c36
     (first | rw [c36b0] | (simp only [i64_w, i32_w]; rw [c36b0]) | skip)
     have H' := Aside0.mk H
     clear H
     try go_wp2
     replace BK1198 := Aside0.mk (blk_drew BK1198.out)
     replace BK1199 := Aside0.mk (blk_drew BK1199.out)
     replace HB := Aside0.mk (below_drew1 HB.out)
     refine start_ (n := 17) (S := fun w' => w'.cell? ⟨gb1198, 0, none⟩ = some (.bool a0_0) ∧ w'.cell? ⟨gb1198, 1, none⟩ = some (.int .u64 a0_1) ∧ w'.cell? ⟨gb1198, 2, none⟩ = some (.int .u64 a0_2)) (ds := []) #[false, false, false, false, false, false, false, false, false, false, false, false, false, false, false, false, false] (by kernel_rfl) rfl rfl (ze3 BK1198) (fun hHeld => ?_); refine with_tabW flyballlaw16_SpanMakes.tab5 flyballlaw16_SpanMakes.bits5 (fun HT_ HW_ => ?_)
     generalize wc.drew = w44 at BK1198 BK1199 HB hHeld ⊢
     refine zpA 1 39 (h := ?_)
     refine zpA 4 42 (h := ?_)
     refine ztA 0 38 (h := ?_)
     refine ztA 3 41 (h := ?_)
     refine zoA 2 40 (h := fun K hK => ?_)
     refine zgA Try.func41 (span_Has.calls kj5 a0_0 a0_1 a0_2 a2 t1219 _ A34.out) (h := ?_)
     rintro w45 hb
     replace BK1198 := zkb BK1198 hb
     replace BK1199 := zkb BK1199 hb
     replace HB := zkB HB hb
     (try clear hb)
     refine hK.out _ _ (ze3 BK1198) (fun hHeld => ?_)
     clear hK K
     refine znA 40 (h := ?_)
     refine zoA 5 43 (h := fun K hK => ?_)
     refine zgA Try.func42 (flyballref16_Has.calls kj5 a0_0 a0_1 a0_2 a2 t1220 _ A35.out) (h := ?_)
     rintro w46 hb
     replace BK1198 := zkb BK1198 hb
     replace BK1199 := zkb BK1199 hb
     replace HB := zkB HB hb
     (try clear hb)
     refine hK.out _ _ (ze3 BK1198) (fun hHeld => ?_)
     clear hK K
     refine znA 43 (h := ?_)
     refine zpA 6 44 (h := ?_)
     refine zpA 7 45 (h := ?_)
     refine zpU 8 46 (h := ?_)
     refine zpU 9 47 (h := ?_)
     refine zpU 10 48 (h := ?_)
     refine zpU 11 49 (h := ?_)
     refine zpU 12 50 (h := ?_)
     refine zpU 13 51 (h := ?_)
     refine zpU 14 52 (h := ?_)
     refine zpA 15 53 (h := ?_)
     refine zpA 16 9 (h := ?_)
     refine done_ (done_of HT_.out (by kernel_rfl)) ?_
     try go_wp2
     go_meet
     case rel => exact ⟨_, (false), zrl, H', ⟨by have := HJ5.out; first | omega | exact Nat.le_refl _⟩, ⟨zkq BK1198⟩, ⟨zkq BK1199⟩, ⟨zaB⟩⟩
    case rest =>
     clear HC33
     try clear c1
     try clear p2
     try clear c3
     try clear c4
     try clear c12
     try clear c12b0
     try clear c12b1
     try clear c12b2
     try clear c15
     try clear c15b0
     try clear c15b1
     try clear c15b2
     try clear c36
     try clear c36b0
     try clear c36b1
     try clear c36b2
     try clear c37
     try clear c38
     try clear c41
     try clear c42
     try clear c43
     try clear c44
     try clear p2
     obtain ⟨kq, x9_32, rfl, HA, HJ32, BK1198, BK1199, HB⟩ := hcut
     cases kq with
     | zero => exact absurd HA.out (by simp [flyballlaw16_SpanMakes.j1])
     | succ kj32 =>
      have H := HA.out
      clear HA
      simp only [flyballlaw16_SpanMakes.j1] at H
      obtain ⟨y1223, hy1223⟩ : ∃ y_ : List (S43), y_ = (([(⟨a0_0, a0_1, a0_2⟩ : S43), (⟨a1_0, a1_1, a1_2⟩ : S43)] : List (S43))) := ⟨_, rfl⟩
      replace H : ((span_Join.f kj32 y1223).bind fun bt1226 => ((flyballref16_Join.f kj32 a0_0 a0_1 a0_2 a1_0 a1_1 a1_2).bind fun bt1229 => (if (bt1226.1 == bt1229.1 && (bt1226.2.1 == bt1229.2.1 && (bt1226.2.2 == bt1229.2.2))) = true then ((span_Meet.f kj32 a0_0 a0_1 a0_2 a1_0 a1_1 a1_2).bind fun bt1232 => ((flyballref16_Meet.f kj32 a0_0 a0_1 a0_2 a1_0 a1_1 a1_2).bind fun bt1235 => (if (bt1232.1 == bt1235.1 && (bt1232.2.1 == bt1235.2.1 && (bt1232.2.2 == bt1235.2.2))) = true then ((span_Join.f kj32 (([(⟨a0_0, a0_1, a0_2⟩ : S43)] : List (S43)))).bind fun bt1241 => ((flyballref16_Norm.f kj32 a0_0 a0_1 a0_2).bind fun bt1244 => (if (bt1241.1 == bt1244.1 && (bt1241.2.1 == bt1244.2.1 && (bt1241.2.2 == bt1244.2.2))) = true then ((span_Join.f kj32 ([] : List (S43))).bind fun bt1247 => (if true = true then (if x8_5 = true then (if x9_32 = true then (if (bt1247.1 && (bt1247.2.1 == 0 && (bt1247.2.2 == 0))) = true then ((span_Most.f kj32 a0_0 a0_1 a0_2).bind fun t1250 => ((flyballref16_Most.f kj32 a0_0 a0_1 a0_2).bind fun t1251 => (some (t1250 == t1251)))) else (some false)) else (some false)) else (some false)) else (some false))) else (if true = true then (if x8_5 = true then (if x9_32 = true then (some false) else (some false)) else (some false)) else (some false))))) else (if true = true then (if x8_5 = true then (if x9_32 = true then (some false) else (some false)) else (some false)) else (some false))))) else (if true = true then (if x8_5 = true then (if x9_32 = true then (some false) else (some false)) else (some false)) else (some false))))) = some r := by first | (rw [hy1223]; with_reducible exact H) | (have H2_ := (Option.bind_some _ _).symm.trans H; rw [hy1223]; with_reducible exact H2_) | (have H2_ := (Option.bind_some _ _).symm.trans H; with_reducible exact H2_) | with_reducible exact H | (rw [hy1223]; exact H) | exact H
      have Ny1223 := Aside0.mk hy1223
      clear hy1223
      obtain ⟨⟨t1226, t1227, t1228⟩, A47, H⟩ := zbs H
      try dsimp only at H
      obtain ⟨⟨t1229, t1230, t1231⟩, A48, H⟩ := zbs H
      try dsimp only at H
      by_cases c49 : (t1226 == t1229 && (t1227 == t1230 && (t1228 == t1231))) = true
      ·rw [if_pos c49] at H
       have c49b0 : (t1226 == t1229 && (t1227 == t1230 && (t1228 == t1231))) = true := c49
       (try (have c49b1 : decide (t1226 = t1229 && (t1227 == t1230 && (t1228 == t1231))) = true := by simpa using c49))
       (try (have c49b2 : (t1226 == t1229 && (t1227 == t1230 && (t1228 == t1231))) = true := by simpa using c49))
       clear c49
       obtain ⟨⟨t1232, t1233, t1234⟩, A50, H⟩ := zbs H
       try dsimp only at H
       obtain ⟨⟨t1235, t1236, t1237⟩, A51, H⟩ := zbs H
       try dsimp only at H
       by_cases c52 : (t1232 == t1235 && (t1233 == t1236 && (t1234 == t1237))) = true
       ·rw [if_pos c52] at H
        have c52b0 : (t1232 == t1235 && (t1233 == t1236 && (t1234 == t1237))) = true := c52
        (try (have c52b1 : decide (t1232 = t1235 && (t1233 == t1236 && (t1234 == t1237))) = true := by simpa using c52))
        (try (have c52b2 : (t1232 == t1235 && (t1233 == t1236 && (t1234 == t1237))) = true := by simpa using c52))
        clear c52
        obtain ⟨y1238, hy1238⟩ : ∃ y_ : List (S43), y_ = (([(⟨a0_0, a0_1, a0_2⟩ : S43)] : List (S43))) := ⟨_, rfl⟩
        replace H : ((span_Join.f kj32 y1238).bind fun bt1241 => ((flyballref16_Norm.f kj32 a0_0 a0_1 a0_2).bind fun bt1244 => (if (bt1241.1 == bt1244.1 && (bt1241.2.1 == bt1244.2.1 && (bt1241.2.2 == bt1244.2.2))) = true then ((span_Join.f kj32 ([] : List (S43))).bind fun bt1247 => (if true = true then (if x8_5 = true then (if x9_32 = true then (if (bt1247.1 && (bt1247.2.1 == 0 && (bt1247.2.2 == 0))) = true then ((span_Most.f kj32 a0_0 a0_1 a0_2).bind fun t1250 => ((flyballref16_Most.f kj32 a0_0 a0_1 a0_2).bind fun t1251 => (some (t1250 == t1251)))) else (some false)) else (some false)) else (some false)) else (some false))) else (if true = true then (if x8_5 = true then (if x9_32 = true then (some false) else (some false)) else (some false)) else (some false))))) = some r := by first | (rw [hy1238]; with_reducible exact H) | (have H2_ := (Option.bind_some _ _).symm.trans H; rw [hy1238]; with_reducible exact H2_) | (have H2_ := (Option.bind_some _ _).symm.trans H; with_reducible exact H2_) | with_reducible exact H | (rw [hy1238]; exact H) | exact H
        have Ny1238 := Aside0.mk hy1238
        clear hy1238
        obtain ⟨⟨t1241, t1242, t1243⟩, A53, H⟩ := zbs H
        try dsimp only at H
        obtain ⟨⟨t1244, t1245, t1246⟩, A54, H⟩ := zbs H
        try dsimp only at H
        by_cases c55 : (t1241 == t1244 && (t1242 == t1245 && (t1243 == t1246))) = true
        ·rw [if_pos c55] at H
         have c55b0 : (t1241 == t1244 && (t1242 == t1245 && (t1243 == t1246))) = true := c55
         (try (have c55b1 : decide (t1241 = t1244 && (t1242 == t1245 && (t1243 == t1246))) = true := by simpa using c55))
         (try (have c55b2 : (t1241 == t1244 && (t1242 == t1245 && (t1243 == t1246))) = true := by simpa using c55))
         clear c55
         obtain ⟨⟨t1247, t1248, t1249⟩, A56, H⟩ := zbs H
         try dsimp only at H
         by_cases c57 : true = true
         ·skip
          have H1 : (if x8_5 = true then (if x9_32 = true then (if (t1247 && (t1248 == 0 && (t1249 == 0))) = true then ((span_Most.f kj32 a0_0 a0_1 a0_2).bind fun t1250 => ((flyballref16_Most.f kj32 a0_0 a0_1 a0_2).bind fun t1251 => (some (t1250 == t1251)))) else (some false)) else (some false)) else (some false)) = some r := by first | (rw [if_pos rfl] at H; exact H) | (rw [if_pos trivial] at H; exact H)
          clear H
          have H := H1
          clear H1
          by_cases c58 : x8_5 = true
          ·subst c58
           replace H := zit H
           by_cases c59 : x9_32 = true
           ·subst c59
            replace H := zit H
            by_cases c60 : (t1247 && (t1248 == 0 && (t1249 == 0))) = true
            ·rw [if_pos c60] at H
             have c60b0 : (t1247 && (t1248 == 0 && (t1249 == 0))) = true := c60
             clear c60
             obtain ⟨t1250, A61, H⟩ := zbs H
             try dsimp only at H
             obtain ⟨t1251, A62, H⟩ := zbs H
             try dsimp only at H
             obtain rfl := Option.some.inj H
             try go_wp2
             replace BK1198 := Aside0.mk (blk_drew BK1198.out)
             replace BK1199 := Aside0.mk (blk_drew BK1199.out)
             replace HB := Aside0.mk (below_drew1 HB.out)
             refine start_ (n := 31) (S := fun w' => w'.cell? ⟨gb1198, 0, none⟩ = some (.bool a0_0) ∧ w'.cell? ⟨gb1198, 1, none⟩ = some (.int .u64 a0_1) ∧ w'.cell? ⟨gb1198, 2, none⟩ = some (.int .u64 a0_2) ∧ w'.cell? ⟨gb1199, 0, none⟩ = some (.bool a1_0) ∧ w'.cell? ⟨gb1199, 1, none⟩ = some (.int .u64 a1_1) ∧ w'.cell? ⟨gb1199, 2, none⟩ = some (.int .u64 a1_2)) (ds := []) #[false, false, false, false, false, false, false, false, false, false, false, false, false, false, false, false, false, false, false, false, false, false, false, false, false, false, false, false, false, false, false] (by kernel_rfl) rfl rfl (zk3 BK1198 (ze3 BK1199)) (fun hHeld => ?_); refine with_tabW flyballlaw16_SpanMakes.tab6 flyballlaw16_SpanMakes.bits6 (fun HT_ HW_ => ?_)
             generalize wc.drew = w63 at BK1198 BK1199 HB hHeld ⊢
             refine ztA 0 54 (h := ?_)
             refine ztA 1 55 (h := ?_)
             refine ztA 4 58 (h := ?_)
             refine ztA 5 59 (h := ?_)
             refine zoA 2 56 (h := fun K hK => ?_)
             refine Kd.R_lit_step k43 _ 43 ?hg (N := 56) ?hd (xs := ([(⟨a0_0, a0_1, a0_2⟩ : S43), (⟨a1_0, a1_1, a1_2⟩ : S43)] : List (S43))) (inner := [.bool a0_0, .int .u64 a0_1, .int .u64 a0_2, .bool a1_0, .int .u64 a1_1, .int .u64 a1_2]) (ok := fun _ => True) (okp := fun _ => True) ?hr ?hp (fun _ hk => hk) trivial (Below.refl _ _) (Nat.le_refl _) (by simp) ?_; (case hd => rfl); (case hg => rfl); (case hr => first | (go_simp; done) | (go_simp; rfl)); (case hp => exact (Reps.c3 (show Kd.M k43 _ _ _ (⟨a0_0, a0_1, a0_2⟩ : S43) [.bool a0_0, .int .u64 a0_1, .int .u64 a0_2] from (k43_mkM _ _ _ (⟨a0_0, a0_1, a0_2⟩ : S43) )) (Reps.c3 (show Kd.M k43 _ _ _ (⟨a1_0, a1_1, a1_2⟩ : S43) [.bool a1_0, .int .u64 a1_1, .int .u64 a1_2] from (k43_mkM _ _ _ (⟨a1_0, a1_1, a1_2⟩ : S43) )) (Reps.none _ _))))
             intro v1224 w64 ho65 hb hg_ hnew_
             clear hg_ hnew_
             (first | rw [← Ny1223.out] at ho65 | (simp only [Int.reduceToNat] at ho65; rw [← Ny1223.out] at ho65))
             have HO1225 := Aside0.mk (Kd.R_lower (Kd.R_newB (Kd.R_newB ho65 (g := gb1198) (o := .cells #[.bool a0_0, .int .u64 a0_1, .int .u64 a0_2] 43 (0, 0)) (zkq BK1198)) (g := gb1199) (o := .cells #[.bool a1_0, .int .u64 a1_1, .int .u64 a1_2] 43 (0, 0)) (zkq BK1199)) (below_size zaB))
             replace BK1198 := zkb BK1198 hb
             replace BK1199 := zkb BK1199 hb
             replace HB := zkB HB hb
             clear hb ho65
             obtain ⟨Ao66, co66, eo66⟩ := Kd.R_slice HO1225.out
             (first | subst eo66 | (injection eo66 with f1_ f2_ f3_; have f4_ := f1_.symm; have f5_ := f3_.symm; clear f1_ f2_ f3_; subst f4_; subst f5_))
             refine hK.out _ _ (zk3 BK1198 (ze3 BK1199)) (fun hHeld => ?_)
             clear hK K
             refine znA 56 (h := ?_)
             refine zoA 3 57 (h := fun K hK => ?_)
             refine goes_ Try.func45 (by kernel_rfl) rfl #[.slice Ao66 y1223.length co66] (by rfl) rfl rfl (by (try simp only [List.map_toArray, List.map_cons, List.map_nil]); first | done | rfl | (simp only [List.length_drop, List.length_take]; rfl)) ?_
             with_reducible refine (span_Join.calls kj32 _ _ y1223 t1226 t1227 t1228 _ ?side1 ?side2 A47.out).mono ?_
             (case side1 => repeat (first | exact (Kd.R_reads' HO1225.out).2.2 | (with_reducible refine Kd.C_alloc ?_ _) | (with_reducible refine Kd.C_drewN ?_ _) | (with_reducible refine Kd.C_drew ?_)))
             (case side2 => exact (Kd.R_reads' HO1225.out).2.1)
             rintro e w67 ⟨rfl, hb⟩
             refine ⟨_, rfl, ?_⟩
             replace HO1225 := Aside0.mk (Kd.R_below (by (with_reducible repeat (first | apply Kd.R_alloc | apply Kd.R_drewN | apply Kd.R_drew)); exact HO1225.out) hb)
             replace BK1198 := zkb BK1198 hb
             replace BK1199 := zkb BK1199 hb
             replace HB := zkB HB hb
             (try clear hb)
             refine hK.out _ _ (zk3 BK1198 (ze3 BK1199)) (fun hHeld => ?_)
             clear hK K
             refine znA 57 (h := ?_)
             refine zoA 6 60 (h := fun K hK => ?_)
             refine zgA Try.func46 (flyballref16_Join.calls kj32 a0_0 a0_1 a0_2 a1_0 a1_1 a1_2 t1229 t1230 t1231 _ A48.out) (h := ?_)
             rintro w68 hb
             replace HO1225 := Aside0.mk (Kd.R_below (by (with_reducible repeat (first | apply Kd.R_alloc | apply Kd.R_drewN | apply Kd.R_drew)); exact HO1225.out) hb)
             replace BK1198 := zkb BK1198 hb
             replace BK1199 := zkb BK1199 hb
             replace HB := zkB HB hb
             (try clear hb)
             refine hK.out _ _ (zk3 BK1198 (ze3 BK1199)) (fun hHeld => ?_)
             clear hK K
             refine znA 60 (h := ?_)
             refine zpA 7 61 (h := ?_)
             refine zpA 8 62 (h := ?_)
             refine ztA 9 63 (h := ?_)
             refine ztA 10 64 (h := ?_)
             refine ztA 12 66 (h := ?_)
             refine ztA 13 67 (h := ?_)
             refine zoA 11 65 (h := fun K hK => ?_)
             refine zgA Try.func47 (span_Meet.calls kj32 a0_0 a0_1 a0_2 a1_0 a1_1 a1_2 t1232 t1233 t1234 _ A50.out) (h := ?_)
             rintro w69 hb
             replace HO1225 := Aside0.mk (Kd.R_below (by (with_reducible repeat (first | apply Kd.R_alloc | apply Kd.R_drewN | apply Kd.R_drew)); exact HO1225.out) hb)
             replace BK1198 := zkb BK1198 hb
             replace BK1199 := zkb BK1199 hb
             replace HB := zkB HB hb
             (try clear hb)
             refine hK.out _ _ (zk3 BK1198 (ze3 BK1199)) (fun hHeld => ?_)
             clear hK K
             refine znA 65 (h := ?_)
             refine zoA 14 68 (h := fun K hK => ?_)
             refine zgA Try.func48 (flyballref16_Meet.calls kj32 a0_0 a0_1 a0_2 a1_0 a1_1 a1_2 t1235 t1236 t1237 _ A51.out) (h := ?_)
             rintro w70 hb
             replace HO1225 := Aside0.mk (Kd.R_below (by (with_reducible repeat (first | apply Kd.R_alloc | apply Kd.R_drewN | apply Kd.R_drew)); exact HO1225.out) hb)
             replace BK1198 := zkb BK1198 hb
             replace BK1199 := zkb BK1199 hb
             replace HB := zkB HB hb
             (try clear hb)
             refine hK.out _ _ (zk3 BK1198 (ze3 BK1199)) (fun hHeld => ?_)
             clear hK K
             refine znA 68 (h := ?_)
             refine zpA 15 69 (h := ?_)
             refine zpA 16 70 (h := ?_)
             refine zpA 17 71 (h := ?_)
             refine ztA 18 72 (h := ?_)
             refine ztA 21 75 (h := ?_)
             refine zoA 19 73 (h := fun K hK => ?_)
             refine Kd.R_lit_step k43 _ 43 ?hg (N := 73) ?hd (xs := ([(⟨a0_0, a0_1, a0_2⟩ : S43)] : List (S43))) (inner := [.bool a0_0, .int .u64 a0_1, .int .u64 a0_2]) (ok := fun _ => True) (okp := fun _ => True) ?hr ?hp (fun _ hk => hk) trivial (Below.refl _ _) (Nat.le_refl _) (by simp) ?_; (case hd => rfl); (case hg => rfl); (case hr => first | (go_simp; done) | (go_simp; rfl)); (case hp => exact (Reps.c3 (show Kd.M k43 _ _ _ (⟨a0_0, a0_1, a0_2⟩ : S43) [.bool a0_0, .int .u64 a0_1, .int .u64 a0_2] from (k43_mkM _ _ _ (⟨a0_0, a0_1, a0_2⟩ : S43) )) (Reps.none _ _)))
             intro v1239 w71 ho72 hb hg_ hnew_
             clear hg_ hnew_
             (first | rw [← Ny1238.out] at ho72 | (simp only [Int.reduceToNat] at ho72; rw [← Ny1238.out] at ho72))
             have HO1240 := Aside0.mk (Kd.R_lower (Kd.R_newB (Kd.R_newB (Kd.R_new' ho72 (Kd.R_lt (by (with_reducible repeat (first | apply Kd.R_alloc | apply Kd.R_drewN | apply Kd.R_drew)); exact HO1225.out))) (g := gb1198) (o := .cells #[.bool a0_0, .int .u64 a0_1, .int .u64 a0_2] 43 (0, 0)) (zkq BK1198)) (g := gb1199) (o := .cells #[.bool a1_0, .int .u64 a1_1, .int .u64 a1_2] 43 (0, 0)) (zkq BK1199)) (below_size zaB))
             replace HO1225 := Aside0.mk (Kd.R_elder' (by (with_reducible repeat (first | apply Kd.R_alloc | apply Kd.R_drewN | apply Kd.R_drew)); exact HO1225.out) (Kd.R_base ho72) hb)
             replace BK1198 := zkb BK1198 hb
             replace BK1199 := zkb BK1199 hb
             replace HB := zkB HB hb
             clear hb ho72
             obtain ⟨Ao73, co73, eo73⟩ := Kd.R_slice HO1240.out
             (first | subst eo73 | (injection eo73 with f1_ f2_ f3_; have f4_ := f1_.symm; have f5_ := f3_.symm; clear f1_ f2_ f3_; subst f4_; subst f5_))
             refine hK.out _ _ (zk3 BK1198 (ze3 BK1199)) (fun hHeld => ?_)
             clear hK K
             refine znA 73 (h := ?_)
             refine zoA 20 74 (h := fun K hK => ?_)
             refine goes_ Try.func45 (by kernel_rfl) rfl #[.slice Ao73 y1238.length co73] (by rfl) rfl rfl (by (try simp only [List.map_toArray, List.map_cons, List.map_nil]); first | done | rfl | (simp only [List.length_drop, List.length_take]; rfl)) ?_
             with_reducible refine (span_Join.calls kj32 _ _ y1238 t1241 t1242 t1243 _ ?side1 ?side2 A53.out).mono ?_
             (case side1 => repeat (first | exact (Kd.R_reads' HO1240.out).2.2 | (with_reducible refine Kd.C_alloc ?_ _) | (with_reducible refine Kd.C_drewN ?_ _) | (with_reducible refine Kd.C_drew ?_)))
             (case side2 => exact (Kd.R_reads' HO1240.out).2.1)
             rintro e w74 ⟨rfl, hb⟩
             refine ⟨_, rfl, ?_⟩
             replace HO1225 := Aside0.mk (Kd.R_below (by (with_reducible repeat (first | apply Kd.R_alloc | apply Kd.R_drewN | apply Kd.R_drew)); exact HO1225.out) hb)
             replace HO1240 := Aside0.mk (Kd.R_below (by (with_reducible repeat (first | apply Kd.R_alloc | apply Kd.R_drewN | apply Kd.R_drew)); exact HO1240.out) hb)
             replace BK1198 := zkb BK1198 hb
             replace BK1199 := zkb BK1199 hb
             replace HB := zkB HB hb
             (try clear hb)
             refine hK.out _ _ (zk3 BK1198 (ze3 BK1199)) (fun hHeld => ?_)
             clear hK K
             refine znA 74 (h := ?_)
             refine zoA 22 76 (h := fun K hK => ?_)
             refine zgA Try.func49 (flyballref16_Norm.calls kj32 a0_0 a0_1 a0_2 t1244 t1245 t1246 _ A54.out) (h := ?_)
             rintro w75 hb
             replace HO1225 := Aside0.mk (Kd.R_below (by (with_reducible repeat (first | apply Kd.R_alloc | apply Kd.R_drewN | apply Kd.R_drew)); exact HO1225.out) hb)
             replace HO1240 := Aside0.mk (Kd.R_below (by (with_reducible repeat (first | apply Kd.R_alloc | apply Kd.R_drewN | apply Kd.R_drew)); exact HO1240.out) hb)
             replace BK1198 := zkb BK1198 hb
             replace BK1199 := zkb BK1199 hb
             replace HB := zkB HB hb
             (try clear hb)
             refine hK.out _ _ (zk3 BK1198 (ze3 BK1199)) (fun hHeld => ?_)
             clear hK K
             refine znA 76 (h := ?_)
             refine zpA 23 77 (h := ?_)
             refine zpA 24 78 (h := ?_)
             refine zpA 25 79 (h := ?_)
             refine zpA 27 81 (h := ?_)
             refine zoA 26 80 (h := fun K hK => ?_)
             refine goes_ Try.func45 (by kernel_rfl) rfl #[.slice none 0 0] (by rfl) rfl rfl (by (try simp only [List.map_toArray, List.map_cons, List.map_nil]); first | done | rfl | (simp only [List.length_drop, List.length_take]; rfl)) ?_
             refine (span_Join.calls kj32 _ _ ([] : List (S43)) t1247 t1248 t1249 _ ?side1 ?side2 A56.out).mono ?_
             (case side1 => exact Kd.C_nil _ _)
             (case side2 => exact Nat.le_refl _)
             rintro e w76 ⟨rfl, hb⟩
             refine ⟨_, rfl, ?_⟩
             replace HO1225 := Aside0.mk (Kd.R_below (by (with_reducible repeat (first | apply Kd.R_alloc | apply Kd.R_drewN | apply Kd.R_drew)); exact HO1225.out) hb)
             replace HO1240 := Aside0.mk (Kd.R_below (by (with_reducible repeat (first | apply Kd.R_alloc | apply Kd.R_drewN | apply Kd.R_drew)); exact HO1240.out) hb)
             replace BK1198 := zkb BK1198 hb
             replace BK1199 := zkb BK1199 hb
             replace HB := zkB HB hb
             (try clear hb)
             refine hK.out _ _ (zk3 BK1198 (ze3 BK1199)) (fun hHeld => ?_)
             clear hK K
             refine znA 80 (h := ?_)
             refine zpA 28 82 (h := ?_)
             refine zpA 29 83 (h := ?_)
             refine zpA 30 10 (h := ?_)
             refine done_ (done_of HT_.out (by kernel_rfl)) ?_
             try go_wp2
             replace HO1225 := Aside0.mk (Kd.R_drew HO1225.out)
             replace HO1240 := Aside0.mk (Kd.R_drew HO1240.out)
             replace BK1198 := Aside0.mk (blk_drew BK1198.out)
             replace BK1199 := Aside0.mk (blk_drew BK1199.out)
             replace HB := Aside0.mk (below_drew1 HB.out)
             refine start_ (n := 18) (S := fun w' => w'.cell? ⟨gb1198, 0, none⟩ = some (.bool a0_0) ∧ w'.cell? ⟨gb1198, 1, none⟩ = some (.int .u64 a0_1) ∧ w'.cell? ⟨gb1198, 2, none⟩ = some (.int .u64 a0_2)) (ds := []) #[false, false, false, false, false, false, false, false, false, false, false, false, false, false, false, false, false, false] (by kernel_rfl) rfl rfl (ze3 BK1198) (fun hHeld => ?_); refine with_tabW flyballlaw16_SpanMakes.tab7 flyballlaw16_SpanMakes.bits7 (fun HT_ HW_ => ?_)
             generalize w76.drew = w77 at HO1225 HO1240 BK1198 BK1199 HB hHeld ⊢
             refine zpA 0 84 (h := ?_)
             refine zpA 1 85 (h := ?_)
             refine zpA 2 86 (h := ?_)
             refine zpA 3 87 (h := ?_)
             refine zpA 4 88 (h := ?_)
             refine zpA 5 89 (h := ?_)
             refine zpA 6 90 (h := ?_)
             refine zpA 7 91 (h := ?_)
             refine zpA 8 92 (h := ?_)
             refine zpA 9 93 (h := ?_)
             refine zpA 10 94 (h := ?_)
             refine ztA 11 95 (h := ?_)
             refine ztA 13 97 (h := ?_)
             refine zoA 12 96 (h := fun K hK => ?_)
             refine zgA Try.func50 (span_Most.calls kj32 a0_0 a0_1 a0_2 t1250 _ A61.out) (h := ?_)
             rintro w78 hb
             replace HO1225 := Aside0.mk (Kd.R_below (by (with_reducible repeat (first | apply Kd.R_alloc | apply Kd.R_drewN | apply Kd.R_drew)); exact HO1225.out) hb)
             replace HO1240 := Aside0.mk (Kd.R_below (by (with_reducible repeat (first | apply Kd.R_alloc | apply Kd.R_drewN | apply Kd.R_drew)); exact HO1240.out) hb)
             replace BK1198 := zkb BK1198 hb
             replace BK1199 := zkb BK1199 hb
             replace HB := zkB HB hb
             (try clear hb)
             refine hK.out _ _ (ze3 BK1198) (fun hHeld => ?_)
             clear hK K
             refine znA 96 (h := ?_)
             refine zoA 14 98 (h := fun K hK => ?_)
             refine zgA Try.func51 (flyballref16_Most.calls kj32 a0_0 a0_1 a0_2 t1251 _ A62.out) (h := ?_)
             rintro w79 hb
             replace HO1225 := Aside0.mk (Kd.R_below (by (with_reducible repeat (first | apply Kd.R_alloc | apply Kd.R_drewN | apply Kd.R_drew)); exact HO1225.out) hb)
             replace HO1240 := Aside0.mk (Kd.R_below (by (with_reducible repeat (first | apply Kd.R_alloc | apply Kd.R_drewN | apply Kd.R_drew)); exact HO1240.out) hb)
             replace BK1198 := zkb BK1198 hb
             replace BK1199 := zkb BK1199 hb
             replace HB := zkB HB hb
             (try clear hb)
             refine hK.out _ _ (ze3 BK1198) (fun hHeld => ?_)
             clear hK K
             refine znA 98 (h := ?_)
             refine zpA 15 99 (h := ?_)
             refine zpA 16 100 (h := ?_)
             refine zpA 17 6 (h := ?_)
             refine done_ (done_of HT_.out (by kernel_rfl)) ?_
             try go_wp2
             go_ret
             exact ⟨zaE, zaB⟩
            rw [if_neg c60] at H
            have c60b0 : (t1247 && (t1248 == 0 && (t1249 == 0))) = false := by simpa using c60
            clear c60
            subst hr_
            cases H
           replace c59 := Bool.eq_false_iff.mpr c59
           subst c59
           replace H := zif H
           subst hr_
           cases H
          replace c58 := Bool.eq_false_iff.mpr c58
          subst c58
          replace H := zif H
          subst hr_
          cases H
         exact absurd rfl c57
        rw [if_neg c55] at H
        have c55b0 : (t1241 == t1244 && (t1242 == t1245 && (t1243 == t1246))) = false := by simpa using c55
        (try (have c55b1 : decide (t1241 = t1244 && (t1242 == t1245 && (t1243 == t1246))) = false := by simpa using c55))
        (try (have c55b2 : (t1241 == t1244 && (t1242 == t1245 && (t1243 == t1246))) = false := by simpa using c55))
        (try (have c55b3 : ¬ (t1241 = t1244 && (t1242 == t1245 && (t1243 == t1246))) := by simpa using c55))
        clear c55
        by_cases c140 : true = true
        ·skip
         have H1 : (if x8_5 = true then (if x9_32 = true then (some false) else (some false)) else (some false)) = some r := by first | (rw [if_pos rfl] at H; exact H) | (rw [if_pos trivial] at H; exact H)
         clear H
         have H := H1
         clear H1
         by_cases c141 : x8_5 = true
         ·subst c141
          replace H := zit H
          by_cases c142 : x9_32 = true
          ·subst c142
           replace H := zit H
           subst hr_
           cases H
          replace c142 := Bool.eq_false_iff.mpr c142
          subst c142
          replace H := zif H
          subst hr_
          cases H
         replace c141 := Bool.eq_false_iff.mpr c141
         subst c141
         replace H := zif H
         subst hr_
         cases H
        exact absurd rfl c140
       rw [if_neg c52] at H
       have c52b0 : (t1232 == t1235 && (t1233 == t1236 && (t1234 == t1237))) = false := by simpa using c52
       (try (have c52b1 : decide (t1232 = t1235 && (t1233 == t1236 && (t1234 == t1237))) = false := by simpa using c52))
       (try (have c52b2 : (t1232 == t1235 && (t1233 == t1236 && (t1234 == t1237))) = false := by simpa using c52))
       (try (have c52b3 : ¬ (t1232 = t1235 && (t1233 == t1236 && (t1234 == t1237))) := by simpa using c52))
       clear c52
       by_cases c199 : true = true
       ·skip
        have H1 : (if x8_5 = true then (if x9_32 = true then (some false) else (some false)) else (some false)) = some r := by first | (rw [if_pos rfl] at H; exact H) | (rw [if_pos trivial] at H; exact H)
        clear H
        have H := H1
        clear H1
        by_cases c200 : x8_5 = true
        ·subst c200
         replace H := zit H
         by_cases c201 : x9_32 = true
         ·subst c201
          replace H := zit H
          subst hr_
          cases H
         replace c201 := Bool.eq_false_iff.mpr c201
         subst c201
         replace H := zif H
         subst hr_
         cases H
        replace c200 := Bool.eq_false_iff.mpr c200
        subst c200
        replace H := zif H
        subst hr_
        cases H
       exact absurd rfl c199
      rw [if_neg c49] at H
      have c49b0 : (t1226 == t1229 && (t1227 == t1230 && (t1228 == t1231))) = false := by simpa using c49
      (try (have c49b1 : decide (t1226 = t1229 && (t1227 == t1230 && (t1228 == t1231))) = false := by simpa using c49))
      (try (have c49b2 : (t1226 == t1229 && (t1227 == t1230 && (t1228 == t1231))) = false := by simpa using c49))
      (try (have c49b3 : ¬ (t1226 = t1229 && (t1227 == t1230 && (t1228 == t1231))) := by simpa using c49))
      clear c49
      by_cases c238 : true = true
      ·skip
       have H1 : (if x8_5 = true then (if x9_32 = true then (some false) else (some false)) else (some false)) = some r := by first | (rw [if_pos rfl] at H; exact H) | (rw [if_pos trivial] at H; exact H)
       clear H
       have H := H1
       clear H1
       by_cases c239 : x8_5 = true
       ·subst c239
        replace H := zit H
        by_cases c240 : x9_32 = true
        ·subst c240
         replace H := zit H
         subst hr_
         cases H
        replace c240 := Bool.eq_false_iff.mpr c240
        subst c240
        replace H := zif H
        subst hr_
        cases H
       replace c239 := Bool.eq_false_iff.mpr c239
       subst c239
       replace H := zif H
       subst hr_
       cases H
      exact absurd rfl c238
 replace c5 := Bool.eq_false_iff.mpr c5
 subst c5
 replace H := zif H
 subst hr_
 cases H
end Go.Proofs.Ytmadjhmecfbcmaa.F
end
section
namespace Go.Proofs.Ytmadjhmecfbcmaa.M
open Go.RowKit Go.Proofs.YtmadjhmecfbcmaaW.PrintWords Go.Proofs.YtmadjhmecfbcmaaW.PrintLast Go.Proofs.YtmadjhmecfbcmaaW.PrintMore Go.Proofs.Ytmadjhmecfbcmaa.F
def sgn (a : Nat) : Bool := a / 9223372036854775808 == 1
def ex (a : Nat) : Nat := a / 4503599627370496 % 2048
def fr (a : Nat) : Nat := a % 4503599627370496
def cls (a : Nat) : Nat := if ex a = 2047 then (if fr a = 0 then 3 else 4) else if ex a = 0 then (if fr a = 0 then 0 else 1) else 2
def spm (a : Nat) : Nat := if cls a = 2 then 4503599627370496 + fr a else if cls a = 1 then fr a else 0
def spe (a : Nat) : Int := if cls a = 2 then (ex a : Int) - 1075 else if cls a = 1 then -1074 else 0
def key (a : Nat) : Nat := a % 9223372036854775808
def U (a : Nat) : Prop := a < 18446744073709551616
theorem sgn_cast (a : Nat) : ((a : Int) / 9223372036854775808 == 1) = sgn a := by
  unfold sgn
  rw [Bool.eq_iff_iff, beq_iff_eq, beq_iff_eq]; omega
theorem ex_lt (a : Nat) : ex a < 2048 := by unfold ex; omega
theorem fr_lt (a : Nat) : fr a < 4503599627370496 := by unfold fr; omega
theorem key_lt (a : Nat) : key a < 9223372036854775808 := by unfold key; omega
theorem key_parts' (a : Nat) : key a = ex a * 4503599627370496 + fr a := by unfold key ex fr; omega
theorem a_parts (a : Nat) (h : U a) : a = sg (sgn a) + key a := by
  unfold sg sgn key U at *
  by_cases e : a / 9223372036854775808 = 1
  · rw [beq_iff_eq.2 e, if_pos rfl]; omega
  · rw [beq_eq_false_iff_ne.2 e, if_neg (by simp)]; omega
theorem Parts_ok (a : Nat) (h : U a) : pattern_Parts.f (a : Int) = some (sgn a, (ex a : Int), (fr a : Int)) := by
  unfold pattern_Parts.f U at *
  rw [sgn_cast, show (a : Int) / 4503599627370496 = ((a / 4503599627370496 : Nat) : Int) from by omega, and_2047 _ (by omega), and_52 _ h, w64 (by omega) (by omega)]
  rfl
theorem ref_Parts_ok (a : Nat) (h : U a) : flyballref04_Parts.f (a : Int) = some (sgn a, (ex a : Int), (fr a : Int)) := by
  unfold flyballref04_Parts.f U at *
  have e1 : Int.tdiv (a : Int) 9223372036854775808 = (a : Int) / 9223372036854775808 := Int.tdiv_eq_ediv_of_nonneg (by omega)
  have e2 : Int.tdiv (a : Int) 4503599627370496 = (a : Int) / 4503599627370496 := Int.tdiv_eq_ediv_of_nonneg (by omega)
  have e3 : Int.tmod (a : Int) 4503599627370496 = (a : Int) % 4503599627370496 := Int.tmod_eq_emod_of_nonneg (by omega)
  rw [e1, e2, e3, wu64 (by omega) (by omega), wu64 (by omega) (by omega), sgn_cast, Int.tmod_eq_emod_of_nonneg (by omega), w64 (by omega) (by omega)]
  unfold ex fr
  congr 3
theorem Class_ev (a : Nat) (h : U a) : Ev (fun k => pattern_Class.f k (a : Int)) (cls a : Int) := by
  refine Ev.later 2 fun k => ?_
  unfold pattern_Class.f
  rw [bind_of _ (Parts_ok a h)]
  dsimp only
  have e1 : ((fr a : Int) == 0) = decide (fr a = 0) := by rw [Bool.eq_iff_iff]; simp
  rw [e1]
  unfold cls
  by_cases c1 : ex a = 2047
  · rw [if_pos (by omega), if_pos c1]
    by_cases c2 : fr a = 0
    · simp [pattern_Class.j0, c2]
    · simp [pattern_Class.j0, c2, c1]
  · rw [if_neg (by omega), if_neg c1]
    by_cases c3 : ex a = 0
    · by_cases c2 : fr a = 0
      · simp [pattern_Class.j0, pattern_Class.j1, c2, c3]
      · simp [pattern_Class.j0, pattern_Class.j1, c2, c3]
    · have : ¬ ((ex a : Int) = 2047) := by omega
      simp [pattern_Class.j0, pattern_Class.j1, this, c3]
theorem ref_Class_ev (a : Nat) (h : U a) : Ev (fun k => flyballref04_Class.f k (a : Int)) (cls a : Int) := by
  refine Ev.later 2 fun k => ?_
  unfold flyballref04_Class.f
  rw [bind_of _ (ref_Parts_ok a h)]
  dsimp only
  have e1 : ((fr a : Int) == 0) = decide (fr a = 0) := by rw [Bool.eq_iff_iff]; simp
  rw [e1]
  unfold cls
  by_cases c1 : ex a = 2047
  · rw [if_pos (by omega), if_pos c1]
    by_cases c2 : fr a = 0
    · simp [flyballref04_Class.j0, c2]
    · simp [flyballref04_Class.j0, c2, c1]
  · rw [if_neg (by omega), if_neg c1]
    by_cases c3 : ex a = 0
    · by_cases c2 : fr a = 0
      · simp [flyballref04_Class.j0, flyballref04_Class.j1, c2, c3]
      · simp [flyballref04_Class.j0, flyballref04_Class.j1, c2, c3]
    · have : ¬ ((ex a : Int) = 2047) := by omega
      simp [flyballref04_Class.j0, flyballref04_Class.j1, this, c3]
theorem cls_le (a : Nat) : cls a ≤ 4 := by unfold cls; (repeat' split) <;> omega
theorem spm_lt (a : Nat) : spm a < 9007199254740992 := by have := fr_lt a; unfold spm; (repeat' split) <;> omega
theorem spe_bd (a : Nat) : -1074 ≤ spe a ∧ spe a ≤ 971 := by
  unfold spe
  split
  · rename_i h
    have := ex_lt a
    have : 1 ≤ ex a ∧ ex a ≠ 2047 := by unfold cls at h; (repeat' split at h) <;> first | omega | (refine ⟨by omega, by omega⟩)
    omega
  · split <;> omega
theorem split_mn (a : Nat) : (if (cls a : Int) = 2 then (some ((4503599627370496 : Int) + (fr a : Int), (ex a : Int) - 1075)) else (if (cls a : Int) = 1 then (some ((fr a : Int), (-1074 : Int))) else (some (0, 0)))) = some ((spm a : Int), spe a) := by
  unfold spm spe
  by_cases c1 : cls a = 2
  · simp only [c1, if_true]; rw [Int.natCast_add]; rfl
  · have h1 : ¬ (cls a : Int) = 2 := by omega
    by_cases c2 : cls a = 1
    · have h2 : (cls a : Int) = 1 := by omega
      rw [if_neg h1, if_pos h2, if_neg c1, if_neg c1, if_pos c2, if_pos c2]
    · have h2 : ¬ (cls a : Int) = 1 := by omega
      rw [if_neg h1, if_neg h2, if_neg c1, if_neg c1, if_neg c2, if_neg c2]; rfl
theorem Split_ev (a : Nat) (h : U a) : Ev (fun k => pattern_Split.f k (a : Int)) ((spm a : Int), spe a) := by
  unfold pattern_Split.f
  refine Ev.b _ (Ev.const (Parts_ok a h)) (Ev.b _ (Class_ev a h) (Ev.const ?_))
  dsimp only
  have h1 := fr_lt a
  have h2 := ex_lt a
  have e1 : bits .or .u64 4503599627370496 (fr a : Int) = 4503599627370496 + (fr a : Int) := by
    have := or_join 4503599627370496 (fr a) 52 (by decide) (by omega) (by decide) (by omega)
    rw [Int.natCast_add] at this; exact this
  have e2 : wrap64 ((ex a : Int) - 1075) = (ex a : Int) - 1075 := w64 (by omega) (by omega)
  refine Eq.trans ?_ (split_mn a)
  rw [e1, e2]
theorem of_ev (a : Nat) (h : U a) : Ev (fun k => soft_of.f k (a : Int)) ((a : Int), (cls a : Int), sgn a, (spm a : Int), spe a) := by
  unfold soft_of.f
  refine Ev.b _ (Split_ev a h) (Ev.b _ (Class_ev a h) (Ev.const ?_))
  rw [sgn_cast]
def mk (neg : Bool) (e f : Nat) : Nat := sg neg + (e * 4503599627370496 + f)
theorem Make_ev (neg : Bool) (e f : Nat) (he : e ≤ 2047) (hf : f < 4503599627370496) : Ev (fun k => pattern_Make.f k neg (e : Int) (f : Int)) ((mk neg e f : Int), 0) := by
  refine Ev.later 1 fun k => ?_
  unfold pattern_Make.f
  rw [if_neg (by omega), if_neg (by omega), decide_eq_false (by omega)]
  simp only [pattern_Make.j0]
  rw [if_neg (by simp), wu64 (n := (e : Int)) (by omega) (by omega), wu64 (n := (e : Int) * 4503599627370496) (by omega) (by omega)]
  rw [show (e : Int) * 4503599627370496 = ((e * 4503599627370496 : Nat) : Int) from by omega]
  rw [or_join (e * 4503599627370496) f 52 (by omega) hf (by omega) (by omega)]
  unfold mk sg
  cases neg
  · rw [if_neg (by simp)]; simp
  · rw [if_pos rfl, show (9223372036854775808 : Int) = ((9223372036854775808 : Nat) : Int) from rfl, or_join' 9223372036854775808 _ 63 (by decide) (by omega) (by decide) (by omega)]
    simp
theorem zero_ev (neg : Bool) : Ev (fun k => soft_zero.f k neg) (sg neg : Int) := by
  unfold soft_zero.f
  exact Ev.b _ (Make_ev neg 0 0 (by omega) (by omega)) (Ev.now _)
theorem Inf_ev (neg : Bool) : Ev (fun k => pattern_Inf.f k neg) ((sg neg + 9218868437227405312 : Nat) : Int) := by
  unfold pattern_Inf.f
  exact Ev.b _ (Make_ev neg 2047 0 (by omega) (by omega)) (Ev.now _)
theorem nan_ev (a : Nat) (h : U a) : Ev (fun k => pattern_nan.f k (a : Int)) (decide (cls a = 4)) := by
  unfold pattern_nan.f
  refine Ev.b _ (Class_ev a h) (Ev.const ?_)
  congr 1; rw [Bool.eq_iff_iff, beq_iff_eq, decide_eq_true_iff]; omega
theorem flip_U (a : Nat) (h : U a) : U (flip a) := by unfold U flip at *; split <;> omega
def ng (a : Nat) : Nat := if cls a = 4 then a else flip a
theorem ng_U (a : Nat) (h : U a) : U (ng a) := by unfold ng; split; exact h; exact flip_U a h
theorem Neg_ev (a : Nat) (h : U a) : Ev (fun k => pattern_Neg.f k (a : Int)) (ng a : Int) := by
  unfold pattern_Neg.f
  refine Ev.b _ (nan_ev a h) (Ev.const ?_)
  unfold ng
  by_cases c : cls a = 4
  · rw [decide_eq_true c, if_pos rfl, if_pos c]
  · rw [decide_eq_false c, if_neg (by simp), if_neg c, xor_sign a h]
end Go.Proofs.Ytmadjhmecfbcmaa.M
end
section
namespace Go.Proofs.Ytmadjhmecfbcmaa.M
open Go.RowKit Go.Proofs.YtmadjhmecfbcmaaW.PrintWords Go.Proofs.YtmadjhmecfbcmaaW.PrintLast Go.Proofs.YtmadjhmecfbcmaaW.PrintMore Go.Proofs.Ytmadjhmecfbcmaa.F
theorem mod_mul_add (x B d : Nat) (hd : d < B) : (x * B + d) % (B * B) = x % B * B + d := by
  have h1 := Nat.div_add_mod x B
  have hB : 0 < B := by omega
  have h2 : x * B + d = (x % B * B + d) + (B * B) * (x / B) := by
    have : x * B = (B * (x / B) + x % B) * B := by rw [h1]
    rw [this, Nat.add_mul]; grind
  rw [h2, Nat.add_mul_mod_self_left]
  apply Nat.mod_eq_of_lt
  have : x % B + 1 ≤ B := Nat.mod_lt x hB
  have : (x % B + 1) * B ≤ B * B := Nat.mul_le_mul_right B this
  rw [Nat.add_mul] at this; omega
theorem mul_mod_join (hi c B P Q : Nat) (hPQ : P * Q = B) (hQ : 0 < Q) (hc : c < P) : (hi * P + c) % B = hi * P % B + c := by
  have e : hi * P % B = hi % Q * P := by
    rw [← hPQ, Nat.mul_comm hi P, Nat.mul_mod_mul_left, Nat.mul_comm]
  have h1 := Nat.div_add_mod hi Q
  have h2 : hi * P + c = (hi % Q * P + c) + B * (hi / Q) := by
    have : hi * P = (Q * (hi / Q) + hi % Q) * P := by rw [h1]
    rw [this, ← hPQ]; grind
  rw [h2, Nat.add_mul_mod_self_left, e]
  apply Nat.mod_eq_of_lt
  have : hi % Q + 1 ≤ Q := Nat.mod_lt hi hQ
  have : (hi % Q + 1) * P ≤ Q * P := Nat.mul_le_mul_right P this
  rw [Nat.add_mul, Nat.mul_comm Q P] at this; omega
def tw (V : Nat) : Int × Int := (((V / 18446744073709551616 : Nat) : Int), ((V % 18446744073709551616 : Nat) : Int))
theorem tw_join (q d : Nat) (h : d < 18446744073709551616) : tw (q * 18446744073709551616 + d) = ((q : Int), (d : Int)) := by
  rw [tw, show (q * 18446744073709551616 + d) / 18446744073709551616 = q by omega, show (q * 18446744073709551616 + d) % 18446744073709551616 = d by omega]
theorem shl_arith (hi lo n : Nat) (h1 : lo < 18446744073709551616) (hn : n < 64) :
    (hi * 18446744073709551616 + lo) * 2 ^ n % (18446744073709551616 * 18446744073709551616) =
      (hi * 2 ^ n % 18446744073709551616 + lo / 2 ^ (64 - n)) * 18446744073709551616 + lo * 2 ^ n % 18446744073709551616 := by
  have hPQ : 2 ^ n * 2 ^ (64 - n) = 18446744073709551616 := by rw [← Nat.pow_add, show n + (64 - n) = 64 by omega]
  have hc : lo * 2 ^ n / 18446744073709551616 = lo / 2 ^ (64 - n) := by
    rw [← hPQ, Nat.mul_comm lo, Nat.mul_div_mul_left _ _ (two_pos n)]
  have hc2 : lo / 2 ^ (64 - n) < 2 ^ n := by rw [Nat.div_lt_iff_lt_mul (two_pos _), hPQ]; exact h1
  have h2 := Nat.div_add_mod (lo * 2 ^ n) 18446744073709551616
  have e : (hi * 18446744073709551616 + lo) * 2 ^ n = (hi * 2 ^ n + lo / 2 ^ (64 - n)) * 18446744073709551616 + lo * 2 ^ n % 18446744073709551616 := by
    rw [← hc, Nat.add_mul, Nat.add_mul, Nat.mul_right_comm]; omega
  rw [e, mod_mul_add _ _ _ (Nat.mod_lt _ (by decide)), mul_mod_join _ _ _ _ _ hPQ (two_pos _) hc2]
theorem Shl_ev (n : Nat) : ∀ (hi lo : Nat), hi < 18446744073709551616 → lo < 18446744073709551616 → n < 1000000 →
    Ev (fun k => wide_U128_Shl.l0 k (n : Int) (hi : Int) (lo : Int)) (tw ((hi * 18446744073709551616 + lo) * 2 ^ n % (18446744073709551616 * 18446744073709551616))) := by
  induction n using Nat.strongRecOn with
  | _ n ih =>
  intro hi lo hhi hlo hn
  refine Ev.next ?_
  simp only [wide_U128_Shl.l0]
  by_cases c : 64 ≤ n
  · have hB : 2 ^ n = 18446744073709551616 * 2 ^ (n - 64) := by rw [← show 64 + (n - 64) = n by omega, Nat.pow_add, show 64 + (n - 64) - 64 = n - 64 by omega]
    have e : (hi * 18446744073709551616 + lo) * 2 ^ n % (18446744073709551616 * 18446744073709551616) = (lo * 18446744073709551616 + 0) * 2 ^ (n - 64) % (18446744073709551616 * 18446744073709551616) := by
      have : (hi * 18446744073709551616 + lo) * 2 ^ n = (lo * 18446744073709551616 + 0) * 2 ^ (n - 64) + (18446744073709551616 * 18446744073709551616) * (hi * 2 ^ (n - 64)) := by rw [hB]; grind
      rw [this, Nat.add_mul_mod_self_left]
    rw [e]
    by_cases z : lo = 0
    · subst z
      refine Ev.all fun k => ?_
      rw [if_pos (by omega), if_pos (by rfl)]
      simp [tw]
    · have := ih (n - 64) (by omega) lo 0 hlo (by omega) (by omega)
      refine Ev.congr (fun k => ?_) this
      have z' : ¬ ((lo : Int) == 0) = true := by rw [beq_iff_eq]; omega
      rw [if_pos (by omega), if_neg z', w64 (by omega) (by omega), show (n : Int) - 64 = ((n - 64 : Nat) : Int) from by omega]; rfl
  · refine Ev.all fun k => ?_
    rw [if_neg (by omega)]
    by_cases z : n = 0
    · subst z
      rw [if_pos (by omega)]
      have : (hi * 18446744073709551616 + lo) * 2 ^ 0 % (18446744073709551616 * 18446744073709551616) = hi * 18446744073709551616 + lo := by omega
      rw [this, tw, show (hi * 18446744073709551616 + lo) / 18446744073709551616 = hi by omega, show (hi * 18446744073709551616 + lo) % 18446744073709551616 = lo by omega]
    · rw [if_neg (by omega), if_pos (by omega), w64 (by omega) (by omega), if_pos (by omega), shl_arith hi lo n hlo (by omega)]
      rw [show (64 : Int) - (n : Int) = ((64 - n : Nat) : Int) from by omega, shl_nat _ _ (by omega), shl_nat _ _ (by omega), shr_nat _ _ (by omega)]
      have hPQ : 2 ^ n * 2 ^ (64 - n) = 18446744073709551616 := by rw [← Nat.pow_add, show n + (64 - n) = 64 by omega]
      have hc2 : lo / 2 ^ (64 - n) < 2 ^ n := by rw [Nat.div_lt_iff_lt_mul (two_pos _), hPQ]; exact hlo
      have hm : hi * 2 ^ n % 18446744073709551616 % 2 ^ n = 0 := by
        rw [← hPQ, Nat.mul_comm hi, Nat.mul_mod_mul_left, Nat.mul_mod_right]
      have hl : lo / 2 ^ (64 - n) ≤ lo := Nat.div_le_self _ _
      have hlt : hi * 2 ^ n % 18446744073709551616 + lo / 2 ^ (64 - n) < 18446744073709551616 := by
        have := mul_mod_join hi (lo / 2 ^ (64 - n)) 18446744073709551616 (2 ^ n) (2 ^ (64 - n)) hPQ (two_pos _) hc2
        rw [← this]; exact Nat.mod_lt _ (by decide)
      rw [or_join _ _ n (Nat.mod_lt _ (by decide)) hc2 hm (by omega)]
      have hd : lo * 2 ^ n % 18446744073709551616 < 18446744073709551616 := Nat.mod_lt _ (by decide)
      generalize lo * 2 ^ n % 18446744073709551616 = d at *
      generalize hi * 2 ^ n % 18446744073709551616 + lo / 2 ^ (64 - n) = q at *
      rw [tw_join q d hd]
theorem U128_Shl (hi lo n : Nat) (h1 : hi < 18446744073709551616) (h2 : lo < 18446744073709551616) (hn : n < 1000000) :
    Ev (fun k => wide_U128_Shl.f k (hi : Int) (lo : Int) (n : Int)) (tw ((hi * 18446744073709551616 + lo) * 2 ^ n % (18446744073709551616 * 18446744073709551616))) := Shl_ev n hi lo h1 h2 hn
theorem shr_arith (hi lo n : Nat) (hlo : lo < 18446744073709551616) (h0 : 0 < n) (hn : n < 64) :
    (hi * 18446744073709551616 + lo) / 2 ^ n = hi / 2 ^ n * 18446744073709551616 + (hi * 2 ^ (64 - n) % 18446744073709551616 + lo / 2 ^ n) ∧
    (hi * 18446744073709551616 + lo) % 2 ^ n = lo % 2 ^ n ∧ hi * 2 ^ (64 - n) % 18446744073709551616 % 2 ^ (64 - n) = 0 ∧ lo / 2 ^ n < 2 ^ (64 - n) ∧
    hi * 2 ^ (64 - n) % 18446744073709551616 + lo / 2 ^ n < 18446744073709551616 ∧ (lo * 2 ^ (64 - n) % 18446744073709551616 = 0 ↔ lo % 2 ^ n = 0) := by
  have hPQ : 2 ^ n * 2 ^ (64 - n) = 18446744073709551616 := by rw [← Nat.pow_add, show n + (64 - n) = 64 by omega]
  have hQP : 2 ^ (64 - n) * 2 ^ n = 18446744073709551616 := by rw [Nat.mul_comm]; exact hPQ
  have hc2 : lo / 2 ^ n < 2 ^ (64 - n) := by rw [Nat.div_lt_iff_lt_mul (two_pos _), hQP]; exact hlo
  have p1 := two_pos n
  have p2 := two_pos (64 - n)
  have h4 : hi * 2 ^ (64 - n) % 18446744073709551616 = hi % 2 ^ n * 2 ^ (64 - n) := by
    rw [← hQP, Nat.mul_comm hi, Nat.mul_mod_mul_left, Nat.mul_comm]
  have h5 : lo * 2 ^ (64 - n) % 18446744073709551616 = lo % 2 ^ n * 2 ^ (64 - n) := by
    rw [← hQP, Nat.mul_comm lo, Nat.mul_mod_mul_left, Nat.mul_comm]
  have hx : hi % 2 ^ n < 2 ^ n := Nat.mod_lt _ p1
  refine ⟨?_, ?_, ?_, hc2, ?_, ?_⟩
  · rw [h4]
    have e : hi * 18446744073709551616 + lo = lo + 2 ^ n * (hi * 2 ^ (64 - n)) := by rw [← hPQ]; grind
    rw [e, Nat.add_mul_div_left _ _ p1]
    have := Nat.div_add_mod hi (2 ^ n)
    have e2 : hi * 2 ^ (64 - n) = hi / 2 ^ n * 18446744073709551616 + hi % 2 ^ n * 2 ^ (64 - n) := by
      rw [← hPQ]
      have : hi * 2 ^ (64 - n) = (2 ^ n * (hi / 2 ^ n) + hi % 2 ^ n) * 2 ^ (64 - n) := by rw [this]
      rw [this]; grind
    rw [e2]; omega
  · have e : hi * 18446744073709551616 + lo = lo + 2 ^ n * (hi * 2 ^ (64 - n)) := by rw [← hPQ]; grind
    rw [e, Nat.add_mul_mod_self_left]
  · rw [h4, Nat.mul_mod_left]
  · rw [h4]
    have h6 : (hi % 2 ^ n + 1) * 2 ^ (64 - n) ≤ 2 ^ n * 2 ^ (64 - n) := Nat.mul_le_mul_right _ hx
    rw [hPQ, Nat.add_mul] at h6; omega
  · rw [h5]
    constructor
    · intro h; rcases Nat.mul_eq_zero.1 h with h | h <;> omega
    · intro h; rw [h, Nat.zero_mul]
theorem Shr_ev (n : Nat) : ∀ (hi lo : Nat) (lost : Bool), hi < 18446744073709551616 → lo < 18446744073709551616 → n < 1000000 →
    Ev (fun k => wide_U128_Shr.l0 k (n : Int) lost (hi : Int) (lo : Int)) ((tw ((hi * 18446744073709551616 + lo) / 2 ^ n)).1, (tw ((hi * 18446744073709551616 + lo) / 2 ^ n)).2, lost || decide ((hi * 18446744073709551616 + lo) % 2 ^ n ≠ 0)) := by
  induction n using Nat.strongRecOn with
  | _ n ih =>
  intro hi lo lost hhi hlo hn
  refine Ev.next ?_
  simp only [wide_U128_Shr.l0]
  by_cases c : 64 ≤ n
  · have hB : 2 ^ n = 18446744073709551616 * 2 ^ (n - 64) := by rw [← show 64 + (n - 64) = n by omega, Nat.pow_add, show 64 + (n - 64) - 64 = n - 64 by omega]
    have e : (hi * 18446744073709551616 + lo) / 2 ^ n = (0 * 18446744073709551616 + hi) / 2 ^ (n - 64) := by
      rw [hB, ← Nat.div_div_eq_div_mul]; congr 1; omega
    have e2 : (hi * 18446744073709551616 + lo) % 2 ^ n ≠ 0 ↔ lo ≠ 0 ∨ (0 * 18446744073709551616 + hi) % 2 ^ (n - 64) ≠ 0 := by
      rw [hB, Nat.mod_mul, show (hi * 18446744073709551616 + lo) % 18446744073709551616 = lo by omega, show (hi * 18446744073709551616 + lo) / 18446744073709551616 = 0 * 18446744073709551616 + hi by omega]
      have := two_pos (n - 64)
      constructor
      · intro h; by_cases z : lo = 0
        · right; intro h2; apply h; rw [h2, z]
        · exact .inl z
      · rintro (h | h) h2
        · omega
        · apply h; rcases Nat.eq_zero_of_add_eq_zero h2 with ⟨_, h3⟩
          rcases Nat.mul_eq_zero.1 h3 with h4 | h4
          · cases h4
          · exact h4
    have l1 : ((lo : Int) != 0) = decide (lo ≠ 0) := by rw [Bool.eq_iff_iff]; simp
    have e3 : (lost || decide ((hi * 18446744073709551616 + lo) % 2 ^ n ≠ 0)) = ((lost || decide (lo ≠ 0)) || decide ((0 * 18446744073709551616 + hi) % 2 ^ (n - 64) ≠ 0)) := by
      rw [Bool.eq_iff_iff]; simp only [Bool.or_eq_true, decide_eq_true_iff, e2]; grind
    rw [e, e3]
    by_cases z : hi = 0
    · subst z
      refine Ev.all fun k => ?_
      rw [if_pos (by omega)]
      cases lost
      · rw [if_neg (by simp), if_pos (by rfl), l1]; simp [tw]
      · rw [if_pos rfl, if_pos (by rfl)]; simp [tw]
    · have z' : ¬ ((hi : Int) == 0) = true := by rw [beq_iff_eq]; omega
      have hc : (n : Int) - 64 = ((n - 64 : Nat) : Int) := by omega
      cases lost
      · have := ih (n - 64) (by omega) 0 hi (decide (lo ≠ 0)) (by omega) hhi (by omega)
        refine Ev.congr (fun k => ?_) (by rw [Bool.false_or]; exact this)
        rw [if_pos (by omega), if_neg (by simp), if_neg z', w64 (by omega) (by omega), hc, l1]; rfl
      · have := ih (n - 64) (by omega) 0 hi true (by omega) hhi (by omega)
        refine Ev.congr (fun k => ?_) (by rw [Bool.true_or]; exact this)
        rw [if_pos (by omega), if_pos rfl, if_neg z', w64 (by omega) (by omega), hc]; rfl
  · refine Ev.all fun k => ?_
    rw [if_neg (by omega)]
    by_cases z : n = 0
    · subst z
      rw [if_pos (by omega)]
      have : (hi * 18446744073709551616 + lo) / 2 ^ 0 = hi * 18446744073709551616 + lo := by omega
      rw [this, tw, show (hi * 18446744073709551616 + lo) / 18446744073709551616 = hi by omega, show (hi * 18446744073709551616 + lo) % 18446744073709551616 = lo by omega]
      have : (hi * 18446744073709551616 + lo) % 2 ^ 0 = 0 := by omega
      rw [this]; simp
    · obtain ⟨a1, a2, a3, a4, a5, a6⟩ := shr_arith hi lo n hlo (by omega) (by omega)
      have hl : lo / 2 ^ n ≤ lo := Nat.div_le_self _ _
      have hd : hi / 2 ^ n ≤ hi := Nat.div_le_self _ _
      rw [if_neg (by omega), if_pos (by omega), w64 (by omega) (by omega), if_pos (by omega)]
      rw [show (64 : Int) - (n : Int) = ((64 - n : Nat) : Int) from by omega, shr_nat _ _ (by omega), shr_nat _ _ (by omega), shl_nat _ _ (by omega), shl_nat _ _ (by omega)]
      rw [or_join' _ _ (64 - n) (Nat.mod_lt _ (by decide)) a4 a3 (by omega), a1, a2]
      have l1 : (((lo * 2 ^ (64 - n) % 18446744073709551616 : Nat) : Int) != 0) = decide (lo % 2 ^ n ≠ 0) := by
        rw [Bool.eq_iff_iff]; simp only [bne_iff_ne, decide_eq_true_iff, Ne, ← a6]; omega
      generalize hi * 2 ^ (64 - n) % 18446744073709551616 + lo / 2 ^ n = d at *
      generalize hi / 2 ^ n = q at *
      rw [tw_join q d a5]
      cases lost
      · rw [if_neg (by simp), l1]; rfl
      · rw [if_pos rfl]; rfl
theorem U128_Shr (hi lo n : Nat) (h1 : hi < 18446744073709551616) (h2 : lo < 18446744073709551616) (hn : n < 1000000) :
    Ev (fun k => wide_U128_Shr.f k (hi : Int) (lo : Int) (n : Int)) ((tw ((hi * 18446744073709551616 + lo) / 2 ^ n)).1, (tw ((hi * 18446744073709551616 + lo) / 2 ^ n)).2, decide ((hi * 18446744073709551616 + lo) % 2 ^ n ≠ 0)) := by
  have := Shr_ev n hi lo false h1 h2 hn
  rw [Bool.false_or] at this; exact this
def bl (x : Nat) : Nat := if x = 0 then 0 else x.log2 + 1
theorem Len64_ok (x : Nat) (h : x < 18446744073709551616) : bits_Len64.f (x : Int) = some (bl x : Int) := by
  unfold bits_Len64.f bl
  rw [if_pos (by omega), Int.toNat_natCast]
  split
  · rename_i e; subst e; rfl
  · rename_i e; rw [bitLen_log2 x e h]
theorem log2_join (hi lo : Nat) (h : hi ≠ 0) (h2 : lo < 18446744073709551616) : (hi * 18446744073709551616 + lo).log2 = hi.log2 + 64 := by
  have a1 := Nat.log2_self_le h
  have a2 : hi < 2 ^ (hi.log2 + 1) := Nat.lt_log2_self
  have n0 : hi * 18446744073709551616 + lo ≠ 0 := by omega
  have b1 : hi.log2 + 64 ≤ (hi * 18446744073709551616 + lo).log2 := by
    rw [Nat.le_log2 n0, Nat.pow_add]; omega
  have b2 : (hi * 18446744073709551616 + lo).log2 < hi.log2 + 1 + 64 := by
    rw [Nat.log2_lt n0, Nat.pow_add]; omega
  omega
theorem bl_le {x n : Nat} (h : x < 2 ^ n) : bl x ≤ n := by
  unfold bl; split
  · omega
  · rename_i e; have := (Nat.log2_lt e).2 h; omega
theorem U128_Len (hi lo : Nat) (h1 : hi < 18446744073709551616) (h2 : lo < 18446744073709551616) :
    wide_U128_Len.f (hi : Int) (lo : Int) = some (bl (hi * 18446744073709551616 + lo) : Int) := by
  unfold wide_U128_Len.f
  by_cases c : hi = 0
  · subst c
    rw [if_neg (by omega), bind_of _ (Len64_ok lo h2), show 0 * 18446744073709551616 + lo = lo by omega]
  · rw [if_pos (by omega), bind_of _ (Len64_ok hi h1)]
    have := bl_le (x := hi) (n := 64) h1
    rw [w64 (by omega) (by omega)]
    unfold bl
    rw [if_neg c, if_neg (by omega), log2_join hi lo c h2]; congr 1; omega
end Go.Proofs.Ytmadjhmecfbcmaa.M
end
