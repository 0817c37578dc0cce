/- The walk of the law SpanWidens and what it computes, part 5 of 6: no conditions. -/
import Derived.Test.YtmadjhmecfbcmaaASpanWidens4
set_option linter.unusedVariables false
set_option linter.unusedSimpArgs false
section
namespace Go.Proofs.Ytmadjhmecfbcmaa.F
open Go.RowKit Go.Proofs.YtmadjhmecfbcmaaW.PrintWords Go.Proofs.YtmadjhmecfbcmaaW.PrintLast Go.Proofs.YtmadjhmecfbcmaaW.PrintMore
attribute [local go_sem] max2_int min2_int max_two min_two max_three min_three max_four min_four
set_option linter.unusedVariables false
set_option linter.unusedSimpArgs false
set_option maxHeartbeats 8000000
set_option maxRecDepth 100000
attribute [local go_sem high] eqA43
def flyballlaw16_works.T6 : Bool × List (List Nat × List Nat) := (true, [([], []), ([], []), ([0, 1], [0, 1]), ([2, 1], [2]), ([3], [3]), ([3, 3], [3]), ([4, 5, 3], [3, 4, 5]), ([3, 6], [3, 6]), ([7, 5], [7]), ([8], [8]), ([8, 8], [8]), ([9, 10, 8], [8, 9, 10]), ([8, 11], [8, 11]), ([12, 10], [12]), ([13], [13]), ([13, 13], [13]), ([15, 15, 13], [13, 15]), ([14, 16, 13], [13, 14, 16]), ([13, 17], [13, 17]), ([18, 16], [18]), ([19], [19]), ([19, 19], [19]), ([20, 21, 19], [19, 20, 21]), ([19, 22], [19, 22]), ([23, 21], [23]), ([24], [24]), ([24, 24], [24]), ([25, 26, 24], [24, 25, 26]), ([24, 27], [24, 27]), ([28, 26], [28]), ([29, 29], [29]), ([30, 29], [29, 30]), ([29, 31], [29, 31]), ([32, 30], [32]), ([33], [33]), ([34, 33, 33], [33, 34]), ([33, 35], [33, 35]), ([36, 35], [36]), ([37], [37]), ([37, 37], [37]), ([38, 39, 39, 37], [37, 38, 39]), ([37, 40], [37, 40]), ([41, 40], [41]), ([42], [42]), ([42], [42]), ([43, 44, 42], [42, 43, 44]), ([45, 42, 42], [42, 45]), ([46, 42], [42]), ([46, 47, 42], [42, 46, 47]), ([42, 48], [42, 48]), ([49, 47], [49]), ([50], [50]), ([50], [50]), ([51, 52, 50, 50], [50, 51, 52]), ([53, 50], [50]), ([53, 54, 50], [50, 53, 54]), ([50, 55], [50, 55]), ([56, 54], [56]), ([57], [57]), ([58, 57, 57], [57, 58]), ([59, 59, 57], [57, 59]), ([60, 57], [57, 60]), ([57, 61], [57, 61]), ([62, 60], [62]), ([63, 63], [63]), ([64, 64, 63], [63, 64]), ([65, 63], [63]), ([65, 66, 63], [63, 65, 66]), ([63, 67], [63, 67]), ([68, 66, 0, 1, 2, 3, 4, 5, 6, 7, 8, 9, 10, 11, 12, 13, 14, 15, 16, 17, 18, 19, 20, 21, 22, 23, 24, 25, 26, 27, 28, 29, 30, 31, 32, 33, 34, 35, 36, 37, 38, 39, 40, 41, 42, 43, 44, 45, 46, 47, 48, 49, 50, 51, 52, 53, 54, 55, 56, 57, 58, 59, 60, 61, 62, 63, 64, 65, 66, 67, 68], [68])])
def flyballlaw16_works.B6 : List Nat := [0, 0, 3, 7, 15, 15, 63, 127, 255, 511, 511, 2047, 4095, 8191, 16383, 16383, 49151, 131071, 262143, 524287, 1048575, 1048575, 4194303, 8388607, 16777215, 33554431, 33554431, 134217727, 268435455, 536870911, 1073741823, 2147483647, 4294967295, 8589934591, 17179869183, 34359738367, 68719476735, 137438953471, 274877906943, 274877906943, 1099511627775, 2199023255551, 4398046511103, 8796093022207, 8796093022207, 35184372088831, 70368744177663, 140737488355327, 281474976710655, 562949953421311, 1125899906842623, 2251799813685247, 2251799813685247, 9007199254740991, 18014398509481983, 36028797018963967, 72057594037927935, 144115188075855871, 288230376151711743, 576460752303423487, 1152921504606846975, 2305843009213693951, 4611686018427387903, 9223372036854775807, 18446744073709551615, 36893488147419103231, 73786976294838206463, 147573952589676412927, 295147905179352825855, 590295810358705651711]
theorem flyballlaw16_works.tab6 : rtab .any (opsOf Try.f36 6) = flyballlaw16_works.T6 := by kernel_rfl
theorem flyballlaw16_works.bits6 : waitsOk flyballlaw16_works.T6.2 flyballlaw16_works.B6 = true := by kernel_rfl
theorem flyballlaw16_works.calls (k : Nat)  (r : Bool) (w : World) (h : flyballlaw16_works.f k  = some r) (hr_ : r = true) :
  Calls Try.prog 36 #[] w fun e w' => e = .returned (.bool r) ∧ Below w.heap.size w w' := by
 have hu43 := Try.underlying43
 have hfd0_ : ∀ (b : Bool) (x y : Int) (w : World), (Instr.field 43 (.agg #[.bool b, .int .u64 x, .int .u64 y]) 0).run Try.prog w = .ok (.bool b) w := fun _ _ _ _ => by kernel_rfl
 have hfd1_ : ∀ (b : Bool) (x y : Int) (w : World), (Instr.field 43 (.agg #[.bool b, .int .u64 x, .int .u64 y]) 1).run Try.prog w = .ok (.int .u64 x) w := fun _ _ _ _ => by kernel_rfl
 have hfd2_ : ∀ (b : Bool) (x y : Int) (w : World), (Instr.field 43 (.agg #[.bool b, .int .u64 x, .int .u64 y]) 2).run Try.prog w = .ok (.int .u64 y) w := fun _ _ _ _ => by kernel_rfl
 have HB := Aside0.mk (Below.refl w.heap.size w)
 have H : ((span_Make.f k 4607182418800017408 4611686018427387904).bind fun bt984 => ((span_Make.f k 13837309855095848960 4616189618054758400).bind fun bt987 => ((span_Mul.f k bt984.1 bt984.2.1 bt984.2.2 bt987.1 bt987.2.1 bt987.2.2).bind fun bt990 => ((span_Point.f k 4607182418800017408).bind fun bt994 => ((span_Make.f k 13830554455654793216 4611686018427387904).bind fun bt997 => ((span_Div.f k bt994.1 bt994.2.1 bt994.2.2 bt997.1 bt997.2.1 bt997.2.2).bind fun bt1000 => ((span_Point.f k 0).bind fun bt1004 => ((span_Make.f k 13830554455654793216 4611686018427387904).bind fun bt1007 => ((span_Div.f k bt1004.1 bt1004.2.1 bt1004.2.2 bt1007.1 bt1007.2.1 bt1007.2.2).bind fun bt1010 => ((span_Point.f k 4607182418800017408).bind fun bt1014 => ((span_Make.f k 0 4616189618054758400).bind fun bt1017 => ((span_Div.f k bt1014.1 bt1014.2.1 bt1014.2.2 bt1017.1 bt1017.2.1 bt1017.2.2).bind fun bt1020 => ((span_Make.f k 0 4616189618054758400).bind fun bt1024 => ((span_Make.f k 4607182418800017408 4611686018427387904).bind fun bt1027 => ((span_Test.f k 9 bt1024.1 bt1024.2.1 bt1024.2.2 bt1027.1 bt1027.2.1 bt1027.2.2).bind fun bt1030 => ((span_Make.f k 13841813454723219456 4620693217682128896).bind fun bt1038 => (if (bt990.1 == bt1038.1 && (bt990.2.1 == bt1038.2.1 && (bt990.2.2 == bt1038.2.2))) = true then ((span_All.f k).bind fun bt1041 => (if (bt1000.1 == bt1041.1 && (bt1000.2.1 == bt1041.2.1 && (bt1000.2.2 == bt1041.2.2))) = true then ((span_Point.f k 0).bind fun bt1044 => (if (bt1010.1 == bt1044.1 && (bt1010.2.1 == bt1044.2.1 && (bt1010.2.2 == bt1044.2.2))) = true then ((pattern_Inf.f k false).bind fun t1047 => ((span_Make.f k 4598175219545276416 t1047).bind fun bt1048 => (if (bt1020.1 == bt1048.1 && (bt1020.2.1 == bt1048.2.1 && (bt1020.2.2 == bt1048.2.2))) = true then ((span_Make.f k 0 4611686018427387903).bind fun bt1051 => (if (bt1030.1 == bt1051.1 && (bt1030.2.1 == bt1051.2.1 && (bt1030.2.2.1 == bt1051.2.2))) = true then ((span_Make.f k 4607182418800017408 4611686018427387904).bind fun bt1054 => (if (bt1030.2.2.2.1 == bt1054.1 && (bt1030.2.2.2.2.1 == bt1054.2.1 && (bt1030.2.2.2.2.2 == bt1054.2.2))) = true then ((span_Make.f k 4611686018427387904 4607182418800017408).bind fun bt1057 => (if bt1057.1 = true then ((span_Has.f k bt1030.1 bt1030.2.1 bt1030.2.2.1 4607182418800017408).bind fun t1060 => (if t1060 = true then ((span_Make.f k 0 4616189618054758400).bind fun bt1061 => ((span_Inside.f k bt1030.2.2.2.1 bt1030.2.2.2.2.1 bt1030.2.2.2.2.2 bt1061.1 bt1061.2.1 bt1061.2.2).bind fun t1064 => (if t1064 = true then ((span_Join.f k (([(⟨bt1030.1, bt1030.2.1, bt1030.2.2.1⟩ : S43), (⟨bt1030.2.2.2.1, bt1030.2.2.2.2.1, bt1030.2.2.2.2.2⟩ : S43)] : List (S43)))).bind fun bt1068 => ((span_Make.f k 0 4611686018427387904).bind fun bt1071 => (if (bt1068.1 == bt1071.1 && (bt1068.2.1 == bt1071.2.1 && (bt1068.2.2 == bt1071.2.2))) = true then ((span_Meet.f k bt1030.1 bt1030.2.1 bt1030.2.2.1 bt1030.2.2.2.1 bt1030.2.2.2.2.1 bt1030.2.2.2.2.2).bind fun bt1074 => ((span_Make.f k 4607182418800017408 4611686018427387903).bind fun bt1077 => (if (bt1074.1 == bt1077.1 && (bt1074.2.1 == bt1077.2.1 && (bt1074.2.2 == bt1077.2.2))) = true then ((span_Neg.f k bt1030.2.2.2.1 bt1030.2.2.2.2.1 bt1030.2.2.2.2.2).bind fun bt1080 => ((span_Most.f k bt1080.1 bt1080.2.1 bt1080.2.2).bind fun t1083 => (if t1083 = 4611686018427387904 then ((span_Make.f k 13830554455654793216 0).bind fun bt1084 => ((span_Abs.f k bt1084.1 bt1084.2.1 bt1084.2.2).bind fun bt1087 => ((span_Make.f k 0 4607182418800017408).bind fun bt1090 => (some (bt1087.1 == bt1090.1 && (bt1087.2.1 == bt1090.2.1 && (bt1087.2.2 == bt1090.2.2))))))) else (some false)))) else (some false)))) else (some false)))) else (some false)))) else (some false))) else (some false))) else (some false))) else (some false))) else (some false)))) else (some false))) else (some false))) else (some false)))))))))))))))))) = some r := h
 clear h
 obtain ⟨⟨t984, t985, t986⟩, A1, H⟩ := zbs H
 try dsimp only at H
 obtain ⟨⟨t987, t988, t989⟩, A2, H⟩ := zbs H
 try dsimp only at H
 obtain ⟨⟨t990, t991, t992⟩, A3, H⟩ := zbs H
 try dsimp only at H
 obtain ⟨⟨t994, t995, t996⟩, A4, H⟩ := zbs H
 try dsimp only at H
 obtain ⟨⟨t997, t998, t999⟩, A5, H⟩ := zbs H
 try dsimp only at H
 obtain ⟨⟨t1000, t1001, t1002⟩, A6, H⟩ := zbs H
 try dsimp only at H
 obtain ⟨⟨t1004, t1005, t1006⟩, A7, H⟩ := zbs H
 try dsimp only at H
 obtain ⟨⟨t1007, t1008, t1009⟩, A8, H⟩ := zbs H
 try dsimp only at H
 obtain ⟨⟨t1010, t1011, t1012⟩, A9, H⟩ := zbs H
 try dsimp only at H
 obtain ⟨⟨t1014, t1015, t1016⟩, A10, H⟩ := zbs H
 try dsimp only at H
 obtain ⟨⟨t1017, t1018, t1019⟩, A11, H⟩ := zbs H
 try dsimp only at H
 obtain ⟨⟨t1020, t1021, t1022⟩, A12, H⟩ := zbs H
 try dsimp only at H
 obtain ⟨⟨t1024, t1025, t1026⟩, A13, H⟩ := zbs H
 try dsimp only at H
 obtain ⟨⟨t1027, t1028, t1029⟩, A14, H⟩ := zbs H
 try dsimp only at H
 obtain ⟨⟨t1030, t1031, t1032, t1033, t1034, t1035⟩, A15, H⟩ := zbs H
 try dsimp only at H
 obtain ⟨⟨t1038, t1039, t1040⟩, A16, H⟩ := zbs H
 try dsimp only at H
 by_cases c17 : (t990 == t1038 && (t991 == t1039 && (t992 == t1040))) = true
 ·rw [if_pos c17] at H
  have c17b0 : (t990 == t1038 && (t991 == t1039 && (t992 == t1040))) = true := c17
  (try (have c17b1 : decide (t990 = t1038 && (t991 == t1039 && (t992 == t1040))) = true := by simpa using c17))
  (try (have c17b2 : (t990 == t1038 && (t991 == t1039 && (t992 == t1040))) = true := by simpa using c17))
  clear c17
  obtain ⟨⟨t1041, t1042, t1043⟩, A18, H⟩ := zbs H
  try dsimp only at H
  by_cases c19 : (t1000 == t1041 && (t1001 == t1042 && (t1002 == t1043))) = true
  ·rw [if_pos c19] at H
   have c19b0 : (t1000 == t1041 && (t1001 == t1042 && (t1002 == t1043))) = true := c19
   (try (have c19b1 : decide (t1000 = t1041 && (t1001 == t1042 && (t1002 == t1043))) = true := by simpa using c19))
   (try (have c19b2 : (t1000 == t1041 && (t1001 == t1042 && (t1002 == t1043))) = true := by simpa using c19))
   clear c19
   obtain ⟨⟨t1044, t1045, t1046⟩, A20, H⟩ := zbs H
   try dsimp only at H
   by_cases c21 : (t1010 == t1044 && (t1011 == t1045 && (t1012 == t1046))) = true
   ·rw [if_pos c21] at H
    have c21b0 : (t1010 == t1044 && (t1011 == t1045 && (t1012 == t1046))) = true := c21
    (try (have c21b1 : decide (t1010 = t1044 && (t1011 == t1045 && (t1012 == t1046))) = true := by simpa using c21))
    (try (have c21b2 : (t1010 == t1044 && (t1011 == t1045 && (t1012 == t1046))) = true := by simpa using c21))
    clear c21
    obtain ⟨t1047, A22, H⟩ := zbs H
    try dsimp only at H
    obtain ⟨⟨t1048, t1049, t1050⟩, A23, H⟩ := zbs H
    try dsimp only at H
    by_cases c24 : (t1020 == t1048 && (t1021 == t1049 && (t1022 == t1050))) = true
    ·rw [if_pos c24] at H
     have c24b0 : (t1020 == t1048 && (t1021 == t1049 && (t1022 == t1050))) = true := c24
     (try (have c24b1 : decide (t1020 = t1048 && (t1021 == t1049 && (t1022 == t1050))) = true := by simpa using c24))
     (try (have c24b2 : (t1020 == t1048 && (t1021 == t1049 && (t1022 == t1050))) = true := by simpa using c24))
     clear c24
     obtain ⟨⟨t1051, t1052, t1053⟩, A25, H⟩ := zbs H
     try dsimp only at H
     by_cases c26 : (t1030 == t1051 && (t1031 == t1052 && (t1032 == t1053))) = true
     ·rw [if_pos c26] at H
      have c26b0 : (t1030 == t1051 && (t1031 == t1052 && (t1032 == t1053))) = true := c26
      (try (have c26b1 : decide (t1030 = t1051 && (t1031 == t1052 && (t1032 == t1053))) = true := by simpa using c26))
      (try (have c26b2 : (t1030 == t1051 && (t1031 == t1052 && (t1032 == t1053))) = true := by simpa using c26))
      clear c26
      obtain ⟨⟨t1054, t1055, t1056⟩, A27, H⟩ := zbs H
      try dsimp only at H
      by_cases c28 : (t1033 == t1054 && (t1034 == t1055 && (t1035 == t1056))) = true
      ·rw [if_pos c28] at H
       have c28b0 : (t1033 == t1054 && (t1034 == t1055 && (t1035 == t1056))) = true := c28
       (try (have c28b1 : decide (t1033 = t1054 && (t1034 == t1055 && (t1035 == t1056))) = true := by simpa using c28))
       (try (have c28b2 : (t1033 == t1054 && (t1034 == t1055 && (t1035 == t1056))) = true := by simpa using c28))
       clear c28
       obtain ⟨⟨t1057, t1058, t1059⟩, A29, H⟩ := zbs H
       try dsimp only at H
       by_cases c30 : t1057 = true
       ·subst c30
        replace H := zit H
        obtain ⟨t1060, A31, H⟩ := zbs H
        try dsimp only at H
        by_cases c32 : t1060 = true
        ·subst c32
         replace H := zit H
         obtain ⟨⟨t1061, t1062, t1063⟩, A33, H⟩ := zbs H
         try dsimp only at H
         obtain ⟨t1064, A34, H⟩ := zbs H
         try dsimp only at H
         by_cases c35 : t1064 = true
         ·subst c35
          replace H := zit H
          obtain ⟨y1065, hy1065⟩ : ∃ y_ : List (S43), y_ = (([(⟨t1030, t1031, t1032⟩ : S43), (⟨t1033, t1034, t1035⟩ : S43)] : List (S43))) := ⟨_, rfl⟩
          replace H : ((span_Join.f k y1065).bind fun bt1068 => ((span_Make.f k 0 4611686018427387904).bind fun bt1071 => (if (bt1068.1 == bt1071.1 && (bt1068.2.1 == bt1071.2.1 && (bt1068.2.2 == bt1071.2.2))) = true then ((span_Meet.f k t1030 t1031 t1032 t1033 t1034 t1035).bind fun bt1074 => ((span_Make.f k 4607182418800017408 4611686018427387903).bind fun bt1077 => (if (bt1074.1 == bt1077.1 && (bt1074.2.1 == bt1077.2.1 && (bt1074.2.2 == bt1077.2.2))) = true then ((span_Neg.f k t1033 t1034 t1035).bind fun bt1080 => ((span_Most.f k bt1080.1 bt1080.2.1 bt1080.2.2).bind fun t1083 => (if t1083 = 4611686018427387904 then ((span_Make.f k 13830554455654793216 0).bind fun bt1084 => ((span_Abs.f k bt1084.1 bt1084.2.1 bt1084.2.2).bind fun bt1087 => ((span_Make.f k 0 4607182418800017408).bind fun bt1090 => (some (bt1087.1 == bt1090.1 && (bt1087.2.1 == bt1090.2.1 && (bt1087.2.2 == bt1090.2.2))))))) else (some false)))) else (some false)))) else (some false)))) = some r := by first | (rw [hy1065]; with_reducible exact H) | (have H2_ := (Option.bind_some _ _).symm.trans H; rw [hy1065]; with_reducible exact H2_) | (have H2_ := (Option.bind_some _ _).symm.trans H; with_reducible exact H2_) | with_reducible exact H | (rw [hy1065]; exact H) | exact H
          have Ny1065 := Aside0.mk hy1065
          clear hy1065
          obtain ⟨⟨t1068, t1069, t1070⟩, A36, H⟩ := zbs H
          try dsimp only at H
          obtain ⟨⟨t1071, t1072, t1073⟩, A37, H⟩ := zbs H
          try dsimp only at H
          by_cases c38 : (t1068 == t1071 && (t1069 == t1072 && (t1070 == t1073))) = true
          ·rw [if_pos c38] at H
           have c38b0 : (t1068 == t1071 && (t1069 == t1072 && (t1070 == t1073))) = true := c38
           (try (have c38b1 : decide (t1068 = t1071 && (t1069 == t1072 && (t1070 == t1073))) = true := by simpa using c38))
           (try (have c38b2 : (t1068 == t1071 && (t1069 == t1072 && (t1070 == t1073))) = true := by simpa using c38))
           clear c38
           obtain ⟨⟨t1074, t1075, t1076⟩, A39, H⟩ := zbs H
           try dsimp only at H
           obtain ⟨⟨t1077, t1078, t1079⟩, A40, H⟩ := zbs H
           try dsimp only at H
           by_cases c41 : (t1074 == t1077 && (t1075 == t1078 && (t1076 == t1079))) = true
           ·rw [if_pos c41] at H
            have c41b0 : (t1074 == t1077 && (t1075 == t1078 && (t1076 == t1079))) = true := c41
            (try (have c41b1 : decide (t1074 = t1077 && (t1075 == t1078 && (t1076 == t1079))) = true := by simpa using c41))
            (try (have c41b2 : (t1074 == t1077 && (t1075 == t1078 && (t1076 == t1079))) = true := by simpa using c41))
            clear c41
            obtain ⟨⟨t1080, t1081, t1082⟩, A42, H⟩ := zbs H
            try dsimp only at H
            obtain ⟨t1083, A43, H⟩ := zbs H
            try dsimp only at H
            by_cases c44 : t1083 = 4611686018427387904
            ·rw [if_pos c44] at H
             have c44b0 : (t1083 == 4611686018427387904) = true := beq_iff_eq.mpr c44
             have c44b1 : (t1083 != 4611686018427387904) = false := bne_eq_false_iff_eq.mpr c44
             clear c44
             obtain ⟨⟨t1084, t1085, t1086⟩, A45, H⟩ := zbs H
             try dsimp only at H
             obtain ⟨⟨t1087, t1088, t1089⟩, A46, H⟩ := zbs H
             try dsimp only at H
             obtain ⟨⟨t1090, t1091, t1092⟩, A47, H⟩ := zbs H
             try dsimp only at H
             obtain rfl := Option.some.inj H
             go_enter Try.func36, Try.ntmps36
             try go_wp2_with (first | ((with_reducible refine gtc 37 rfl ?_); refine zgL 7 Try.func37 (span_Make.calls k 4607182418800017408 4611686018427387904 t984 t985 t986 _ A1.out) (h := ?_); rintro w48 hb; replace HB := Aside0.mk (below_step zaB hb); (try clear hb)) | ((with_reducible refine gtc 37 rfl ?_); refine zgL 8 Try.func37 (span_Make.calls k 13837309855095848960 4616189618054758400 t987 t988 t989 _ A2.out) (h := ?_); rintro w49 hb; replace HB := Aside0.mk (below_step zaB hb); (try clear hb)) | ((with_reducible refine gtc 67 rfl ?_); refine zgL 9 Try.func67 (span_Mul.calls k t984 t985 t986 t987 t988 t989 t990 t991 t992 _ A3.out) (h := ?_); rintro w50 hb; replace HB := Aside0.mk (below_step zaB hb); (try clear hb)) | ((with_reducible refine gtd 1 rfl ?_); (try (refine gate_guard (by rfl) ?_; dsimp only)); refine zbx 1 #[.bool false, .int .u64 0, .int .u64 0] 43 (h := ?_); intro gb993 hg w51 hbox hb; have GW993 := zkZ hg (zaB (p := Below w.heap.size w _)); replace HB := Aside0.mk (below_step zaB hb); have BK993 := Aside0.mk (hbox); clear hb hbox hg; obtain ⟨_, _, _, _, _, _⟩ := zq3 BK993) | ((with_reducible refine gtc 39 rfl ?_); refine zgL 10 Try.func39 (span_Point.calls k 4607182418800017408 t994 t995 t996 _ A4.out) (h := ?_); rintro w53 hb; replace BK993 := Aside0.mk (blk_below (o := .cells #[.bool t990, .int .u64 t991, .int .u64 t992] 43 (0, 0)) (blk_put (cs := #[.bool t990, .int .u64 t991, .int .u64 0]) (blk_put (cs := #[.bool t990, .int .u64 0, .int .u64 0]) (blk_put BK993.out 0 _ rfl) 1 _ rfl) 2 _ rfl) hb); replace HB := Aside0.mk (below_step (below_set (below_set (below_set HB.out GW993.out) GW993.out) GW993.out) hb); (try clear hb)) | ((with_reducible refine gtc 37 rfl ?_); refine zgL 11 Try.func37 (span_Make.calls k 13830554455654793216 4611686018427387904 t997 t998 t999 _ A5.out) (h := ?_); rintro w54 hb; replace BK993 := zkb BK993 hb; replace HB := zkB HB hb; (try clear hb)) | ((with_reducible refine gtc 68 rfl ?_); refine zgL 12 Try.func68 (span_Div.calls k t994 t995 t996 t997 t998 t999 t1000 t1001 t1002 _ A6.out) (h := ?_); rintro w55 hb; replace BK993 := zkb BK993 hb; replace HB := zkB HB hb; (try clear hb)) | ((with_reducible refine gtd 2 rfl ?_); (try (refine gate_guard (by rfl) ?_; dsimp only)); refine zbx 2 #[.bool false, .int .u64 0, .int .u64 0] 43 (h := ?_); intro gb1003 hg w56 hbox hb; have GW1003 := zkz HB hg; have NB993_1003 := zkl BK993 hg; have NB1003_993 := zkr BK993 hg; replace BK993 := zkb BK993 hb; replace HB := zkB HB hb; have BK1003 := Aside0.mk (hbox); clear hb hbox hg; obtain ⟨_, _⟩ := zsy NB1003_993; obtain ⟨_, _, _, _, _, _⟩ := zq3 BK1003) | ((with_reducible refine gtc 39 rfl ?_); refine zgL 13 Try.func39 (span_Point.calls k 0 t1004 t1005 t1006 _ A7.out) (h := ?_); rintro w59 hb; replace BK993 := Aside0.mk (blk_below (zkf (zkf (zkf BK993.out NB993_1003.out _) NB993_1003.out _) NB993_1003.out _) hb); replace BK1003 := Aside0.mk (blk_below (o := .cells #[.bool t1000, .int .u64 t1001, .int .u64 t1002] 43 (0, 0)) (blk_put (cs := #[.bool t1000, .int .u64 t1001, .int .u64 0]) (blk_put (cs := #[.bool t1000, .int .u64 0, .int .u64 0]) (blk_put BK1003.out 0 _ rfl) 1 _ rfl) 2 _ rfl) hb); replace HB := Aside0.mk (below_step (below_set (below_set (below_set HB.out GW1003.out) GW1003.out) GW1003.out) hb); (try clear hb)) | ((with_reducible refine gtc 37 rfl ?_); refine zgL 14 Try.func37 (span_Make.calls k 13830554455654793216 4611686018427387904 t1007 t1008 t1009 _ A8.out) (h := ?_); rintro w60 hb; replace BK993 := zkb BK993 hb; replace BK1003 := zkb BK1003 hb; replace HB := zkB HB hb; (try clear hb)) | ((with_reducible refine gtc 68 rfl ?_); refine zgL 15 Try.func68 (span_Div.calls k t1004 t1005 t1006 t1007 t1008 t1009 t1010 t1011 t1012 _ A9.out) (h := ?_); rintro w61 hb; replace BK993 := zkb BK993 hb; replace BK1003 := zkb BK1003 hb; replace HB := zkB HB hb; (try clear hb)) | ((with_reducible refine gtd 3 rfl ?_); (try (refine gate_guard (by rfl) ?_; dsimp only)); refine zbx 3 #[.bool false, .int .u64 0, .int .u64 0] 43 (h := ?_); intro gb1013 hg w62 hbox hb; have GW1013 := zkz HB hg; have NB993_1013 := zkl BK993 hg; have NB1013_993 := zkr BK993 hg; have NB1003_1013 := zkl BK1003 hg; have NB1013_1003 := zkr BK1003 hg; replace BK993 := zkb BK993 hb; replace BK1003 := zkb BK1003 hb; replace HB := zkB HB hb; have BK1013 := Aside0.mk (hbox); clear hb hbox hg; obtain ⟨_, _, _, _⟩ := zs2 NB1013_993 NB1013_1003; obtain ⟨_, _, _, _, _, _⟩ := zq3 BK1013) | ((with_reducible refine gtc 39 rfl ?_); refine zgL 16 Try.func39 (span_Point.calls k 4607182418800017408 t1014 t1015 t1016 _ A10.out) (h := ?_); rintro w66 hb; replace BK993 := Aside0.mk (blk_below (zkf (zkf (zkf BK993.out NB993_1013.out _) NB993_1013.out _) NB993_1013.out _) hb); replace BK1003 := Aside0.mk (blk_below (zkf (zkf (zkf BK1003.out NB1003_1013.out _) NB1003_1013.out _) NB1003_1013.out _) hb); replace BK1013 := Aside0.mk (blk_below (o := .cells #[.bool t1010, .int .u64 t1011, .int .u64 t1012] 43 (0, 0)) (blk_put (cs := #[.bool t1010, .int .u64 t1011, .int .u64 0]) (blk_put (cs := #[.bool t1010, .int .u64 0, .int .u64 0]) (blk_put BK1013.out 0 _ rfl) 1 _ rfl) 2 _ rfl) hb); replace HB := Aside0.mk (below_step (below_set (below_set (below_set HB.out GW1013.out) GW1013.out) GW1013.out) hb); (try clear hb)) | ((with_reducible refine gtc 37 rfl ?_); refine zgL 17 Try.func37 (span_Make.calls k 0 4616189618054758400 t1017 t1018 t1019 _ A11.out) (h := ?_); rintro w67 hb; replace BK993 := zkb BK993 hb; replace BK1003 := zkb BK1003 hb; replace BK1013 := zkb BK1013 hb; replace HB := zkB HB hb; (try clear hb)) | ((with_reducible refine gtc 68 rfl ?_); refine zgL 18 Try.func68 (span_Div.calls k t1014 t1015 t1016 t1017 t1018 t1019 t1020 t1021 t1022 _ A12.out) (h := ?_); rintro w68 hb; replace BK993 := zkb BK993 hb; replace BK1003 := zkb BK1003 hb; replace BK1013 := zkb BK1013 hb; replace HB := zkB HB hb; (try clear hb)) | ((with_reducible refine gtd 4 rfl ?_); (try (refine gate_guard (by rfl) ?_; dsimp only)); refine zbx 4 #[.bool false, .int .u64 0, .int .u64 0] 43 (h := ?_); intro gb1023 hg w69 hbox hb; have GW1023 := zkz HB hg; have NB993_1023 := zkl BK993 hg; have NB1023_993 := zkr BK993 hg; have NB1003_1023 := zkl BK1003 hg; have NB1023_1003 := zkr BK1003 hg; have NB1013_1023 := zkl BK1013 hg; have NB1023_1013 := zkr BK1013 hg; replace BK993 := zkb BK993 hb; replace BK1003 := zkb BK1003 hb; replace BK1013 := zkb BK1013 hb; replace HB := zkB HB hb; have BK1023 := Aside0.mk (hbox); clear hb hbox hg; obtain ⟨_, _, _, _, _, _⟩ := zs3 NB1023_993 NB1023_1003 NB1023_1013; obtain ⟨_, _, _, _, _, _⟩ := zq3 BK1023) | ((with_reducible refine gtc 37 rfl ?_); refine zgL 20 Try.func37 (span_Make.calls k 0 4616189618054758400 t1024 t1025 t1026 _ A13.out) (h := ?_); rintro w74 hb; replace BK993 := Aside0.mk (blk_below (zkf (zkf (zkf BK993.out NB993_1023.out _) NB993_1023.out _) NB993_1023.out _) hb); replace BK1003 := Aside0.mk (blk_below (zkf (zkf (zkf BK1003.out NB1003_1023.out _) NB1003_1023.out _) NB1003_1023.out _) hb); replace BK1013 := Aside0.mk (blk_below (zkf (zkf (zkf BK1013.out NB1013_1023.out _) NB1013_1023.out _) NB1013_1023.out _) hb); replace BK1023 := Aside0.mk (blk_below (o := .cells #[.bool t1020, .int .u64 t1021, .int .u64 t1022] 43 (0, 0)) (blk_put (cs := #[.bool t1020, .int .u64 t1021, .int .u64 0]) (blk_put (cs := #[.bool t1020, .int .u64 0, .int .u64 0]) (blk_put BK1023.out 0 _ rfl) 1 _ rfl) 2 _ rfl) hb); replace HB := Aside0.mk (below_step (below_set (below_set (below_set HB.out GW1023.out) GW1023.out) GW1023.out) hb); (try clear hb)) | ((with_reducible refine gtc 37 rfl ?_); refine zgL 21 Try.func37 (span_Make.calls k 4607182418800017408 4611686018427387904 t1027 t1028 t1029 _ A14.out) (h := ?_); rintro w75 hb; replace BK993 := zkb BK993 hb; replace BK1003 := zkb BK1003 hb; replace BK1013 := zkb BK1013 hb; replace BK1023 := zkb BK1023 hb; replace HB := zkB HB hb; (try clear hb)) | ((with_reducible refine gtc 52 rfl ?_); refine zgL 22 Try.func52 (span_Test.calls k 9 t1024 t1025 t1026 t1027 t1028 t1029 t1030 t1031 t1032 t1033 t1034 t1035 _ A15.out) (h := ?_); rintro w76 hb; replace BK993 := zkb BK993 hb; replace BK1003 := zkb BK1003 hb; replace BK1013 := zkb BK1013 hb; replace BK1023 := zkb BK1023 hb; replace HB := zkB HB hb; (try clear hb)) | ((with_reducible refine gtd 5 rfl ?_); (try (refine gate_guard (by rfl) ?_; dsimp only)); refine zbx 5 #[.bool false, .int .u64 0, .int .u64 0] 43 (h := ?_); intro gb1036 hg w77 hbox hb; have GW1036 := zkz HB hg; have NB993_1036 := zkl BK993 hg; have NB1036_993 := zkr BK993 hg; have NB1003_1036 := zkl BK1003 hg; have NB1036_1003 := zkr BK1003 hg; have NB1013_1036 := zkl BK1013 hg; have NB1036_1013 := zkr BK1013 hg; have NB1023_1036 := zkl BK1023 hg; have NB1036_1023 := zkr BK1023 hg; replace BK993 := zkb BK993 hb; replace BK1003 := zkb BK1003 hb; replace BK1013 := zkb BK1013 hb; replace BK1023 := zkb BK1023 hb; replace HB := zkB HB hb; have BK1036 := Aside0.mk (hbox); clear hb hbox hg) | ((with_reducible refine gtd 6 rfl ?_); (try (refine gate_guard (by rfl) ?_; dsimp only)); refine zbx 6 #[.bool false, .int .u64 0, .int .u64 0] 43 (h := ?_); intro gb1037 hg w78 hbox hb; have GW1037 := zkz HB hg; have NB993_1037 := zkl BK993 hg; have NB1037_993 := zkr BK993 hg; have NB1003_1037 := zkl BK1003 hg; have NB1037_1003 := zkr BK1003 hg; have NB1013_1037 := zkl BK1013 hg; have NB1037_1013 := zkr BK1013 hg; have NB1023_1037 := zkl BK1023 hg; have NB1037_1023 := zkr BK1023 hg; have NB1036_1037 := zkl BK1036 hg; have NB1037_1036 := zkr BK1036 hg; replace BK993 := zkb BK993 hb; replace BK1003 := zkb BK1003 hb; replace BK1013 := zkb BK1013 hb; replace BK1023 := zkb BK1023 hb; replace BK1036 := zkb BK1036 hb; replace HB := zkB HB hb; have BK1037 := Aside0.mk (hbox); clear hb hbox hg; obtain ⟨_, _, _, _, _, _, _, _, _, _⟩ := zs5 NB1036_993 NB1036_1003 NB1036_1013 NB1036_1023 NB1036_1037; obtain ⟨_, _, _, _, _, _⟩ := zq3 BK1036; obtain ⟨_, _, _, _, _, _, _, _⟩ := zs4 NB1037_993 NB1037_1003 NB1037_1013 NB1037_1023; obtain ⟨_, _, _, _, _, _⟩ := zq3 BK1037))
             generalize hW_ : ((((((w78.setCell ⟨gb1036, 0, none⟩ (.bool t1030)).setCell ⟨gb1036, 1, none⟩ (.int .u64 t1031)).setCell ⟨gb1036, 2, none⟩ (.int .u64 t1032)).setCell ⟨gb1037, 0, none⟩ (.bool t1033)).setCell ⟨gb1037, 1, none⟩ (.int .u64 t1034)).setCell ⟨gb1037, 2, none⟩ (.int .u64 t1035)) = w90
             replace BK993 := zkg hW_ (zkf (zkf (zkf (zkf (zkf (zkf BK993.out NB993_1036.out _) NB993_1036.out _) NB993_1036.out _) NB993_1037.out _) NB993_1037.out _) NB993_1037.out _)
             replace BK1003 := zkg hW_ (zkf (zkf (zkf (zkf (zkf (zkf BK1003.out NB1003_1036.out _) NB1003_1036.out _) NB1003_1036.out _) NB1003_1037.out _) NB1003_1037.out _) NB1003_1037.out _)
             replace BK1013 := zkg hW_ (zkf (zkf (zkf (zkf (zkf (zkf BK1013.out NB1013_1036.out _) NB1013_1036.out _) NB1013_1036.out _) NB1013_1037.out _) NB1013_1037.out _) NB1013_1037.out _)
             replace BK1023 := zkg hW_ (zkf (zkf (zkf (zkf (zkf (zkf BK1023.out NB1023_1036.out _) NB1023_1036.out _) NB1023_1036.out _) NB1023_1037.out _) NB1023_1037.out _) NB1023_1037.out _)
             replace BK1036 := zkg hW_ (ob := .cells #[.bool t1030, .int .u64 t1031, .int .u64 t1032] 43 (0, 0)) (zkf (zkf (zkf (blk_put (cs := #[.bool t1030, .int .u64 t1031, .int .u64 0]) (blk_put (cs := #[.bool t1030, .int .u64 0, .int .u64 0]) (blk_put BK1036.out 0 _ rfl) 1 _ rfl) 2 _ rfl) NB1036_1037.out _) NB1036_1037.out _) NB1036_1037.out _)
             replace BK1037 := zkg hW_ (ob := .cells #[.bool t1033, .int .u64 t1034, .int .u64 t1035] 43 (0, 0)) (blk_put (cs := #[.bool t1033, .int .u64 t1034, .int .u64 0]) (blk_put (cs := #[.bool t1033, .int .u64 0, .int .u64 0]) (blk_put (zkf (zkf (zkf BK1037.out NB1037_1036.out _) NB1037_1036.out _) NB1037_1036.out _) 0 _ rfl) 1 _ rfl) 2 _ rfl)
             replace HB := zkG hW_ (below_set (below_set (below_set (below_set (below_set (below_set HB.out GW1036.out) GW1036.out) GW1036.out) GW1037.out) GW1037.out) GW1037.out)
             clear hW_
             replace BK993 := Aside0.mk (blk_drew BK993.out)
             replace BK1003 := Aside0.mk (blk_drew BK1003.out)
             replace BK1013 := Aside0.mk (blk_drew BK1013.out)
             replace BK1023 := Aside0.mk (blk_drew BK1023.out)
             replace BK1036 := Aside0.mk (blk_drew BK1036.out)
             replace BK1037 := Aside0.mk (blk_drew BK1037.out)
             replace HB := Aside0.mk (below_drew1 HB.out)
             refine start_ (n := 70) (S := fun w' => w'.cell? ⟨gb993, 0, none⟩ = some (.bool t990) ∧ w'.cell? ⟨gb993, 1, none⟩ = some (.int .u64 t991) ∧ w'.cell? ⟨gb993, 2, none⟩ = some (.int .u64 t992) ∧ w'.cell? ⟨gb1003, 0, none⟩ = some (.bool t1000) ∧ w'.cell? ⟨gb1003, 1, none⟩ = some (.int .u64 t1001) ∧ w'.cell? ⟨gb1003, 2, none⟩ = some (.int .u64 t1002) ∧ w'.cell? ⟨gb1013, 0, none⟩ = some (.bool t1010) ∧ w'.cell? ⟨gb1013, 1, none⟩ = some (.int .u64 t1011) ∧ w'.cell? ⟨gb1013, 2, none⟩ = some (.int .u64 t1012) ∧ w'.cell? ⟨gb1023, 0, none⟩ = some (.bool t1020) ∧ w'.cell? ⟨gb1023, 1, none⟩ = some (.int .u64 t1021) ∧ w'.cell? ⟨gb1023, 2, none⟩ = some (.int .u64 t1022) ∧ w'.cell? ⟨gb1036, 0, none⟩ = some (.bool t1030) ∧ w'.cell? ⟨gb1036, 1, none⟩ = some (.int .u64 t1031) ∧ w'.cell? ⟨gb1036, 2, none⟩ = some (.int .u64 t1032) ∧ w'.cell? ⟨gb1037, 0, none⟩ = some (.bool t1033) ∧ w'.cell? ⟨gb1037, 1, none⟩ = some (.int .u64 t1034) ∧ w'.cell? ⟨gb1037, 2, none⟩ = some (.int .u64 t1035)) (ds := []) #[false, false, false, false, false, false, false, false, false, false, false, false, false, false, false, false, false, false, false, false, false, false, false, false, false, false, false, false, false, false, false, false, false, false, false, false, false, false, false, false, false, false, false, false, false, false, false, false, false, false, false, false, false, false, false, false, false, false, false, false, false, false, false, false, false, false, false, false, false, false] (by kernel_rfl) rfl rfl (zk3 BK993 (zk3 BK1003 (zk3 BK1013 (zk3 BK1023 (zk3 BK1036 (ze3 BK1037)))))) (fun hHeld => ?_); refine with_tabW flyballlaw16_works.tab6 flyballlaw16_works.bits6 (fun HT_ HW_ => ?_)
             generalize w90.drew = w91 at BK993 BK1003 BK1013 BK1023 BK1036 BK1037 HB hHeld ⊢
             refine ztA 0 25 (h := ?_)
             refine zoA 1 26 (h := fun K hK => ?_)
             refine zgA Try.func37 (span_Make.calls k 13841813454723219456 4620693217682128896 t1038 t1039 t1040 _ A16.out) (h := ?_)
             rintro w92 hb
             replace BK993 := zkb BK993 hb
             replace BK1003 := zkb BK1003 hb
             replace BK1013 := zkb BK1013 hb
             replace BK1023 := zkb BK1023 hb
             replace BK1036 := zkb BK1036 hb
             replace BK1037 := zkb BK1037 hb
             replace HB := zkB HB hb
             (try clear hb)
             refine hK.out _ _ (zk3 BK993 (zk3 BK1003 (zk3 BK1013 (zk3 BK1023 (zk3 BK1036 (ze3 BK1037)))))) (fun hHeld => ?_)
             clear hK K
             refine znA 26 (h := ?_)
             refine zpA 2 27 (h := ?_)
             refine zpA 3 28 (h := ?_)
             refine ztA 4 29 (h := ?_)
             refine zoA 5 30 (h := fun K hK => ?_)
             refine zgA Try.func40 (span_All.calls k  t1041 t1042 t1043 _ A18.out) (h := ?_)
             rintro w93 hb
             replace BK993 := zkb BK993 hb
             replace BK1003 := zkb BK1003 hb
             replace BK1013 := zkb BK1013 hb
             replace BK1023 := zkb BK1023 hb
             replace BK1036 := zkb BK1036 hb
             replace BK1037 := zkb BK1037 hb
             replace HB := zkB HB hb
             (try clear hb)
             refine hK.out _ _ (zk3 BK993 (zk3 BK1003 (zk3 BK1013 (zk3 BK1023 (zk3 BK1036 (ze3 BK1037)))))) (fun hHeld => ?_)
             clear hK K
             refine znA 30 (h := ?_)
             refine zpA 6 31 (h := ?_)
             refine zpA 7 32 (h := ?_)
             refine zpA 8 33 (h := ?_)
             refine ztA 9 34 (h := ?_)
             refine zoA 10 35 (h := fun K hK => ?_)
             refine zgA Try.func39 (span_Point.calls k 0 t1044 t1045 t1046 _ A20.out) (h := ?_)
             rintro w94 hb
             replace BK993 := zkb BK993 hb
             replace BK1003 := zkb BK1003 hb
             replace BK1013 := zkb BK1013 hb
             replace BK1023 := zkb BK1023 hb
             replace BK1036 := zkb BK1036 hb
             replace BK1037 := zkb BK1037 hb
             replace HB := zkB HB hb
             (try clear hb)
             refine hK.out _ _ (zk3 BK993 (zk3 BK1003 (zk3 BK1013 (zk3 BK1023 (zk3 BK1036 (ze3 BK1037)))))) (fun hHeld => ?_)
             clear hK K
             refine znA 35 (h := ?_)
             refine zpA 11 36 (h := ?_)
             refine zpA 12 37 (h := ?_)
             refine zpA 13 38 (h := ?_)
             refine ztA 14 39 (h := ?_)
             refine zoA 15 40 (h := fun K hK => ?_)
             refine zgA Try.func79 (pattern_Inf.calls k false t1047 _ A22.out) (h := ?_)
             rintro w' ⟨nd, rfl⟩
             refine hK.out _ _ (zk3 BK993 (zk3 BK1003 (zk3 BK1013 (zk3 BK1023 (zk3 BK1036 (ze3 BK1037)))))) (fun hHeld => ?_)
             clear hK K
             refine znA 40 (h := ?_)
             refine zoA 16 41 (h := fun K hK => ?_)
             refine zgA Try.func37 (span_Make.calls k 4598175219545276416 t1047 t1048 t1049 t1050 _ A23.out) (h := ?_)
             rintro w95 hb
             replace BK993 := zkb BK993 hb
             replace BK1003 := zkb BK1003 hb
             replace BK1013 := zkb BK1013 hb
             replace BK1023 := zkb BK1023 hb
             replace BK1036 := zkb BK1036 hb
             replace BK1037 := zkb BK1037 hb
             replace HB := zkB HB hb
             (try clear hb)
             refine hK.out _ _ (zk3 BK993 (zk3 BK1003 (zk3 BK1013 (zk3 BK1023 (zk3 BK1036 (ze3 BK1037)))))) (fun hHeld => ?_)
             clear hK K
             refine znA 41 (h := ?_)
             refine zpA 17 42 (h := ?_)
             refine zpA 18 43 (h := ?_)
             refine zpA 19 44 (h := ?_)
             refine ztA 20 45 (h := ?_)
             refine zoA 21 46 (h := fun K hK => ?_)
             refine zgA Try.func37 (span_Make.calls k 0 4611686018427387903 t1051 t1052 t1053 _ A25.out) (h := ?_)
             rintro w96 hb
             replace BK993 := zkb BK993 hb
             replace BK1003 := zkb BK1003 hb
             replace BK1013 := zkb BK1013 hb
             replace BK1023 := zkb BK1023 hb
             replace BK1036 := zkb BK1036 hb
             replace BK1037 := zkb BK1037 hb
             replace HB := zkB HB hb
             (try clear hb)
             refine hK.out _ _ (zk3 BK993 (zk3 BK1003 (zk3 BK1013 (zk3 BK1023 (zk3 BK1036 (ze3 BK1037)))))) (fun hHeld => ?_)
             clear hK K
             refine znA 46 (h := ?_)
             refine zpA 22 47 (h := ?_)
             refine zpA 23 48 (h := ?_)
             refine zpA 24 49 (h := ?_)
             refine ztA 25 50 (h := ?_)
             refine zoA 26 51 (h := fun K hK => ?_)
             refine zgA Try.func37 (span_Make.calls k 4607182418800017408 4611686018427387904 t1054 t1055 t1056 _ A27.out) (h := ?_)
             rintro w97 hb
             replace BK993 := zkb BK993 hb
             replace BK1003 := zkb BK1003 hb
             replace BK1013 := zkb BK1013 hb
             replace BK1023 := zkb BK1023 hb
             replace BK1036 := zkb BK1036 hb
             replace BK1037 := zkb BK1037 hb
             replace HB := zkB HB hb
             (try clear hb)
             refine hK.out _ _ (zk3 BK993 (zk3 BK1003 (zk3 BK1013 (zk3 BK1023 (zk3 BK1036 (ze3 BK1037)))))) (fun hHeld => ?_)
             clear hK K
             refine znA 51 (h := ?_)
             refine zpA 27 52 (h := ?_)
             refine zpA 28 53 (h := ?_)
             refine zpA 29 54 (h := ?_)
             refine zoA 30 55 (h := fun K hK => ?_)
             refine zgA Try.func37 (span_Make.calls k 4611686018427387904 4607182418800017408 true t1058 t1059 _ A29.out) (h := ?_)
             rintro w98 hb
             replace BK993 := zkb BK993 hb
             replace BK1003 := zkb BK1003 hb
             replace BK1013 := zkb BK1013 hb
             replace BK1023 := zkb BK1023 hb
             replace BK1036 := zkb BK1036 hb
             replace BK1037 := zkb BK1037 hb
             replace HB := zkB HB hb
             (try clear hb)
             refine hK.out _ _ (zk3 BK993 (zk3 BK1003 (zk3 BK1013 (zk3 BK1023 (zk3 BK1036 (ze3 BK1037)))))) (fun hHeld => ?_)
             clear hK K
             refine znA 55 (h := ?_)
             refine zpA 31 56 (h := ?_)
             refine zpA 32 57 (h := ?_)
             refine zpA 33 58 (h := ?_)
             refine ztA 34 59 (h := ?_)
             refine zoA 35 60 (h := fun K hK => ?_)
             refine zgA Try.func41 (span_Has.calls k t1030 t1031 t1032 4607182418800017408 true _ A31.out) (h := ?_)
             rintro w99 hb
             replace BK993 := zkb BK993 hb
             replace BK1003 := zkb BK1003 hb
             replace BK1013 := zkb BK1013 hb
             replace BK1023 := zkb BK1023 hb
             replace BK1036 := zkb BK1036 hb
             replace BK1037 := zkb BK1037 hb
             replace HB := zkB HB hb
             (try clear hb)
             refine hK.out _ _ (zk3 BK993 (zk3 BK1003 (zk3 BK1013 (zk3 BK1023 (zk3 BK1036 (ze3 BK1037)))))) (fun hHeld => ?_)
             clear hK K
             refine znA 60 (h := ?_)
             refine zpA 36 61 (h := ?_)
             refine zpA 37 62 (h := ?_)
             refine ztA 38 63 (h := ?_)
             refine zoA 39 64 (h := fun K hK => ?_)
             refine zgA Try.func37 (span_Make.calls k 0 4616189618054758400 t1061 t1062 t1063 _ A33.out) (h := ?_)
             rintro w100 hb
             replace BK993 := zkb BK993 hb
             replace BK1003 := zkb BK1003 hb
             replace BK1013 := zkb BK1013 hb
             replace BK1023 := zkb BK1023 hb
             replace BK1036 := zkb BK1036 hb
             replace BK1037 := zkb BK1037 hb
             replace HB := zkB HB hb
             (try clear hb)
             refine hK.out _ _ (zk3 BK993 (zk3 BK1003 (zk3 BK1013 (zk3 BK1023 (zk3 BK1036 (ze3 BK1037)))))) (fun hHeld => ?_)
             clear hK K
             refine znA 64 (h := ?_)
             refine zoA 40 65 (h := fun K hK => ?_)
             refine zgA Try.func43 (span_Inside.calls k t1033 t1034 t1035 t1061 t1062 t1063 true _ A34.out) (h := ?_)
             rintro w101 hb
             replace BK993 := zkb BK993 hb
             replace BK1003 := zkb BK1003 hb
             replace BK1013 := zkb BK1013 hb
             replace BK1023 := zkb BK1023 hb
             replace BK1036 := zkb BK1036 hb
             replace BK1037 := zkb BK1037 hb
             replace HB := zkB HB hb
             (try clear hb)
             refine hK.out _ _ (zk3 BK993 (zk3 BK1003 (zk3 BK1013 (zk3 BK1023 (zk3 BK1036 (ze3 BK1037)))))) (fun hHeld => ?_)
             clear hK K
             refine znA 65 (h := ?_)
             refine zpA 41 66 (h := ?_)
             refine zpA 42 67 (h := ?_)
             refine ztA 43 68 (h := ?_)
             refine ztA 44 69 (h := ?_)
             refine zoA 45 70 (h := fun K hK => ?_)
             refine Kd.R_lit_step k43 _ 43 ?hg (N := 70) ?hd (xs := ([(⟨t1030, t1031, t1032⟩ : S43), (⟨t1033, t1034, t1035⟩ : S43)] : List (S43))) (inner := [.bool t1030, .int .u64 t1031, .int .u64 t1032, .bool t1033, .int .u64 t1034, .int .u64 t1035]) (ok := fun _ => True) (okp := fun _ => True) ?hr ?hp (fun _ hk => hk) trivial (Below.refl _ _) (Nat.le_refl _) (by simp) ?_; (case hd => rfl); (case hg => rfl); (case hr => first | (go_simp; done) | (go_simp; rfl)); (case hp => exact (Reps.c3 (show Kd.M k43 _ _ _ (⟨t1030, t1031, t1032⟩ : S43) [.bool t1030, .int .u64 t1031, .int .u64 t1032] from (k43_mkM _ _ _ (⟨t1030, t1031, t1032⟩ : S43) )) (Reps.c3 (show Kd.M k43 _ _ _ (⟨t1033, t1034, t1035⟩ : S43) [.bool t1033, .int .u64 t1034, .int .u64 t1035] from (k43_mkM _ _ _ (⟨t1033, t1034, t1035⟩ : S43) )) (Reps.none _ _))))
             intro v1066 w102 ho103 hb hg_ hnew_
             clear hg_ hnew_
             (first | rw [← Ny1065.out] at ho103 | (simp only [Int.reduceToNat] at ho103; rw [← Ny1065.out] at ho103))
             have HO1067 := Aside0.mk (Kd.R_lower (Kd.R_newB (Kd.R_newB (Kd.R_newB (Kd.R_newB (Kd.R_newB (Kd.R_newB ho103 (g := gb993) (o := .cells #[.bool t990, .int .u64 t991, .int .u64 t992] 43 (0, 0)) (zkq BK993)) (g := gb1003) (o := .cells #[.bool t1000, .int .u64 t1001, .int .u64 t1002] 43 (0, 0)) (zkq BK1003)) (g := gb1013) (o := .cells #[.bool t1010, .int .u64 t1011, .int .u64 t1012] 43 (0, 0)) (zkq BK1013)) (g := gb1023) (o := .cells #[.bool t1020, .int .u64 t1021, .int .u64 t1022] 43 (0, 0)) (zkq BK1023)) (g := gb1036) (o := .cells #[.bool t1030, .int .u64 t1031, .int .u64 t1032] 43 (0, 0)) (zkq BK1036)) (g := gb1037) (o := .cells #[.bool t1033, .int .u64 t1034, .int .u64 t1035] 43 (0, 0)) (zkq BK1037)) (below_size zaB))
             replace BK993 := zkb BK993 hb
             replace BK1003 := zkb BK1003 hb
             replace BK1013 := zkb BK1013 hb
             replace BK1023 := zkb BK1023 hb
             replace BK1036 := zkb BK1036 hb
             replace BK1037 := zkb BK1037 hb
             replace HB := zkB HB hb
             clear hb ho103
             obtain ⟨Ao104, co104, eo104⟩ := Kd.R_slice HO1067.out
             (first | subst eo104 | (injection eo104 with f1_ f2_ f3_; have f4_ := f1_.symm; have f5_ := f3_.symm; clear f1_ f2_ f3_; subst f4_; subst f5_))
             refine hK.out _ _ (zk3 BK993 (zk3 BK1003 (zk3 BK1013 (zk3 BK1023 (zk3 BK1036 (ze3 BK1037)))))) (fun hHeld => ?_)
             clear hK K
             refine znA 70 (h := ?_)
             refine zoA 46 71 (h := fun K hK => ?_)
             refine goes_ Try.func45 (by kernel_rfl) rfl #[.slice Ao104 y1065.length co104] (by rfl) rfl rfl (by (try simp only [List.map_toArray, List.map_cons, List.map_nil]); first | done | rfl | (simp only [List.length_drop, List.length_take]; rfl)) ?_
             with_reducible refine (span_Join.calls k _ _ y1065 t1068 t1069 t1070 _ ?side1 ?side2 A36.out).mono ?_
             (case side1 => repeat (first | exact (Kd.R_reads' HO1067.out).2.2 | (with_reducible refine Kd.C_alloc ?_ _) | (with_reducible refine Kd.C_drewN ?_ _) | (with_reducible refine Kd.C_drew ?_)))
             (case side2 => exact (Kd.R_reads' HO1067.out).2.1)
             rintro e w105 ⟨rfl, hb⟩
             refine ⟨_, rfl, ?_⟩
             replace HO1067 := Aside0.mk (Kd.R_below (by (with_reducible repeat (first | apply Kd.R_alloc | apply Kd.R_drewN | apply Kd.R_drew)); exact HO1067.out) hb)
             replace BK993 := zkb BK993 hb
             replace BK1003 := zkb BK1003 hb
             replace BK1013 := zkb BK1013 hb
             replace BK1023 := zkb BK1023 hb
             replace BK1036 := zkb BK1036 hb
             replace BK1037 := zkb BK1037 hb
             replace HB := zkB HB hb
             (try clear hb)
             refine hK.out _ _ (zk3 BK993 (zk3 BK1003 (zk3 BK1013 (zk3 BK1023 (zk3 BK1036 (ze3 BK1037)))))) (fun hHeld => ?_)
             clear hK K
             refine znA 71 (h := ?_)
             refine zoA 47 72 (h := fun K hK => ?_)
             refine zgA Try.func37 (span_Make.calls k 0 4611686018427387904 t1071 t1072 t1073 _ A37.out) (h := ?_)
             rintro w106 hb
             replace HO1067 := Aside0.mk (Kd.R_below (by (with_reducible repeat (first | apply Kd.R_alloc | apply Kd.R_drewN | apply Kd.R_drew)); exact HO1067.out) hb)
             replace BK993 := zkb BK993 hb
             replace BK1003 := zkb BK1003 hb
             replace BK1013 := zkb BK1013 hb
             replace BK1023 := zkb BK1023 hb
             replace BK1036 := zkb BK1036 hb
             replace BK1037 := zkb BK1037 hb
             replace HB := zkB HB hb
             (try clear hb)
             refine hK.out _ _ (zk3 BK993 (zk3 BK1003 (zk3 BK1013 (zk3 BK1023 (zk3 BK1036 (ze3 BK1037)))))) (fun hHeld => ?_)
             clear hK K
             refine znA 72 (h := ?_)
             refine zpA 48 73 (h := ?_)
             refine zpA 49 74 (h := ?_)
             refine zpA 50 75 (h := ?_)
             refine ztA 51 76 (h := ?_)
             refine ztA 52 77 (h := ?_)
             refine zoA 53 78 (h := fun K hK => ?_)
             refine zgA Try.func47 (span_Meet.calls k t1030 t1031 t1032 t1033 t1034 t1035 t1074 t1075 t1076 _ A39.out) (h := ?_)
             rintro w107 hb
             replace HO1067 := Aside0.mk (Kd.R_below (by (with_reducible repeat (first | apply Kd.R_alloc | apply Kd.R_drewN | apply Kd.R_drew)); exact HO1067.out) hb)
             replace BK993 := zkb BK993 hb
             replace BK1003 := zkb BK1003 hb
             replace BK1013 := zkb BK1013 hb
             replace BK1023 := zkb BK1023 hb
             replace BK1036 := zkb BK1036 hb
             replace BK1037 := zkb BK1037 hb
             replace HB := zkB HB hb
             (try clear hb)
             refine hK.out _ _ (zk3 BK993 (zk3 BK1003 (zk3 BK1013 (zk3 BK1023 (zk3 BK1036 (ze3 BK1037)))))) (fun hHeld => ?_)
             clear hK K
             refine znA 78 (h := ?_)
             refine zoA 54 79 (h := fun K hK => ?_)
             refine zgA Try.func37 (span_Make.calls k 4607182418800017408 4611686018427387903 t1077 t1078 t1079 _ A40.out) (h := ?_)
             rintro w108 hb
             replace HO1067 := Aside0.mk (Kd.R_below (by (with_reducible repeat (first | apply Kd.R_alloc | apply Kd.R_drewN | apply Kd.R_drew)); exact HO1067.out) hb)
             replace BK993 := zkb BK993 hb
             replace BK1003 := zkb BK1003 hb
             replace BK1013 := zkb BK1013 hb
             replace BK1023 := zkb BK1023 hb
             replace BK1036 := zkb BK1036 hb
             replace BK1037 := zkb BK1037 hb
             replace HB := zkB HB hb
             (try clear hb)
             refine hK.out _ _ (zk3 BK993 (zk3 BK1003 (zk3 BK1013 (zk3 BK1023 (zk3 BK1036 (ze3 BK1037)))))) (fun hHeld => ?_)
             clear hK K
             refine znA 79 (h := ?_)
             refine zpA 55 80 (h := ?_)
             refine zpA 56 81 (h := ?_)
             refine zpA 57 82 (h := ?_)
             refine ztA 58 83 (h := ?_)
             refine zoA 59 84 (h := fun K hK => ?_)
             refine zgA Try.func111 (span_Neg.calls k t1033 t1034 t1035 t1080 t1081 t1082 _ A42.out) (h := ?_)
             rintro w109 hb
             replace HO1067 := Aside0.mk (Kd.R_below (by (with_reducible repeat (first | apply Kd.R_alloc | apply Kd.R_drewN | apply Kd.R_drew)); exact HO1067.out) hb)
             replace BK993 := zkb BK993 hb
             replace BK1003 := zkb BK1003 hb
             replace BK1013 := zkb BK1013 hb
             replace BK1023 := zkb BK1023 hb
             replace BK1036 := zkb BK1036 hb
             replace BK1037 := zkb BK1037 hb
             replace HB := zkB HB hb
             (try clear hb)
             refine hK.out _ _ (zk3 BK993 (zk3 BK1003 (zk3 BK1013 (zk3 BK1023 (zk3 BK1036 (ze3 BK1037)))))) (fun hHeld => ?_)
             clear hK K
             refine znA 84 (h := ?_)
             refine zoA 60 85 (h := fun K hK => ?_)
             refine zgA Try.func50 (span_Most.calls k t1080 t1081 t1082 t1083 _ A43.out) (h := ?_)
             rintro w110 hb
             replace HO1067 := Aside0.mk (Kd.R_below (by (with_reducible repeat (first | apply Kd.R_alloc | apply Kd.R_drewN | apply Kd.R_drew)); exact HO1067.out) hb)
             replace BK993 := zkb BK993 hb
             replace BK1003 := zkb BK1003 hb
             replace BK1013 := zkb BK1013 hb
             replace BK1023 := zkb BK1023 hb
             replace BK1036 := zkb BK1036 hb
             replace BK1037 := zkb BK1037 hb
             replace HB := zkB HB hb
             (try clear hb)
             refine hK.out _ _ (zk3 BK993 (zk3 BK1003 (zk3 BK1013 (zk3 BK1023 (zk3 BK1036 (ze3 BK1037)))))) (fun hHeld => ?_)
             clear hK K
             refine znA 85 (h := ?_)
             refine zpA 61 86 (h := ?_)
             refine zpA 62 87 (h := ?_)
             refine zpA 63 88 (h := ?_)
             refine zoA 64 89 (h := fun K hK => ?_)
             refine zgA Try.func37 (span_Make.calls k 13830554455654793216 0 t1084 t1085 t1086 _ A45.out) (h := ?_)
             rintro w111 hb
             replace HO1067 := Aside0.mk (Kd.R_below (by (with_reducible repeat (first | apply Kd.R_alloc | apply Kd.R_drewN | apply Kd.R_drew)); exact HO1067.out) hb)
             replace BK993 := zkb BK993 hb
             replace BK1003 := zkb BK1003 hb
             replace BK1013 := zkb BK1013 hb
             replace BK1023 := zkb BK1023 hb
             replace BK1036 := zkb BK1036 hb
             replace BK1037 := zkb BK1037 hb
             replace HB := zkB HB hb
             (try clear hb)
             refine hK.out _ _ (zk3 BK993 (zk3 BK1003 (zk3 BK1013 (zk3 BK1023 (zk3 BK1036 (ze3 BK1037)))))) (fun hHeld => ?_)
             clear hK K
             refine znA 89 (h := ?_)
             refine zoA 65 90 (h := fun K hK => ?_)
             refine zgA Try.func69 (span_Abs.calls k t1084 t1085 t1086 t1087 t1088 t1089 _ A46.out) (h := ?_)
             rintro w112 hb
             replace HO1067 := Aside0.mk (Kd.R_below (by (with_reducible repeat (first | apply Kd.R_alloc | apply Kd.R_drewN | apply Kd.R_drew)); exact HO1067.out) hb)
             replace BK993 := zkb BK993 hb
             replace BK1003 := zkb BK1003 hb
             replace BK1013 := zkb BK1013 hb
             replace BK1023 := zkb BK1023 hb
             replace BK1036 := zkb BK1036 hb
             replace BK1037 := zkb BK1037 hb
             replace HB := zkB HB hb
             (try clear hb)
             refine hK.out _ _ (zk3 BK993 (zk3 BK1003 (zk3 BK1013 (zk3 BK1023 (zk3 BK1036 (ze3 BK1037)))))) (fun hHeld => ?_)
             clear hK K
             refine znA 90 (h := ?_)
             refine zoA 66 91 (h := fun K hK => ?_)
             refine zgA Try.func37 (span_Make.calls k 0 4607182418800017408 t1090 t1091 t1092 _ A47.out) (h := ?_)
             rintro w113 hb
             replace HO1067 := Aside0.mk (Kd.R_below (by (with_reducible repeat (first | apply Kd.R_alloc | apply Kd.R_drewN | apply Kd.R_drew)); exact HO1067.out) hb)
             replace BK993 := zkb BK993 hb
             replace BK1003 := zkb BK1003 hb
             replace BK1013 := zkb BK1013 hb
             replace BK1023 := zkb BK1023 hb
             replace BK1036 := zkb BK1036 hb
             replace BK1037 := zkb BK1037 hb
             replace HB := zkB HB hb
             (try clear hb)
             refine hK.out _ _ (zk3 BK993 (zk3 BK1003 (zk3 BK1013 (zk3 BK1023 (zk3 BK1036 (ze3 BK1037)))))) (fun hHeld => ?_)
             clear hK K
             refine znA 91 (h := ?_)
             refine zpA 67 92 (h := ?_)
             refine zpA 68 93 (h := ?_)
             refine zpA 69 0 (h := ?_)
             refine done_ (done_of HT_.out (by kernel_rfl)) ?_
             try go_wp2
             go_ret
             exact ⟨zaE, zaB⟩
            rw [if_neg c44] at H
            have c44b0 : (t1083 == 4611686018427387904) = false := beq_eq_false_iff_ne.mpr c44
            have c44b1 : (t1083 != 4611686018427387904) = true := bne_iff_ne.mpr c44
            subst hr_
            cases H
           rw [if_neg c41] at H
           have c41b0 : (t1074 == t1077 && (t1075 == t1078 && (t1076 == t1079))) = false := by simpa using c41
           (try (have c41b1 : decide (t1074 = t1077 && (t1075 == t1078 && (t1076 == t1079))) = false := by simpa using c41))
           (try (have c41b2 : (t1074 == t1077 && (t1075 == t1078 && (t1076 == t1079))) = false := by simpa using c41))
           (try (have c41b3 : ¬ (t1074 = t1077 && (t1075 == t1078 && (t1076 == t1079))) := by simpa using c41))
           clear c41
           subst hr_
           cases H
          rw [if_neg c38] at H
          have c38b0 : (t1068 == t1071 && (t1069 == t1072 && (t1070 == t1073))) = false := by simpa using c38
          (try (have c38b1 : decide (t1068 = t1071 && (t1069 == t1072 && (t1070 == t1073))) = false := by simpa using c38))
          (try (have c38b2 : (t1068 == t1071 && (t1069 == t1072 && (t1070 == t1073))) = false := by simpa using c38))
          (try (have c38b3 : ¬ (t1068 = t1071 && (t1069 == t1072 && (t1070 == t1073))) := by simpa using c38))
          clear c38
          subst hr_
          cases H
         replace c35 := Bool.eq_false_iff.mpr c35
         subst c35
         replace H := zif H
         subst hr_
         cases H
        replace c32 := Bool.eq_false_iff.mpr c32
        subst c32
        replace H := zif H
        subst hr_
        cases H
       replace c30 := Bool.eq_false_iff.mpr c30
       subst c30
       replace H := zif H
       subst hr_
       cases H
      rw [if_neg c28] at H
      have c28b0 : (t1033 == t1054 && (t1034 == t1055 && (t1035 == t1056))) = false := by simpa using c28
      (try (have c28b1 : decide (t1033 = t1054 && (t1034 == t1055 && (t1035 == t1056))) = false := by simpa using c28))
      (try (have c28b2 : (t1033 == t1054 && (t1034 == t1055 && (t1035 == t1056))) = false := by simpa using c28))
      (try (have c28b3 : ¬ (t1033 = t1054 && (t1034 == t1055 && (t1035 == t1056))) := by simpa using c28))
      clear c28
      subst hr_
      cases H
     rw [if_neg c26] at H
     have c26b0 : (t1030 == t1051 && (t1031 == t1052 && (t1032 == t1053))) = false := by simpa using c26
     (try (have c26b1 : decide (t1030 = t1051 && (t1031 == t1052 && (t1032 == t1053))) = false := by simpa using c26))
     (try (have c26b2 : (t1030 == t1051 && (t1031 == t1052 && (t1032 == t1053))) = false := by simpa using c26))
     (try (have c26b3 : ¬ (t1030 = t1051 && (t1031 == t1052 && (t1032 == t1053))) := by simpa using c26))
     clear c26
     subst hr_
     cases H
    rw [if_neg c24] at H
    have c24b0 : (t1020 == t1048 && (t1021 == t1049 && (t1022 == t1050))) = false := by simpa using c24
    (try (have c24b1 : decide (t1020 = t1048 && (t1021 == t1049 && (t1022 == t1050))) = false := by simpa using c24))
    (try (have c24b2 : (t1020 == t1048 && (t1021 == t1049 && (t1022 == t1050))) = false := by simpa using c24))
    (try (have c24b3 : ¬ (t1020 = t1048 && (t1021 == t1049 && (t1022 == t1050))) := by simpa using c24))
    clear c24
    subst hr_
    cases H
   rw [if_neg c21] at H
   have c21b0 : (t1010 == t1044 && (t1011 == t1045 && (t1012 == t1046))) = false := by simpa using c21
   (try (have c21b1 : decide (t1010 = t1044 && (t1011 == t1045 && (t1012 == t1046))) = false := by simpa using c21))
   (try (have c21b2 : (t1010 == t1044 && (t1011 == t1045 && (t1012 == t1046))) = false := by simpa using c21))
   (try (have c21b3 : ¬ (t1010 = t1044 && (t1011 == t1045 && (t1012 == t1046))) := by simpa using c21))
   clear c21
   subst hr_
   cases H
  rw [if_neg c19] at H
  have c19b0 : (t1000 == t1041 && (t1001 == t1042 && (t1002 == t1043))) = false := by simpa using c19
  (try (have c19b1 : decide (t1000 = t1041 && (t1001 == t1042 && (t1002 == t1043))) = false := by simpa using c19))
  (try (have c19b2 : (t1000 == t1041 && (t1001 == t1042 && (t1002 == t1043))) = false := by simpa using c19))
  (try (have c19b3 : ¬ (t1000 = t1041 && (t1001 == t1042 && (t1002 == t1043))) := by simpa using c19))
  clear c19
  subst hr_
  cases H
 rw [if_neg c17] at H
 have c17b0 : (t990 == t1038 && (t991 == t1039 && (t992 == t1040))) = false := by simpa using c17
 (try (have c17b1 : decide (t990 = t1038 && (t991 == t1039 && (t992 == t1040))) = false := by simpa using c17))
 (try (have c17b2 : (t990 == t1038 && (t991 == t1039 && (t992 == t1040))) = false := by simpa using c17))
 (try (have c17b3 : ¬ (t990 = t1038 && (t991 == t1039 && (t992 == t1040))) := by simpa using c17))
 clear c17
 subst hr_
 cases H
end Go.Proofs.Ytmadjhmecfbcmaa.F
end
section
namespace Go.Proofs.Ytmadjhmecfbcmaa.F
open Go.RowKit Go.Proofs.YtmadjhmecfbcmaaW.PrintWords Go.Proofs.YtmadjhmecfbcmaaW.PrintLast Go.Proofs.YtmadjhmecfbcmaaW.PrintMore
attribute [local go_sem] max2_int min2_int max_two min_two max_three min_three max_four min_four
set_option linter.unusedVariables false
set_option linter.unusedSimpArgs false
set_option maxHeartbeats 8000000
set_option maxRecDepth 100000
theorem span_Widen.calls (k : Nat) (a0_0 : Bool) (a0_1 : Int) (a0_2 : Int) (a1_0 : Bool) (a1_1 : Int) (a1_2 : Int) (A2 : Option Addr) (c2 : Nat) (l2 : List Int) (r1 : Bool) (r2 : Int) (r3 : Int) (w : World) (hr2 : Kd.C (Kd.int .u64) w A2 l2.length l2) (hc2 : l2.length ≤ c2) (h : span_Widen.f k a0_0 a0_1 a0_2 a1_0 a1_1 a1_2 l2 = some (r1, r2, r3)) :
  Calls Try.prog 55 #[.agg #[.bool a0_0, .int .u64 a0_1, .int .u64 a0_2], .agg #[.bool a1_0, .int .u64 a1_1, .int .u64 a1_2], .slice A2 l2.length c2] w fun e w' => e = .returned (.agg #[.bool r1, .int .u64 r2, .int .u64 r3]) ∧ Below w.heap.size w w' := by
 have hu43 := Try.underlying43
 have HR2 := Aside0.mk hr2
 have HC2 := Aside0.mk hc2
 clear hr2 hc2
 have HB := Aside0.mk (Below.refl w.heap.size w)
 have H : ((span_norm.f k a0_0 a0_1 a0_2).bind fun bt1386 => (if bt1386.1 = true then ((span_norm.f k a1_0 a1_1 a1_2).bind fun bt1389 => (some (bt1389.1, bt1389.2.1, bt1389.2.2))) else ((span_Join.f k (([(⟨bt1386.1, bt1386.2.1, bt1386.2.2⟩ : S43), (⟨a1_0, a1_1, a1_2⟩ : S43)] : List (S43)))).bind fun bt1395 => ((span_ninf.f k).bind fun t1399 => ((span_inf.f k).bind fun t1400 => (span_Widen.l0 k t1399 t1400 l2 (l2.length : Int) 0 bt1386.1 bt1386.2.1 bt1386.2.2 bt1395.1 bt1395.2.1 bt1395.2.2)))))) = some (r1, r2, r3) := h
 clear h
 obtain ⟨⟨t1386, t1387, t1388⟩, A4, H⟩ := zbs H
 try dsimp only at H
 by_cases c5 : t1386 = true
 ·subst c5
  replace H := zit H
  obtain ⟨⟨t1389, t1390, t1391⟩, A6, H⟩ := zbs H
  try dsimp only at H
  simp only [Option.some.injEq, Prod.mk.injEq] at H
  obtain ⟨rfl, rfl, rfl⟩ := H
  go_enter Try.func55, Try.ntmps55
  go_wp2_with (first | ((with_reducible refine gtd 3 rfl ?_); refine zbx 3 #[.bool a0_0, .int .u64 a0_1, .int .u64 a0_2] 43 (h := ?_); intro gb1383 hg w7 hbox hb; have GW1383 := zkZ hg (zaB (p := Below w.heap.size w _)); replace HB := Aside0.mk (below_step zaB hb); have BK1383 := Aside0.mk (hbox); clear hb hbox hg) | ((with_reducible refine gtd 4 rfl ?_); refine zbx 4 #[.bool a1_0, .int .u64 a1_1, .int .u64 a1_2] 43 (h := ?_); intro gb1384 hg w8 hbox hb; have GW1384 := zkz HB hg; have NB1383_1384 := zkl BK1383 hg; have NB1384_1383 := zkr BK1383 hg; replace BK1383 := zkb BK1383 hb; replace HB := zkB HB hb; have BK1384 := Aside0.mk (hbox); clear hb hbox hg) | ((with_reducible refine gtd 6 rfl ?_); refine zbx 6 #[.bool false, .int .u64 0, .int .u64 0] 43 (h := ?_); intro gb1385 hg w9 hbox hb; have GW1385 := zkz HB hg; have NB1383_1385 := zkl BK1383 hg; have NB1385_1383 := zkr BK1383 hg; have NB1384_1385 := zkl BK1384 hg; have NB1385_1384 := zkr BK1384 hg; replace BK1383 := zkb BK1383 hb; replace BK1384 := zkb BK1384 hb; replace HB := zkB HB hb; have BK1385 := Aside0.mk (hbox); clear hb hbox hg; obtain ⟨_, _, _, _⟩ := zs2 NB1383_1384 NB1383_1385; obtain ⟨z12_0, z12_1, z12_2, f12_0, f12_1, f12_2⟩ := zq3 BK1383) | ((with_reducible refine gtc 112 rfl ?_); refine zgL 13 Try.func112 (span_norm.calls k a0_0 a0_1 a0_2 true t1387 t1388 _ A4.out) (h := ?_); rintro w13 hb; replace BK1383 := zkb BK1383 hb; replace BK1384 := zkb BK1384 hb; replace BK1385 := zkb BK1385 hb; replace HB := zkB HB hb; (try clear hb); obtain ⟨z14_0, z14_1, z14_2, f14_0, f14_1, f14_2⟩ := zq3 BK1383; obtain ⟨_, _⟩ := zsy NB1384_1385; obtain ⟨z16_0, z16_1, z16_2, f16_0, f16_1, f16_2⟩ := zq3 BK1384) | ((with_reducible refine gtc 112 rfl ?_); refine zgL 17 Try.func112 (span_norm.calls k a1_0 a1_1 a1_2 t1389 t1390 t1391 _ A6.out) (h := ?_); rintro w17 hb; replace BK1383 := Aside0.mk (blk_below (o := .cells #[.bool true, .int .u64 t1387, .int .u64 t1388] 43 (0, 0)) (blk_put (cs := #[.bool true, .int .u64 t1387, .int .u64 a0_2]) (blk_put (cs := #[.bool true, .int .u64 a0_1, .int .u64 a0_2]) (blk_put BK1383.out 0 _ rfl) 1 _ rfl) 2 _ rfl) hb); replace BK1384 := Aside0.mk (blk_below (zkf (zkf (zkf BK1384.out NB1384_1383.out _) NB1384_1383.out _) NB1384_1383.out _) hb); replace BK1385 := Aside0.mk (blk_below (zkf (zkf (zkf BK1385.out NB1385_1383.out _) NB1385_1383.out _) NB1385_1383.out _) hb); replace HB := Aside0.mk (below_step (below_set (below_set (below_set HB.out GW1383.out) GW1383.out) GW1383.out) hb); (try clear hb); obtain ⟨z18_0, z18_1, z18_2, f18_0, f18_1, f18_2⟩ := zq3 BK1385))
  refine bodyPost_ret (results_cell_row rfl _ _ gb1385 43 #[.bool t1389, .int .u64 t1390, .int .u64 t1391] (0, 0) _ rfl (blk_put (cs := #[.bool t1389, .int .u64 t1390, .int .u64 0]) (blk_put (cs := #[.bool t1389, .int .u64 0, .int .u64 0]) (blk_put (zkq BK1385) 0 _ rfl) 1 _ rfl) 2 _ rfl) Try.underlying43 rfl (by kernel_rfl)) rfl ?_
  exact ⟨zaE, zaB⟩
 replace c5 := Bool.eq_false_iff.mpr c5
 subst c5
 replace H := zif H
 obtain ⟨y1392, hy1392⟩ : ∃ y_ : List (S43), y_ = (([(⟨false, t1387, t1388⟩ : S43), (⟨a1_0, a1_1, a1_2⟩ : S43)] : List (S43))) := ⟨_, rfl⟩
 replace H : ((span_Join.f k y1392).bind fun bt1395 => ((span_ninf.f k).bind fun t1399 => ((span_inf.f k).bind fun t1400 => (span_Widen.l0 k t1399 t1400 l2 (l2.length : Int) 0 false t1387 t1388 bt1395.1 bt1395.2.1 bt1395.2.2)))) = some (r1, r2, r3) := by first | (rw [hy1392]; with_reducible exact H) | (have H2_ := (Option.bind_some _ _).symm.trans H; rw [hy1392]; with_reducible exact H2_) | (have H2_ := (Option.bind_some _ _).symm.trans H; with_reducible exact H2_) | with_reducible exact H | (rw [hy1392]; exact H) | exact H
 have Ny1392 := Aside0.mk hy1392
 clear hy1392
 obtain ⟨⟨t1395, t1396, t1397⟩, A19, H⟩ := zbs H
 try dsimp only at H
 obtain ⟨t1399, A20, H⟩ := zbs H
 try dsimp only at H
 obtain ⟨t1400, A21, H⟩ := zbs H
 try dsimp only at H
 have H' := Aside0.mk H
 clear H
 go_enter Try.func55, Try.ntmps55
 go_wp2_with (first | ((with_reducible refine gtd 3 rfl ?_); refine zbx 3 #[.bool a0_0, .int .u64 a0_1, .int .u64 a0_2] 43 (h := ?_); intro gb1383 hg w22 hbox hb; have GW1383 := zkZ hg (zaB (p := Below w.heap.size w _)); replace HB := Aside0.mk (below_step zaB hb); have BK1383 := Aside0.mk (hbox); clear hb hbox hg) | ((with_reducible refine gtd 4 rfl ?_); refine zbx 4 #[.bool a1_0, .int .u64 a1_1, .int .u64 a1_2] 43 (h := ?_); intro gb1384 hg w23 hbox hb; have GW1384 := zkz HB hg; have NB1383_1384 := zkl BK1383 hg; have NB1384_1383 := zkr BK1383 hg; replace BK1383 := zkb BK1383 hb; replace HB := zkB HB hb; have BK1384 := Aside0.mk (hbox); clear hb hbox hg) | ((with_reducible refine gtd 6 rfl ?_); refine zbx 6 #[.bool false, .int .u64 0, .int .u64 0] 43 (h := ?_); intro gb1385 hg w24 hbox hb; have GW1385 := zkz HB hg; have NB1383_1385 := zkl BK1383 hg; have NB1385_1383 := zkr BK1383 hg; have NB1384_1385 := zkl BK1384 hg; have NB1385_1384 := zkr BK1384 hg; replace BK1383 := zkb BK1383 hb; replace BK1384 := zkb BK1384 hb; replace HB := zkB HB hb; have BK1385 := Aside0.mk (hbox); clear hb hbox hg; obtain ⟨_, _, _, _⟩ := zs2 NB1383_1384 NB1383_1385; obtain ⟨z27_0, z27_1, z27_2, f27_0, f27_1, f27_2⟩ := zq3 BK1383) | ((with_reducible refine gtc 112 rfl ?_); refine zgL 13 Try.func112 (span_norm.calls k a0_0 a0_1 a0_2 false t1387 t1388 _ A4.out) (h := ?_); rintro w28 hb; replace BK1383 := zkb BK1383 hb; replace BK1384 := zkb BK1384 hb; replace BK1385 := zkb BK1385 hb; replace HB := zkB HB hb; (try clear hb); obtain ⟨z29_0, z29_1, z29_2, f29_0, f29_1, f29_2⟩ := zq3 BK1383; obtain ⟨_, _⟩ := zsy NB1384_1385; obtain ⟨z31_0, z31_1, z31_2, f31_0, f31_1, f31_2⟩ := zq3 BK1384) | ((with_reducible refine gtd 20 rfl ?_); refine Kd.R_lit k43 _ 43 ?hg (N := 20) ?hd (xs := ([(⟨false, t1387, t1388⟩ : S43), (⟨a1_0, a1_1, a1_2⟩ : S43)] : List (S43))) (inner := [.bool false, .int .u64 t1387, .int .u64 t1388, .bool a1_0, .int .u64 a1_1, .int .u64 a1_2]) (ok := fun _ => True) (okp := fun _ => True) ?hr ?hp (fun _ hk => hk) trivial (Below.refl _ _) (Nat.le_refl _) (by simp) ?_; (case hd => rfl); (case hg => rfl); (case hr => first | (go_simp; done) | (go_simp; rfl)); (case hp => exact (Reps.c3 (show Kd.M k43 _ _ _ (⟨false, t1387, t1388⟩ : S43) [.bool false, .int .u64 t1387, .int .u64 t1388] from (k43_mkM _ _ _ (⟨false, t1387, t1388⟩ : S43) )) (Reps.c3 (show Kd.M k43 _ _ _ (⟨a1_0, a1_1, a1_2⟩ : S43) [.bool a1_0, .int .u64 a1_1, .int .u64 a1_2] from (k43_mkM _ _ _ (⟨a1_0, a1_1, a1_2⟩ : S43) )) (Reps.none _ _)))); intro v1393 w32 ho33 hb hg_ hnew_; clear hg_ hnew_; (first | rw [← Ny1392.out] at ho33 | (simp only [Int.reduceToNat] at ho33; rw [← Ny1392.out] at ho33)); have HO1394 := Aside0.mk (Kd.R_lower (Kd.R_newB (Kd.R_newB (Kd.R_newB ho33 (g := gb1383) (o := .cells #[.bool false, .int .u64 t1387, .int .u64 t1388] 43 (0, 0)) (blk_put (cs := #[.bool false, .int .u64 t1387, .int .u64 a0_2]) (blk_put (cs := #[.bool false, .int .u64 a0_1, .int .u64 a0_2]) (blk_put (zkq BK1383) 0 _ rfl) 1 _ rfl) 2 _ rfl)) (g := gb1384) (o := .cells #[.bool a1_0, .int .u64 a1_1, .int .u64 a1_2] 43 (0, 0)) (zkf (zkf (zkf (zkq BK1384) NB1384_1383.out _) NB1384_1383.out _) NB1384_1383.out _)) (g := gb1385) (o := .cells #[.bool false, .int .u64 0, .int .u64 0] 43 (0, 0)) (zkf (zkf (zkf (zkq BK1385) NB1385_1383.out _) NB1385_1383.out _) NB1385_1383.out _)) (below_size zaB)); replace BK1383 := Aside0.mk (blk_below (o := .cells #[.bool false, .int .u64 t1387, .int .u64 t1388] 43 (0, 0)) (blk_put (cs := #[.bool false, .int .u64 t1387, .int .u64 a0_2]) (blk_put (cs := #[.bool false, .int .u64 a0_1, .int .u64 a0_2]) (blk_put BK1383.out 0 _ rfl) 1 _ rfl) 2 _ rfl) hb); replace BK1384 := Aside0.mk (blk_below (zkf (zkf (zkf BK1384.out NB1384_1383.out _) NB1384_1383.out _) NB1384_1383.out _) hb); replace BK1385 := Aside0.mk (blk_below (zkf (zkf (zkf BK1385.out NB1385_1383.out _) NB1385_1383.out _) NB1385_1383.out _) hb); replace HB := Aside0.mk (below_step (below_set (below_set (below_set HB.out GW1383.out) GW1383.out) GW1383.out) hb); clear hb ho33; obtain ⟨Ao34, co34, eo34⟩ := Kd.R_slice HO1394.out; subst eo34) | ((with_reducible refine gtc 45 rfl ?_); refine goesL_ (some 21) rfl rfl Try.func45 (by kernel_rfl) rfl #[.slice Ao34 y1392.length co34] rfl (by (try simp only [List.map_toArray, List.map_cons, List.map_nil]); first | done | rfl | (simp only [List.length_drop, List.length_take]; rfl)) ?_; (with_reducible refine (span_Join.calls k _ _ y1392 t1395 t1396 t1397 _ ?side1 ?side2 A19.out).mono ?_); (case side1 => repeat (first | exact (Kd.R_reads' HO1394.out).2.2 | (with_reducible refine Kd.C_alloc ?_ _) | (with_reducible refine Kd.C_drewN ?_ _) | (with_reducible refine Kd.C_drew ?_))); (case side2 => exact (Kd.R_reads' HO1394.out).2.1); rintro e w35 ⟨rfl, hb⟩; refine ⟨_, rfl, ?_⟩; replace HO1394 := Aside0.mk (Kd.R_below (by (with_reducible repeat (first | apply Kd.R_alloc | apply Kd.R_drewN | apply Kd.R_drew)); exact HO1394.out) hb); replace BK1383 := zkb BK1383 hb; replace BK1384 := zkb BK1384 hb; replace BK1385 := zkb BK1385 hb; replace HB := zkB HB hb; (try clear hb)) | ((with_reducible refine gtd 7 rfl ?_); refine zbx 7 #[.bool false, .int .u64 0, .int .u64 0] 43 (h := ?_); intro gb1398 hg w36 hbox hb; have GW1398 := zkz HB hg; have NB1383_1398 := zkl BK1383 hg; have NB1398_1383 := zkr BK1383 hg; have NB1384_1398 := zkl BK1384 hg; have NB1398_1384 := zkr BK1384 hg; have NB1385_1398 := zkl BK1385 hg; have NB1398_1385 := zkr BK1385 hg; replace HO1394 := Aside0.mk (Kd.R_below (Kd.R_elderB (by (with_reducible repeat (first | apply Kd.R_alloc | apply Kd.R_drewN | apply Kd.R_drew)); exact HO1394.out) gb1398 (Nat.le_of_eq hg.symm)) hb); replace BK1383 := zkb BK1383 hb; replace BK1384 := zkb BK1384 hb; replace BK1385 := zkb BK1385 hb; replace HB := zkB HB hb; have BK1398 := Aside0.mk (hbox); clear hb hbox hg; obtain ⟨_, _, _, _, _, _⟩ := zs3 NB1398_1383 NB1398_1384 NB1398_1385; obtain ⟨z40_0, z40_1, z40_2, f40_0, f40_1, f40_2⟩ := zq3 BK1398) | ((with_reducible refine gtc 113 rfl ?_); refine zgL 22 Try.func113 (span_ninf.calls k  t1399 _ A20.out) (h := ?_); rintro w' ⟨nd, rfl⟩) | ((with_reducible refine gtc 114 rfl ?_); refine zgL 23 Try.func114 (span_inf.calls k  t1400 _ A21.out) (h := ?_); rintro w' ⟨nd, rfl⟩))
 (try simp only [Act.put, List.setIfInBounds_toArray, List.set_cons_zero, List.set_cons_succ])
 go_loopg [8, 9, 26] k (fun kq v8 v9 v26 w' => ∃ (x8_1 : Int) (x9_1 : Int) (x26_1 : Int), v8 = .int .u64 x8_1 ∧ v9 = .int .u64 x9_1 ∧ v26 = .int .i64 x26_1 ∧ Aside0 (span_Widen.l0 kq x8_1 x9_1 l2 (l2.length : Int) x26_1 false t1387 t1388 t1395 t1396 t1397 = some (r1, r2, r3)) ∧ Aside0 (kq ≤ k) ∧ Aside0 (w'.heap[gb1383]? = some (.cells #[.bool false, .int .u64 t1387, .int .u64 t1388] 43 (0, 0))) ∧ Aside0 (w'.heap[gb1384]? = some (.cells #[.bool a1_0, .int .u64 a1_1, .int .u64 a1_2] 43 (0, 0))) ∧ Aside0 (w'.heap[gb1385]? = some (.cells #[.bool false, .int .u64 0, .int .u64 0] 43 (0, 0))) ∧ Aside0 (w'.heap[gb1398]? = some (.cells #[.bool t1395, .int .u64 t1396, .int .u64 t1397] 43 (0, 0))) ∧ Aside0 (Below w.heap.size w w'))
 case atStart => exact ⟨(t1399), (t1400), (0), zrl, zrl, zrl, H', ⟨Nat.le_refl _⟩, ⟨(zkf (zkf (zkf (zkq BK1383) NB1383_1398.out _) NB1383_1398.out _) NB1383_1398.out _)⟩, ⟨(zkf (zkf (zkf (zkq BK1384) NB1384_1398.out _) NB1384_1398.out _) NB1384_1398.out _)⟩, ⟨(zkf (zkf (zkf (zkq BK1385) NB1385_1398.out _) NB1385_1398.out _) NB1385_1398.out _)⟩, ⟨(blk_put (cs := #[.bool t1395, .int .u64 t1396, .int .u64 0]) (blk_put (cs := #[.bool t1395, .int .u64 0, .int .u64 0]) (blk_put (zkq BK1398) 0 _ rfl) 1 _ rfl) 2 _ rfl)⟩, ⟨zaB⟩⟩
 case round =>
  clear H'
  try clear c1
  try clear c2
  try clear p2
  try clear c3
  try clear c4
  try clear c5
  try clear c10
  try clear c11
  try clear c15
  try clear c25
  try clear c26
  try clear c30
  try clear c37
  try clear c38
  try clear c39
  try clear z12_0 z12_1 z12_2 f12_0 f12_1 f12_2
  try clear z14_0 z14_1 z14_2 f14_0 f14_1 f14_2
  try clear z16_0 z16_1 z16_2 f16_0 f16_1 f16_2
  try clear z18_0 z18_1 z18_2 f18_0 f18_1 f18_2
  try clear z27_0 z27_1 z27_2 f27_0 f27_1 f27_2
  try clear z29_0 z29_1 z29_2 f29_0 f29_1 f29_2
  try clear z31_0 z31_1 z31_2 f31_0 f31_1 f31_2
  try clear z40_0 z40_1 z40_2 f40_0 f40_1 f40_2
  obtain ⟨x8_1, x9_1, x26_1, rfl, rfl, rfl, HA, HK1, BK1383, BK1384, BK1385, BK1398, HB⟩ := hrel
  cases gk with
  | zero => exact absurd HA.out (by simp [span_Widen.l0])
  | succ k1 =>
   have H := HA.out
   clear HA
   simp only [span_Widen.l0] at H
   by_cases c41 : x26_1 < (l2.length : Int)
   ·rw [if_pos c41] at H
    have c41b0 : decide (x26_1 < (l2.length : Int)) = true := decide_eq_true c41
    clear c41
    by_cases c42 : 0 ≤ x26_1
    ·rw [if_pos c42] at H
     have c42b0 : decide (0 ≤ x26_1) = true := decide_eq_true c42
     clear c42
     by_cases c43 : x26_1 < (l2.length : Int)
     ·rw [if_pos c43] at H
      have c43b0 : decide (x26_1 < (l2.length : Int)) = true := decide_eq_true c43
      clear c43
      have HC44 := Aside0.mk H
      clear H
      have p1401 : 0 ≤ (x26_1 : Int) := of_decide_eq_true (by first | (with_reducible assumption) | assumption)
      have q1401 : x26_1 < (l2.length : Int) := of_decide_eq_true (by first | (with_reducible assumption) | assumption)
      obtain ⟨ad1401, e1401, hx1401_0⟩ := Kd.at_int HR2.out x26_1 p1401 q1401
      cases e1401
      replace hx1401_0 := (HB.out.cell (World.block_lt_of_cell? w _ hx1401_0)).trans hx1401_0
      replace p1401 := eq_true p1401
      replace q1401 := eq_true q1401
      go_upto_region 9 with (fail)
      go_cut [38] (fun v38 wc => ∃ (kq : Nat) (x38_43 : Bool), v38 = .bool x38_43 ∧ Aside0 (span_Widen.j1 kq x8_1 x9_1 (rd l2 x26_1) l2 (l2.length : Int) x26_1 x38_43 false t1387 t1388 t1395 t1396 t1397 = some (r1, r2, r3)) ∧ Aside0 (kq ≤ k1) ∧ Aside0 (wc.heap[gb1383]? = some (.cells #[.bool false, .int .u64 t1387, .int .u64 t1388] 43 (0, 0))) ∧ Aside0 (wc.heap[gb1384]? = some (.cells #[.bool a1_0, .int .u64 a1_1, .int .u64 a1_2] 43 (0, 0))) ∧ Aside0 (wc.heap[gb1385]? = some (.cells #[.bool false, .int .u64 0, .int .u64 0] 43 (0, 0))) ∧ Aside0 (wc.heap[gb1398]? = some (.cells #[.bool t1395, .int .u64 t1396, .int .u64 t1397] 43 (0, 0))) ∧ Aside0 (Below w.heap.size w wc))
      case first =>
       have H := HC44.out
       clear HC44
       obtain ⟨t1402, A45, H⟩ := zbs H
       try dsimp only at H
       by_cases c46 : t1402 = true
       ·subst c46
        replace H := zit H
        obtain ⟨t1403, A47, H⟩ := zbs H
        try dsimp only at H
        have H' := Aside0.mk H
        clear H
        obtain ⟨_, _, _, _, _, _⟩ := zs3 NB1398_1383 NB1398_1384 NB1398_1385
        obtain ⟨z51_0, z51_1, z51_2, f51_0, f51_1, f51_2⟩ := zq3 BK1398
        go_wp2_with (first | ((with_reducible refine gtc 117 rfl ?_); refine zgL 33 Try.func117 (span_atMost.calls k1 (rd l2 x26_1) t1396 true _ A45.out) (h := ?_); rintro w' ⟨nd, rfl⟩) | (go_at_call 117; (with_reducible refine (span_atMost.calls k1 x8_1 (rd l2 x26_1) t1403 _ A47.out).mono ?_); rintro e w' ⟨rfl, ⟨nd, rfl⟩⟩))
        go_meet
        case rel => exact ⟨_, (t1403), zrl, H', ⟨by have := HK1.out; first | omega | exact Nat.le_refl _⟩, ⟨zkq BK1383⟩, ⟨zkq BK1384⟩, ⟨zkq BK1385⟩, ⟨zkq BK1398⟩, ⟨zaB⟩⟩
       replace c46 := Bool.eq_false_iff.mpr c46
       subst c46
       replace H := zif H
       have H' := Aside0.mk H
       clear H
       obtain ⟨_, _, _, _, _, _⟩ := zs3 NB1398_1383 NB1398_1384 NB1398_1385
       obtain ⟨z55_0, z55_1, z55_2, f55_0, f55_1, f55_2⟩ := zq3 BK1398
       go_wp2_with (first | ((with_reducible refine gtc 117 rfl ?_); refine zgL 33 Try.func117 (span_atMost.calls k1 (rd l2 x26_1) t1396 false _ A45.out) (h := ?_); rintro w' ⟨nd, rfl⟩))
       go_meet
       case rel => exact ⟨_, (false), zrl, H', ⟨by have := HK1.out; first | omega | exact Nat.le_refl _⟩, ⟨zkq BK1383⟩, ⟨zkq BK1384⟩, ⟨zkq BK1385⟩, ⟨zkq BK1398⟩, ⟨zaB⟩⟩
      case rest =>
       clear HC44
       try clear c1
       try clear p1
       try clear q1
       try clear hx1
       try clear c2
       try clear p2
       try clear c3
       try clear c4
       try clear c5
       try clear c10
       try clear c11
       try clear p14
       try clear q14
       try clear hx14
       try clear c15
       try clear c25
       try clear c26
       try clear c30
       try clear c37
       try clear c38
       try clear c39
       try clear c41
       try clear c41b0
       try clear c42
       try clear c42b0
       try clear c43
       try clear c43b0
       try clear c45
       try clear c46
       try clear c48
       try clear c49
       try clear c50
       try clear c52
       try clear c53
       try clear c54
       try clear c55
       try clear z12_0 z12_1 z12_2 f12_0 f12_1 f12_2
       try clear z14_0 z14_1 z14_2 f14_0 f14_1 f14_2
       try clear z16_0 z16_1 z16_2 f16_0 f16_1 f16_2
       try clear z18_0 z18_1 z18_2 f18_0 f18_1 f18_2
       try clear z27_0 z27_1 z27_2 f27_0 f27_1 f27_2
       try clear z29_0 z29_1 z29_2 f29_0 f29_1 f29_2
       try clear z31_0 z31_1 z31_2 f31_0 f31_1 f31_2
       try clear z40_0 z40_1 z40_2 f40_0 f40_1 f40_2
       try clear z51_0 z51_1 z51_2 f51_0 f51_1 f51_2
       try clear z55_0 z55_1 z55_2 f55_0 f55_1 f55_2
       try clear hx1401_0
       try clear p1401
       try clear p2
       try clear q1401
       obtain ⟨kq, x38_43, rfl, HA, HJ43, BK1383, BK1384, BK1385, BK1398, HB⟩ := hcut
       cases kq with
       | zero => exact absurd HA.out (by simp [span_Widen.j1])
       | succ kj43 =>
        have H := HA.out
        clear HA
        simp only [span_Widen.j1] at H
        have HC56 := Aside0.mk H
        clear H
        go_upto_if 38 with (fail)
        go_cut [8] (fun v8 wc => ∃ (kq : Nat) (x8_55 : Int), v8 = .int .u64 x8_55 ∧ Aside0 (span_Widen.j2 kq x8_55 x9_1 (rd l2 x26_1) l2 (l2.length : Int) x26_1 false t1387 t1388 t1395 t1396 t1397 = some (r1, r2, r3)) ∧ Aside0 (kq ≤ kj43) ∧ Aside0 (wc.heap[gb1383]? = some (.cells #[.bool false, .int .u64 t1387, .int .u64 t1388] 43 (0, 0))) ∧ Aside0 (wc.heap[gb1384]? = some (.cells #[.bool a1_0, .int .u64 a1_1, .int .u64 a1_2] 43 (0, 0))) ∧ Aside0 (wc.heap[gb1385]? = some (.cells #[.bool false, .int .u64 0, .int .u64 0] 43 (0, 0))) ∧ Aside0 (wc.heap[gb1398]? = some (.cells #[.bool t1395, .int .u64 t1396, .int .u64 t1397] 43 (0, 0))) ∧ Aside0 (Below w.heap.size w wc))
        case first =>
         have H := HC56.out
         clear HC56
         by_cases c57 : x38_43 = true
         ·subst c57
          replace H := zit H
          have H' := Aside0.mk H
          clear H
          go_wp2
          go_meet
          case rel => exact ⟨_, ((rd l2 x26_1)), zrl, H', ⟨by have := HK1.out; have := HJ43.out; first | omega | exact Nat.le_refl _⟩, ⟨zkq BK1383⟩, ⟨zkq BK1384⟩, ⟨zkq BK1385⟩, ⟨zkq BK1398⟩, ⟨zaB⟩⟩
         replace c57 := Bool.eq_false_iff.mpr c57
         subst c57
         replace H := zif H
         have H' := Aside0.mk H
         clear H
         go_wp2
         go_meet
         case rel => exact ⟨_, (x8_1), zrl, H', ⟨by have := HK1.out; have := HJ43.out; first | omega | exact Nat.le_refl _⟩, ⟨zkq BK1383⟩, ⟨zkq BK1384⟩, ⟨zkq BK1385⟩, ⟨zkq BK1398⟩, ⟨zaB⟩⟩
        case rest =>
         clear HC56
         try clear c1
         try clear p1
         try clear q1
         try clear hx1
         try clear c2
         try clear p2
         try clear c3
         try clear c4
         try clear c5
         try clear c10
         try clear c11
         try clear p14
         try clear q14
         try clear hx14
         try clear c15
         try clear c25
         try clear c26
         try clear c30
         try clear c37
         try clear c38
         try clear c39
         try clear c41
         try clear c41b0
         try clear c42
         try clear c42b0
         try clear c43
         try clear c43b0
         try clear c45
         try clear c46
         try clear c48
         try clear c49
         try clear c50
         try clear c52
         try clear c53
         try clear c54
         try clear c55
         try clear c57
         try clear z12_0 z12_1 z12_2 f12_0 f12_1 f12_2
         try clear z14_0 z14_1 z14_2 f14_0 f14_1 f14_2
         try clear z16_0 z16_1 z16_2 f16_0 f16_1 f16_2
         try clear z18_0 z18_1 z18_2 f18_0 f18_1 f18_2
         try clear z27_0 z27_1 z27_2 f27_0 f27_1 f27_2
         try clear z29_0 z29_1 z29_2 f29_0 f29_1 f29_2
         try clear z31_0 z31_1 z31_2 f31_0 f31_1 f31_2
         try clear z40_0 z40_1 z40_2 f40_0 f40_1 f40_2
         try clear z51_0 z51_1 z51_2 f51_0 f51_1 f51_2
         try clear z55_0 z55_1 z55_2 f55_0 f55_1 f55_2
         try clear hx1401_0
         try clear p1
         try clear p14
         try clear p1401
         try clear p2
         try clear q1
         try clear q14
         try clear q1401
         obtain ⟨kq, x8_55, rfl, HA, HJ55, BK1383, BK1384, BK1385, BK1398, HB⟩ := hcut
         cases kq with
         | zero => exact absurd HA.out (by simp [span_Widen.j2])
         | succ kj55 =>
          have H := HA.out
          clear HA
          simp only [span_Widen.j2] at H
          obtain ⟨t1404, A58, H⟩ := zbs H
          try dsimp only at H
          by_cases c59 : t1404 = true
          ·subst c59
           replace H := zit H
           obtain ⟨t1405, A60, H⟩ := zbs H
           try dsimp only at H
           by_cases c61 : t1405 = true
           ·subst c61
            replace H := zit H
            have H' := Aside0.mk H
            clear H
            obtain ⟨_, _, _, _, _, _⟩ := zs3 NB1398_1383 NB1398_1384 NB1398_1385
            obtain ⟨z65_0, z65_1, z65_2, f65_0, f65_1, f65_2⟩ := zq3 BK1398
            go_wp2_with (first | ((with_reducible refine gtc 117 rfl ?_); refine zgL 43 Try.func117 (span_atMost.calls kj55 t1397 (rd l2 x26_1) true _ A58.out) (h := ?_); rintro w' ⟨nd, rfl⟩) | (go_at_call 117; (with_reducible refine (span_atMost.calls kj55 (rd l2 x26_1) x9_1 true _ A60.out).mono ?_); rintro e w' ⟨rfl, ⟨nd, rfl⟩⟩))
            go_roundg kj55
            case measure => have := HK1.out; have := HJ43.out; have := HJ55.out; omega
            case rel => exact ⟨(x8_55), ((rd l2 x26_1)), (wrap64 (x26_1 + 1)), zrl, zrl, zrl, H', ⟨by have := HK1.out; have := HJ43.out; have := HJ55.out; omega⟩, ⟨zkq BK1383⟩, ⟨zkq BK1384⟩, ⟨zkq BK1385⟩, ⟨zkq BK1398⟩, ⟨zaB⟩⟩
           replace c61 := Bool.eq_false_iff.mpr c61
           subst c61
           replace H := zif H
           have H' := Aside0.mk H
           clear H
           obtain ⟨_, _, _, _, _, _⟩ := zs3 NB1398_1383 NB1398_1384 NB1398_1385
           obtain ⟨z69_0, z69_1, z69_2, f69_0, f69_1, f69_2⟩ := zq3 BK1398
           go_wp2_with (first | ((with_reducible refine gtc 117 rfl ?_); refine zgL 43 Try.func117 (span_atMost.calls kj55 t1397 (rd l2 x26_1) true _ A58.out) (h := ?_); rintro w' ⟨nd, rfl⟩) | (go_at_call 117; (with_reducible refine (span_atMost.calls kj55 (rd l2 x26_1) x9_1 false _ A60.out).mono ?_); rintro e w' ⟨rfl, ⟨nd, rfl⟩⟩))
           go_roundg kj55
           case measure => have := HK1.out; have := HJ43.out; have := HJ55.out; omega
           case rel => exact ⟨(x8_55), (x9_1), (wrap64 (x26_1 + 1)), zrl, zrl, zrl, H', ⟨by have := HK1.out; have := HJ43.out; have := HJ55.out; omega⟩, ⟨zkq BK1383⟩, ⟨zkq BK1384⟩, ⟨zkq BK1385⟩, ⟨zkq BK1398⟩, ⟨zaB⟩⟩
          replace c59 := Bool.eq_false_iff.mpr c59
          subst c59
          replace H := zif H
          have H' := Aside0.mk H
          clear H
          obtain ⟨_, _, _, _, _, _⟩ := zs3 NB1398_1383 NB1398_1384 NB1398_1385
          obtain ⟨z73_0, z73_1, z73_2, f73_0, f73_1, f73_2⟩ := zq3 BK1398
          go_wp2_with (first | ((with_reducible refine gtc 117 rfl ?_); refine zgL 43 Try.func117 (span_atMost.calls kj55 t1397 (rd l2 x26_1) false _ A58.out) (h := ?_); rintro w' ⟨nd, rfl⟩))
          go_roundg kj55
          case measure => have := HK1.out; have := HJ43.out; have := HJ55.out; omega
          case rel => exact ⟨(x8_55), (x9_1), (wrap64 (x26_1 + 1)), zrl, zrl, zrl, H', ⟨by have := HK1.out; have := HJ43.out; have := HJ55.out; omega⟩, ⟨zkq BK1383⟩, ⟨zkq BK1384⟩, ⟨zkq BK1385⟩, ⟨zkq BK1398⟩, ⟨zaB⟩⟩
     rw [if_neg c43] at H
     exact absurd H (by simp)
    rw [if_neg c42] at H
    exact absurd H (by simp)
   rw [if_neg c41] at H
   have c41b0 : decide (x26_1 < (l2.length : Int)) = false := decide_eq_false c41
   clear c41
   obtain ⟨t1406, A74, H⟩ := zbs H
   try dsimp only at H
   have HC75 := Aside0.mk H
   clear H
   obtain ⟨_, _, _, _, _, _⟩ := zs3 NB1383_1384 NB1383_1385 NB1383_1398
   obtain ⟨z79_0, z79_1, z79_2, f79_0, f79_1, f79_2⟩ := zq3 BK1383
   obtain ⟨_, _, _, _⟩ := zs2 NB1398_1384 NB1398_1385
   obtain ⟨z82_0, z82_1, z82_2, f82_0, f82_1, f82_2⟩ := zq3 BK1398
   go_upto_if 55 with (first | ((with_reducible refine gtc 117 rfl ?_); refine zgL 55 Try.func117 (span_atMost.calls k1 t1387 t1396 t1406 _ A74.out) (h := ?_); rintro w' ⟨nd, rfl⟩))
   (try simp only [Act.put, List.setIfInBounds_toArray, List.set_cons_zero, List.set_cons_succ])
   go_cut [8] (fun v8 wc => ∃ (kq : Nat) (x8_74 : Int), v8 = .int .u64 x8_74 ∧ Aside0 (span_Widen.j3 kq x8_74 x9_1 false t1387 t1388 t1395 t1396 t1397 = some (r1, r2, r3)) ∧ Aside0 (kq ≤ k1) ∧ Aside0 (wc.heap[gb1383]? = some (.cells #[.bool false, .int .u64 t1387, .int .u64 t1388] 43 (0, 0))) ∧ Aside0 (wc.heap[gb1384]? = some (.cells #[.bool a1_0, .int .u64 a1_1, .int .u64 a1_2] 43 (0, 0))) ∧ Aside0 (wc.heap[gb1385]? = some (.cells #[.bool false, .int .u64 0, .int .u64 0] 43 (0, 0))) ∧ Aside0 (wc.heap[gb1398]? = some (.cells #[.bool t1395, .int .u64 t1396, .int .u64 t1397] 43 (0, 0))) ∧ Aside0 (Below w.heap.size w wc))
   case first =>
    have H := HC75.out
    clear HC75
    by_cases c83 : t1406 = true
    ·subst c83
     replace H := zit H
     have H' := Aside0.mk H
     clear H
     obtain ⟨_, _, _, _, _, _⟩ := zs3 NB1398_1383 NB1398_1384 NB1398_1385
     obtain ⟨z87_0, z87_1, z87_2, f87_0, f87_1, f87_2⟩ := zq3 BK1398
     go_wp2
     go_meet
     case rel => exact ⟨_, (t1396), zrl, H', ⟨by have := HK1.out; first | omega | exact Nat.le_refl _⟩, ⟨zkq BK1383⟩, ⟨zkq BK1384⟩, ⟨zkq BK1385⟩, ⟨zkq BK1398⟩, ⟨zaB⟩⟩
    replace c83 := Bool.eq_false_iff.mpr c83
    subst c83
    replace H := zif H
    have H' := Aside0.mk H
    clear H
    go_wp2
    go_meet
    case rel => exact ⟨_, (x8_1), zrl, H', ⟨by have := HK1.out; first | omega | exact Nat.le_refl _⟩, ⟨zkq BK1383⟩, ⟨zkq BK1384⟩, ⟨zkq BK1385⟩, ⟨zkq BK1398⟩, ⟨zaB⟩⟩
   case rest =>
    clear HC75
    try clear c1
    try clear p1
    try clear q1
    try clear hx1
    try clear c2
    try clear p2
    try clear c3
    try clear c4
    try clear c5
    try clear c6
    try clear p6
    try clear c7
    try clear c8
    try clear c10
    try clear c11
    try clear p14
    try clear q14
    try clear hx14
    try clear c15
    try clear c25
    try clear c26
    try clear c30
    try clear c37
    try clear c38
    try clear c39
    try clear c41
    try clear c41b0
    try clear c42
    try clear c42b0
    try clear c43
    try clear c43b0
    try clear c45
    try clear c46
    try clear c48
    try clear c49
    try clear c50
    try clear c52
    try clear c53
    try clear c54
    try clear c55
    try clear c57
    try clear c59
    try clear c61
    try clear c62
    try clear c63
    try clear c64
    try clear p64
    try clear c66
    try clear c67
    try clear c68
    try clear c70
    try clear c71
    try clear c72
    try clear c76
    try clear c77
    try clear c78
    try clear c80
    try clear c81
    try clear c83
    try clear c84
    try clear c85
    try clear c86
    try clear z12_0 z12_1 z12_2 f12_0 f12_1 f12_2
    try clear z14_0 z14_1 z14_2 f14_0 f14_1 f14_2
    try clear z16_0 z16_1 z16_2 f16_0 f16_1 f16_2
    try clear z18_0 z18_1 z18_2 f18_0 f18_1 f18_2
    try clear z27_0 z27_1 z27_2 f27_0 f27_1 f27_2
    try clear z29_0 z29_1 z29_2 f29_0 f29_1 f29_2
    try clear z31_0 z31_1 z31_2 f31_0 f31_1 f31_2
    try clear z40_0 z40_1 z40_2 f40_0 f40_1 f40_2
    try clear z51_0 z51_1 z51_2 f51_0 f51_1 f51_2
    try clear z55_0 z55_1 z55_2 f55_0 f55_1 f55_2
    try clear z65_0 z65_1 z65_2 f65_0 f65_1 f65_2
    try clear z69_0 z69_1 z69_2 f69_0 f69_1 f69_2
    try clear z73_0 z73_1 z73_2 f73_0 f73_1 f73_2
    try clear z79_0 z79_1 z79_2 f79_0 f79_1 f79_2
    try clear z82_0 z82_1 z82_2 f82_0 f82_1 f82_2
    try clear z87_0 z87_1 z87_2 f87_0 f87_1 f87_2
    try clear hx1401_0
    try clear p1
    try clear p14
    try clear p1401
    try clear p2
    try clear q1
    try clear q14
    try clear q1401
    obtain ⟨kq, x8_74, rfl, HA, HJ74, BK1383, BK1384, BK1385, BK1398, HB⟩ := hcut
    cases kq with
    | zero => exact absurd HA.out (by simp [span_Widen.j3])
    | succ kj74 =>
     have H := HA.out
     clear HA
     simp only [span_Widen.j3] at H
     obtain ⟨t1407, A88, H⟩ := zbs H
     try dsimp only at H
     by_cases c89 : t1407 = true
     ·subst c89
      replace H := zit H
      obtain ⟨⟨t1408, t1409, t1410⟩, A90, H⟩ := zbs H
      try dsimp only at H
      simp only [Option.some.injEq, Prod.mk.injEq] at H
      obtain ⟨rfl, rfl, rfl⟩ := H
      obtain ⟨_, _, _, _, _, _⟩ := zs3 NB1398_1383 NB1398_1384 NB1398_1385
      obtain ⟨_, _, _, _, _, _⟩ := zq3 BK1398
      obtain ⟨_, _, _, _⟩ := zs2 NB1383_1384 NB1383_1385
      obtain ⟨_, _, _, _, _, _⟩ := zq3 BK1383
      go_wp2_with (first | ((with_reducible refine gtc 117 rfl ?_); refine zgL 62 Try.func117 (span_atMost.calls kj74 t1397 t1388 true _ A88.out) (h := ?_); rintro w' ⟨nd, rfl⟩; (try (rw [drewN_self wc]; generalize hq_ : World.drewN wc _ = wc; have n0_ : Aside0 (wc.heap[gb1383]? = some (.cells #[.bool false, .int .u64 t1387, .int .u64 t1388] 43 (0, 0))) := ⟨by rw [← hq_]; exact (zkq BK1383)⟩; have n1_ : Aside0 (wc.heap[gb1384]? = some (.cells #[.bool a1_0, .int .u64 a1_1, .int .u64 a1_2] 43 (0, 0))) := ⟨by rw [← hq_]; exact (zkq BK1384)⟩; have n2_ : Aside0 (wc.heap[gb1385]? = some (.cells #[.bool false, .int .u64 0, .int .u64 0] 43 (0, 0))) := ⟨by rw [← hq_]; exact (zkq BK1385)⟩; have n3_ : Aside0 (wc.heap[gb1398]? = some (.cells #[.bool t1395, .int .u64 t1396, .int .u64 t1397] 43 (0, 0))) := ⟨by rw [← hq_]; exact (zkq BK1398)⟩; have n4_ : Aside0 (Below w.heap.size w wc) := ⟨by rw [← hq_]; exact zaB⟩; clear BK1383 BK1384 BK1385 BK1398 HB hq_; have BK1383 := n0_; have BK1384 := n1_; have BK1385 := n2_; have BK1398 := n3_; have HB := n4_; clear n0_ n1_ n2_ n3_ n4_; have hdq1383_0 := zc0 BK1383; have hdq1383_1 := zc1 BK1383; have hdq1383_2 := zc2 BK1383; have hdq1383_f := zfz BK1383; have hdq1384_0 := zc0 BK1384; have hdq1384_1 := zc1 BK1384; have hdq1384_2 := zc2 BK1384; have hdq1384_f := zfz BK1384; have hdq1385_0 := zc0 BK1385; have hdq1385_1 := zc1 BK1385; have hdq1385_2 := zc2 BK1385; have hdq1385_f := zfz BK1385; have hdq1398_0 := zc0 BK1398; have hdq1398_1 := zc1 BK1398; have hdq1398_2 := zc2 BK1398; have hdq1398_f := zfz BK1398))) | ((with_reducible refine gtc 37 rfl ?_); refine zgL 67 Try.func37 (span_Make.calls kj74 x8_74 t1397 t1408 t1409 t1410 _ A90.out) (h := ?_); rintro w98 hb; replace BK1383 := zkb BK1383 hb; replace BK1384 := zkb BK1384 hb; replace BK1385 := zkb BK1385 hb; replace BK1398 := zkb BK1398 hb; replace HB := zkB HB hb; (try clear hb); obtain ⟨_, _⟩ := zsy NB1385_1384; obtain ⟨_, _, _, _, _, _⟩ := zq3 BK1385))
      refine bodyPost_ret (results_cell_row rfl _ _ gb1385 43 #[.bool t1408, .int .u64 t1409, .int .u64 t1410] (0, 0) _ rfl (blk_put (cs := #[.bool t1408, .int .u64 t1409, .int .u64 0]) (blk_put (cs := #[.bool t1408, .int .u64 0, .int .u64 0]) (blk_put (zkq BK1385) 0 _ rfl) 1 _ rfl) 2 _ rfl) Try.underlying43 rfl (by kernel_rfl)) rfl ?_
      exact ⟨zaE, zaB⟩
     replace c89 := Bool.eq_false_iff.mpr c89
     subst c89
     replace H := zif H
     obtain ⟨⟨t1411, t1412, t1413⟩, A101, H⟩ := zbs H
     try dsimp only at H
     simp only [Option.some.injEq, Prod.mk.injEq] at H
     obtain ⟨rfl, rfl, rfl⟩ := H
     obtain ⟨_, _, _, _, _, _⟩ := zs3 NB1398_1383 NB1398_1384 NB1398_1385
     obtain ⟨_, _, _, _, _, _⟩ := zq3 BK1398
     obtain ⟨_, _, _, _⟩ := zs2 NB1383_1384 NB1383_1385
     obtain ⟨_, _, _, _, _, _⟩ := zq3 BK1383
     go_wp2_with (first | ((with_reducible refine gtc 117 rfl ?_); refine zgL 62 Try.func117 (span_atMost.calls kj74 t1397 t1388 false _ A88.out) (h := ?_); rintro w' ⟨nd, rfl⟩; (try (rw [drewN_self wc]; generalize hq_ : World.drewN wc _ = wc; have n0_ : Aside0 (wc.heap[gb1383]? = some (.cells #[.bool false, .int .u64 t1387, .int .u64 t1388] 43 (0, 0))) := ⟨by rw [← hq_]; exact (zkq BK1383)⟩; have n1_ : Aside0 (wc.heap[gb1384]? = some (.cells #[.bool a1_0, .int .u64 a1_1, .int .u64 a1_2] 43 (0, 0))) := ⟨by rw [← hq_]; exact (zkq BK1384)⟩; have n2_ : Aside0 (wc.heap[gb1385]? = some (.cells #[.bool false, .int .u64 0, .int .u64 0] 43 (0, 0))) := ⟨by rw [← hq_]; exact (zkq BK1385)⟩; have n3_ : Aside0 (wc.heap[gb1398]? = some (.cells #[.bool t1395, .int .u64 t1396, .int .u64 t1397] 43 (0, 0))) := ⟨by rw [← hq_]; exact (zkq BK1398)⟩; have n4_ : Aside0 (Below w.heap.size w wc) := ⟨by rw [← hq_]; exact zaB⟩; clear BK1383 BK1384 BK1385 BK1398 HB hq_; have BK1383 := n0_; have BK1384 := n1_; have BK1385 := n2_; have BK1398 := n3_; have HB := n4_; clear n0_ n1_ n2_ n3_ n4_; have hdq1383_0 := zc0 BK1383; have hdq1383_1 := zc1 BK1383; have hdq1383_2 := zc2 BK1383; have hdq1383_f := zfz BK1383; have hdq1384_0 := zc0 BK1384; have hdq1384_1 := zc1 BK1384; have hdq1384_2 := zc2 BK1384; have hdq1384_f := zfz BK1384; have hdq1385_0 := zc0 BK1385; have hdq1385_1 := zc1 BK1385; have hdq1385_2 := zc2 BK1385; have hdq1385_f := zfz BK1385; have hdq1398_0 := zc0 BK1398; have hdq1398_1 := zc1 BK1398; have hdq1398_2 := zc2 BK1398; have hdq1398_f := zfz BK1398))) | ((with_reducible refine gtc 37 rfl ?_); refine zgL 67 Try.func37 (span_Make.calls kj74 x8_74 x9_1 t1411 t1412 t1413 _ A101.out) (h := ?_); rintro w109 hb; replace BK1383 := zkb BK1383 hb; replace BK1384 := zkb BK1384 hb; replace BK1385 := zkb BK1385 hb; replace BK1398 := zkb BK1398 hb; replace HB := zkB HB hb; (try clear hb); obtain ⟨_, _⟩ := zsy NB1385_1384; obtain ⟨_, _, _, _, _, _⟩ := zq3 BK1385))
     refine bodyPost_ret (results_cell_row rfl _ _ gb1385 43 #[.bool t1411, .int .u64 t1412, .int .u64 t1413] (0, 0) _ rfl (blk_put (cs := #[.bool t1411, .int .u64 t1412, .int .u64 0]) (blk_put (cs := #[.bool t1411, .int .u64 0, .int .u64 0]) (blk_put (zkq BK1385) 0 _ rfl) 1 _ rfl) 2 _ rfl) Try.underlying43 rfl (by kernel_rfl)) rfl ?_
     exact ⟨zaE, zaB⟩
theorem flyballref04_Parts.calls (a0 : Int) (r1 : Bool) (r2 : Int) (r3 : Int) (w : World) (h : flyballref04_Parts.f a0 = some (r1, r2, r3)) :
  Calls Try.prog 154 #[.int .u64 a0] w fun e w' => e = .returned (.tuple #[.bool r1, .int .i64 r2, .int .u64 r3]) ∧ Drawn0 w w' := by
 have H : (some (((IntKind.u64.wrap (Int.tdiv a0 9223372036854775808)) == 1), wrap64 (Int.tmod (IntKind.u64.wrap (Int.tdiv a0 4503599627370496)) 2048), Int.tmod a0 4503599627370496)) = some (r1, r2, r3) := h
 clear h
 simp only [Option.some.injEq, Prod.mk.injEq] at H
 obtain ⟨rfl, rfl, rfl⟩ := H
 go_enter Try.func154, Try.ntmps154
 go_wp2
 go_ret3
 exact ⟨by first | rfl | (simp; done) | (simp [*]; done), by repeat (first | exact Drawn0.refl _ | apply Drawn0.step)⟩
theorem flyballref04_Class.calls (k : Nat) (a0 : Int) (r : Int) (w : World) (h : flyballref04_Class.f k a0 = some r) :
  Calls Try.prog 128 #[.int .u64 a0] w fun e w' => e = .returned (.int .u8 r) ∧ Drawn0 w w' := by
 have H : ((flyballref04_Parts.f a0).bind fun bt350 => (if bt350.2.1 = 2047 then (flyballref04_Class.j0 k bt350.2.1 bt350.2.2 (bt350.2.2 == 0)) else (flyballref04_Class.j0 k bt350.2.1 bt350.2.2 false))) = some r := h
 clear h
 obtain ⟨⟨t350, t351, t352⟩, A2, H⟩ := zbs H
 try dsimp only at H
 have HC3 := Aside0.mk H
 clear H
 go_enter Try.func128, Try.ntmps128
 go_upto_region 2 with (first | ((with_reducible refine gtc 154 rfl ?_); refine zgL 8 Try.func154 (flyballref04_Parts.calls a0 t350 t351 t352 _ A2.out) (h := ?_); rintro w' ⟨nd, rfl⟩))
 (try simp only [Act.put, List.setIfInBounds_toArray, List.set_cons_zero, List.set_cons_succ])
 go_cut [17] (fun v17 wc => ∃ (kq : Nat) (x17_2 : Bool), v17 = .bool x17_2 ∧ Aside0 (flyballref04_Class.j0 kq t351 t352 x17_2 = some r) ∧ Aside0 (kq ≤ k) ∧ Drawn0 w wc)
 case first =>
  have H := HC3.out
  clear HC3
  by_cases c4 : t351 = 2047
  ·rw [if_pos c4] at H
   have c4b0 : (t351 == 2047) = true := beq_iff_eq.mpr c4
   have c4b1 : (t351 != 2047) = false := bne_eq_false_iff_eq.mpr c4
   clear c4
   (first | rw [c4b0] | (simp only [i64_w, i32_w]; rw [c4b0]) | skip)
   have H' := Aside0.mk H
   clear H
   go_wp2
   go_meet
   case rel => exact ⟨_, ((t352 == 0)), zrl, H', ⟨zle⟩, by repeat (first | exact Drawn0.refl _ | apply Drawn0.step)⟩
  rw [if_neg c4] at H
  have c4b0 : (t351 == 2047) = false := beq_eq_false_iff_ne.mpr c4
  have c4b1 : (t351 != 2047) = true := bne_iff_ne.mpr c4
  (first | rw [c4b0] | (simp only [i64_w, i32_w]; rw [c4b0]) | skip)
  have H' := Aside0.mk H
  clear H
  go_wp2
  go_meet
  case rel => exact ⟨_, (false), zrl, H', ⟨zle⟩, by repeat (first | exact Drawn0.refl _ | apply Drawn0.step)⟩
 case rest =>
  clear HC3
  try clear c1
  try clear p2
  try clear c4
  try clear c4b0
  try clear c4b1
  obtain ⟨kq, x17_2, rfl, HA, HJ2, ⟨mc2, rfl⟩⟩ := hcut
  cases kq with
  | zero => exact absurd HA.out (by simp [flyballref04_Class.j0])
  | succ kj2 =>
   have H := HA.out
   clear HA
   simp only [flyballref04_Class.j0] at H
   by_cases c5 : x17_2 = true
   ·subst c5
    replace H := zit H
    obtain rfl := Option.some.inj H
    go_wp2
    go_ret
    exact ⟨by first | rfl | (simp; done) | (simp [*]; done), by repeat (first | exact Drawn0.refl _ | apply Drawn0.step)⟩
   replace c5 := Bool.eq_false_iff.mpr c5
   subst c5
   replace H := zif H
   by_cases c6 : t351 = 2047
   ·rw [if_pos c6] at H
    have c6b0 : (t351 == 2047) = true := beq_iff_eq.mpr c6
    have c6b1 : (t351 != 2047) = false := bne_eq_false_iff_eq.mpr c6
    clear c6
    obtain rfl := Option.some.inj H
    go_wp2
    go_ret
    exact ⟨by first | rfl | (simp; done) | (simp [*]; done), by repeat (first | exact Drawn0.refl _ | apply Drawn0.step)⟩
   rw [if_neg c6] at H
   have c6b0 : (t351 == 2047) = false := beq_eq_false_iff_ne.mpr c6
   have c6b1 : (t351 != 2047) = true := bne_iff_ne.mpr c6
   have HC7 := Aside0.mk H
   clear H
   go_upto_region 6 with (fail)
   go_cut [25] (fun v25 wc => ∃ (kq : Nat) (x25_6 : Bool), v25 = .bool x25_6 ∧ Aside0 (flyballref04_Class.j1 kq t351 x25_6 = some r) ∧ Aside0 (kq ≤ kj2) ∧ Drawn0 w wc)
   case first =>
    have H := HC7.out
    clear HC7
    by_cases c8 : t351 = 0
    ·rw [if_pos c8] at H
     have c8b0 : (t351 == 0) = true := beq_iff_eq.mpr c8
     have c8b1 : (t351 != 0) = false := bne_eq_false_iff_eq.mpr c8
     clear c8
     (first | rw [c8b0] | (simp only [i64_w, i32_w]; rw [c8b0]) | skip)
     have H' := Aside0.mk H
     clear H
     go_wp2
     go_meet
     case rel => exact ⟨_, ((t352 == 0)), zrl, H', ⟨by have := HJ2.out; first | omega | exact Nat.le_refl _⟩, by repeat (first | exact Drawn0.refl _ | apply Drawn0.step)⟩
    rw [if_neg c8] at H
    have c8b0 : (t351 == 0) = false := beq_eq_false_iff_ne.mpr c8
    have c8b1 : (t351 != 0) = true := bne_iff_ne.mpr c8
    (first | rw [c8b0] | (simp only [i64_w, i32_w]; rw [c8b0]) | skip)
    have H' := Aside0.mk H
    clear H
    go_wp2
    go_meet
    case rel => exact ⟨_, (false), zrl, H', ⟨by have := HJ2.out; first | omega | exact Nat.le_refl _⟩, by repeat (first | exact Drawn0.refl _ | apply Drawn0.step)⟩
   case rest =>
    clear HC7
    try clear c1
    try clear c2
    try clear p2
    try clear c4
    try clear c4b0
    try clear c4b1
    try clear c5
    try clear c6
    try clear c6b0
    try clear c6b1
    try clear c8
    try clear c8b0
    try clear c8b1
    try clear p2
    obtain ⟨kq, x25_6, rfl, HA, HJ6, ⟨mc6, rfl⟩⟩ := hcut
    cases kq with
    | zero => exact absurd HA.out (by simp [flyballref04_Class.j1])
    | succ kj6 =>
     have H := HA.out
     clear HA
     simp only [flyballref04_Class.j1] at H
     by_cases c9 : x25_6 = true
     ·subst c9
      replace H := zit H
      obtain rfl := Option.some.inj H
      go_wp2
      go_ret
      exact ⟨by first | rfl | (simp; done) | (simp [*]; done), by repeat (first | exact Drawn0.refl _ | apply Drawn0.step)⟩
     replace c9 := Bool.eq_false_iff.mpr c9
     subst c9
     replace H := zif H
     by_cases c10 : t351 = 0
     ·rw [if_pos c10] at H
      have c10b0 : (t351 == 0) = true := beq_iff_eq.mpr c10
      have c10b1 : (t351 != 0) = false := bne_eq_false_iff_eq.mpr c10
      clear c10
      obtain rfl := Option.some.inj H
      go_wp2
      go_ret
      exact ⟨by first | rfl | (simp; done) | (simp [*]; done), by repeat (first | exact Drawn0.refl _ | apply Drawn0.step)⟩
     rw [if_neg c10] at H
     have c10b0 : (t351 == 0) = false := beq_eq_false_iff_ne.mpr c10
     have c10b1 : (t351 != 0) = true := bne_iff_ne.mpr c10
     obtain rfl := Option.some.inj H
     go_wp2
     go_ret
     exact ⟨by first | rfl | (simp; done) | (simp [*]; done), by repeat (first | exact Drawn0.refl _ | apply Drawn0.step)⟩
theorem flyballref04_Key.calls (a0 : Int) (r : Int) (w : World) (h : flyballref04_Key.f a0 = some r) :
  Calls Try.prog 129 #[.int .u64 a0] w fun e w' => e = .returned (.int .i64 r) ∧ Drawn0 w w' := by
 have H : ((flyballref04_Parts.f a0).bind fun bt1093 => (if bt1093.1 = true then (some (wrap64 (-(wrap64 ((wrap64 (bt1093.2.1 * 4503599627370496)) + (wrap64 (bt1093.2.2))))))) else (some (wrap64 ((wrap64 (bt1093.2.1 * 4503599627370496)) + (wrap64 (bt1093.2.2))))))) = some r := h
 clear h
 obtain ⟨⟨t1093, t1094, t1095⟩, A2, H⟩ := zbs H
 try dsimp only at H
 by_cases c3 : t1093 = true
 ·subst c3
  replace H := zit H
  obtain rfl := Option.some.inj H
  go_enter Try.func129, Try.ntmps129
  go_wp2_with (first | ((with_reducible refine gtc 154 rfl ?_); refine zgL 9 Try.func154 (flyballref04_Parts.calls a0 true t1094 t1095 _ A2.out) (h := ?_); rintro w' ⟨nd, rfl⟩))
  go_ret
  exact ⟨by first | rfl | (simp; done) | (simp [*]; done), by repeat (first | exact Drawn0.refl _ | apply Drawn0.step)⟩
 replace c3 := Bool.eq_false_iff.mpr c3
 subst c3
 replace H := zif H
 obtain rfl := Option.some.inj H
 go_enter Try.func129, Try.ntmps129
 go_wp2_with (first | ((with_reducible refine gtc 154 rfl ?_); refine zgL 9 Try.func154 (flyballref04_Parts.calls a0 false t1094 t1095 _ A2.out) (h := ?_); rintro w' ⟨nd, rfl⟩))
 go_ret
 exact ⟨by first | rfl | (simp; done) | (simp [*]; done), by repeat (first | exact Drawn0.refl _ | apply Drawn0.step)⟩
theorem flyballref04_Cmp.calls (k : Nat) (a0 : Int) (a1 : Int) (r1 : Int) (r2 : Bool) (w : World) (h : flyballref04_Cmp.f k a0 a1 = some (r1, r2)) :
  Calls Try.prog 59 #[.int .u64 a0, .int .u64 a1] w fun e w' => e = .returned (.tuple #[.int .i64 r1, .bool r2]) ∧ Drawn0 w w' := by
 have H : ((flyballref04_Class.f k a0).bind fun t1096 => (if t1096 = 4 then (flyballref04_Cmp.j0 k a0 a1 true) else ((flyballref04_Class.f k a1).bind fun t1097 => (flyballref04_Cmp.j0 k a0 a1 (t1097 == 4))))) = some (r1, r2) := h
 clear h
 have HC3 := Aside0.mk H
 clear H
 go_enter Try.func59, Try.ntmps59
 go_upto_region 1 with (fail)
 go_cut [15] (fun v15 wc => ∃ (kq : Nat) (x15_2 : Bool), v15 = .bool x15_2 ∧ Aside0 (flyballref04_Cmp.j0 kq a0 a1 x15_2 = some (r1, r2)) ∧ Aside0 (kq ≤ k) ∧ Drawn0 w wc)
 case first =>
  have H := HC3.out
  clear HC3
  obtain ⟨t1096, A4, H⟩ := zbs H
  try dsimp only at H
  by_cases c5 : t1096 = 4
  ·rw [if_pos c5] at H
   have c5b0 : (t1096 == 4) = true := beq_iff_eq.mpr c5
   have c5b1 : (t1096 != 4) = false := bne_eq_false_iff_eq.mpr c5
   clear c5
   (first | rw [c5b0] | (simp only [i64_w, i32_w]; rw [c5b0]) | skip)
   have H' := Aside0.mk H
   clear H
   go_wp2_with (first | ((with_reducible refine gtc 128 rfl ?_); refine zgL 9 Try.func128 (flyballref04_Class.calls k a0 t1096 _ A4.out) (h := ?_); rintro w' ⟨nd, rfl⟩))
   go_meet
   case rel => exact ⟨_, (true), zrl, H', ⟨zle⟩, by repeat (first | exact Drawn0.refl _ | apply Drawn0.step)⟩
  rw [if_neg c5] at H
  have c5b0 : (t1096 == 4) = false := beq_eq_false_iff_ne.mpr c5
  have c5b1 : (t1096 != 4) = true := bne_iff_ne.mpr c5
  (first | rw [c5b0] | (simp only [i64_w, i32_w]; rw [c5b0]) | skip)
  obtain ⟨t1097, A6, H⟩ := zbs H
  try dsimp only at H
  have H' := Aside0.mk H
  clear H
  go_wp2_with (first | ((with_reducible refine gtc 128 rfl ?_); refine zgL 9 Try.func128 (flyballref04_Class.calls k a0 t1096 _ A4.out) (h := ?_); rintro w' ⟨nd, rfl⟩) | (go_at_call 128; (with_reducible refine (flyballref04_Class.calls k a1 t1097 _ A6.out).mono ?_); rintro e w' ⟨rfl, ⟨nd, rfl⟩⟩))
  go_meet
  case rel => exact ⟨_, ((t1097 == 4)), zrl, H', ⟨zle⟩, by repeat (first | exact Drawn0.refl _ | apply Drawn0.step)⟩
 case rest =>
  clear HC3
  try clear c1
  try clear p2
  try clear c5
  try clear c5b0
  try clear c5b1
  obtain ⟨kq, x15_2, rfl, HA, HJ2, ⟨mc2, rfl⟩⟩ := hcut
  cases kq with
  | zero => exact absurd HA.out (by simp [flyballref04_Cmp.j0])
  | succ kj2 =>
   have H := HA.out
   clear HA
   simp only [flyballref04_Cmp.j0] at H
   by_cases c7 : x15_2 = true
   ·subst c7
    replace H := zit H
    simp only [Option.some.injEq, Prod.mk.injEq] at H
    obtain ⟨rfl, rfl⟩ := H
    go_wp2
    go_ret2
    exact ⟨by first | rfl | (simp; done) | (simp [*]; done), by repeat (first | exact Drawn0.refl _ | apply Drawn0.step)⟩
   replace c7 := Bool.eq_false_iff.mpr c7
   subst c7
   replace H := zif H
   obtain ⟨t1098, A8, H⟩ := zbs H
   try dsimp only at H
   obtain ⟨t1099, A9, H⟩ := zbs H
   try dsimp only at H
   by_cases c10 : t1098 < t1099
   ·rw [if_pos c10] at H
    have c10b0 : decide (t1098 < t1099) = true := decide_eq_true c10
    clear c10
    simp only [Option.some.injEq, Prod.mk.injEq] at H
    obtain ⟨rfl, rfl⟩ := H
    go_wp2_with (first | ((with_reducible refine gtc 129 rfl ?_); refine zgL 17 Try.func129 (flyballref04_Key.calls a0 t1098 _ A8.out) (h := ?_); rintro w' ⟨nd, rfl⟩) | ((with_reducible refine gtc 129 rfl ?_); refine zgL 19 Try.func129 (flyballref04_Key.calls a1 t1099 _ A9.out) (h := ?_); rintro w' ⟨nd, rfl⟩))
    go_ret2
    exact ⟨by first | rfl | (simp; done) | (simp [*]; done), by repeat (first | exact Drawn0.refl _ | apply Drawn0.step)⟩
   rw [if_neg c10] at H
   have c10b0 : decide (t1098 < t1099) = false := decide_eq_false c10
   clear c10
   by_cases c11 : t1098 > t1099
   ·rw [if_pos c11] at H
    have c11b0 : decide (t1099 < t1098) = true := decide_eq_true c11
    clear c11
    simp only [Option.some.injEq, Prod.mk.injEq] at H
    obtain ⟨rfl, rfl⟩ := H
    go_wp2_with (first | ((with_reducible refine gtc 129 rfl ?_); refine zgL 17 Try.func129 (flyballref04_Key.calls a0 t1098 _ A8.out) (h := ?_); rintro w' ⟨nd, rfl⟩) | ((with_reducible refine gtc 129 rfl ?_); refine zgL 19 Try.func129 (flyballref04_Key.calls a1 t1099 _ A9.out) (h := ?_); rintro w' ⟨nd, rfl⟩))
    go_ret2
    exact ⟨by first | rfl | (simp; done) | (simp [*]; done), by repeat (first | exact Drawn0.refl _ | apply Drawn0.step)⟩
   rw [if_neg c11] at H
   have c11b0 : decide (t1099 < t1098) = false := decide_eq_false c11
   clear c11
   simp only [Option.some.injEq, Prod.mk.injEq] at H
   obtain ⟨rfl, rfl⟩ := H
   go_wp2_with (first | ((with_reducible refine gtc 129 rfl ?_); refine zgL 17 Try.func129 (flyballref04_Key.calls a0 t1098 _ A8.out) (h := ?_); rintro w' ⟨nd, rfl⟩) | ((with_reducible refine gtc 129 rfl ?_); refine zgL 19 Try.func129 (flyballref04_Key.calls a1 t1099 _ A9.out) (h := ?_); rintro w' ⟨nd, rfl⟩))
   go_ret2
   exact ⟨by first | rfl | (simp; done) | (simp [*]; done), by repeat (first | exact Drawn0.refl _ | apply Drawn0.step)⟩
theorem flyballref16_le.calls (k : Nat) (a0 : Int) (a1 : Int) (r : Bool) (w : World) (h : flyballref16_le.f k a0 a1 = some r) :
  Calls Try.prog 116 #[.int .u64 a0, .int .u64 a1] w fun e w' => e = .returned (.bool r) ∧ Drawn0 w w' := by
 have H : ((flyballref04_Cmp.f k a0 a1).bind fun bt1100 => (if bt1100.2 = true then (some (decide (bt1100.1 ≤ 0))) else (some false))) = some r := h
 clear h
 obtain ⟨⟨t1100, t1101⟩, A3, H⟩ := zbs H
 try dsimp only at H
 by_cases c4 : t1101 = true
 ·subst c4
  replace H := zit H
  obtain rfl := Option.some.inj H
  go_enter Try.func116, Try.ntmps116
  go_wp2_with (first | ((with_reducible refine gtc 59 rfl ?_); refine zgL 10 Try.func59 (flyballref04_Cmp.calls k a0 a1 t1100 true _ A3.out) (h := ?_); rintro w' ⟨nd, rfl⟩))
  go_ret
  exact ⟨by first | rfl | (simp; done) | (simp [*]; done), by repeat (first | exact Drawn0.refl _ | apply Drawn0.step)⟩
 replace c4 := Bool.eq_false_iff.mpr c4
 subst c4
 replace H := zif H
 obtain rfl := Option.some.inj H
 go_enter Try.func116, Try.ntmps116
 go_wp2_with (first | ((with_reducible refine gtc 59 rfl ?_); refine zgL 10 Try.func59 (flyballref04_Cmp.calls k a0 a1 t1100 false _ A3.out) (h := ?_); rintro w' ⟨nd, rfl⟩))
 go_ret
 exact ⟨by first | rfl | (simp; done) | (simp [*]; done), by repeat (first | exact Drawn0.refl _ | apply Drawn0.step)⟩
theorem flyballref16_Norm.calls (k : Nat) (a0_0 : Bool) (a0_1 : Int) (a0_2 : Int) (r1 : Bool) (r2 : Int) (r3 : Int) (w : World) (h : flyballref16_Norm.f k a0_0 a0_1 a0_2 = some (r1, r2, r3)) :
  Calls Try.prog 49 #[.agg #[.bool a0_0, .int .u64 a0_1, .int .u64 a0_2]] w fun e w' => e = .returned (.agg #[.bool r1, .int .u64 r2, .int .u64 r3]) ∧ Below w.heap.size w w' := by
 have hu43 := Try.underlying43
 have HB := Aside0.mk (Below.refl w.heap.size w)
 have H : ((flyballref16_le.f k a0_1 a0_2).bind fun t1104 => (if a0_0 = true then (flyballref16_Norm.j0 k true a0_0 a0_1 a0_2) else (if t1104 = true then (if a0_1 = 9218868437227405312 then (flyballref16_Norm.j0 k true a0_0 a0_1 a0_2) else (flyballref16_Norm.j0 k (a0_2 == 18442240474082181120) a0_0 a0_1 a0_2)) else (flyballref16_Norm.j0 k true a0_0 a0_1 a0_2)))) = some (r1, r2, r3) := h
 clear h
 obtain ⟨t1104, A2, H⟩ := zbs H
 try dsimp only at H
 have HC3 := Aside0.mk H
 clear H
 go_enter Try.func49, Try.ntmps49
 go_upto_region 2 with (first | ((with_reducible refine gtd 1 rfl ?_); refine zbx 1 #[.bool a0_0, .int .u64 a0_1, .int .u64 a0_2] 43 (h := ?_); intro gb1102 hg w4 hbox hb; have GW1102 := zkZ hg (zaB (p := Below w.heap.size w _)); replace HB := Aside0.mk (below_step zaB hb); have BK1102 := Aside0.mk (hbox); clear hb hbox hg) | ((with_reducible refine gtd 2 rfl ?_); refine zbx 2 #[.bool false, .int .u64 0, .int .u64 0] 43 (h := ?_); intro gb1103 hg w5 hbox hb; have GW1103 := zkz HB hg; have NB1102_1103 := zkl BK1102 hg; have NB1103_1102 := zkr BK1102 hg; replace BK1102 := zkb BK1102 hb; replace HB := zkB HB hb; have BK1103 := Aside0.mk (hbox); clear hb hbox hg; obtain ⟨_, _⟩ := zsy NB1102_1103; obtain ⟨z7_0, z7_1, z7_2, f7_0, f7_1, f7_2⟩ := zq3 BK1102) | ((with_reducible refine gtc 116 rfl ?_); refine zgL 8 Try.func116 (flyballref16_le.calls k a0_1 a0_2 t1104 _ A2.out) (h := ?_); rintro w' ⟨nd, rfl⟩))
 (try simp only [Act.put, List.setIfInBounds_toArray, List.set_cons_zero, List.set_cons_succ])
 go_cut [24] (fun v24 wc => ∃ (kq : Nat) (x24_2 : Bool), v24 = .bool x24_2 ∧ Aside0 (flyballref16_Norm.j0 kq x24_2 a0_0 a0_1 a0_2 = some (r1, r2, r3)) ∧ Aside0 (kq ≤ k) ∧ Aside0 (wc.heap[gb1102]? = some (.cells #[.bool a0_0, .int .u64 a0_1, .int .u64 a0_2] 43 (0, 0))) ∧ Aside0 (wc.heap[gb1103]? = some (.cells #[.bool false, .int .u64 0, .int .u64 0] 43 (0, 0))) ∧ Aside0 (Below w.heap.size w wc))
 case first =>
  have H := HC3.out
  clear HC3
  by_cases c8 : a0_0 = true
  ·subst c8
   replace H := zit H
   have H' := Aside0.mk H
   clear H
   obtain ⟨_, _⟩ := zsy NB1102_1103
   obtain ⟨z10_0, z10_1, z10_2, f10_0, f10_1, f10_2⟩ := zq3 BK1102
   go_wp2
   go_meet
   case rel => exact ⟨_, (true), zrl, H', ⟨zle⟩, ⟨zkq BK1102⟩, ⟨zkq BK1103⟩, ⟨zaB⟩⟩
  replace c8 := Bool.eq_false_iff.mpr c8
  subst c8
  replace H := zif H
  by_cases c11 : t1104 = true
  ·subst c11
   replace H := zit H
   by_cases c12 : a0_1 = 9218868437227405312
   ·rw [if_pos c12] at H
    have c12b0 : (a0_1 == 9218868437227405312) = true := beq_iff_eq.mpr c12
    have c12b1 : (a0_1 != 9218868437227405312) = false := bne_eq_false_iff_eq.mpr c12
    clear c12
    (first | rw [c12b0] | (simp only [i64_w, i32_w]; rw [c12b0]) | skip)
    have H' := Aside0.mk H
    clear H
    obtain ⟨_, _⟩ := zsy NB1102_1103
    obtain ⟨z14_0, z14_1, z14_2, f14_0, f14_1, f14_2⟩ := zq3 BK1102
    go_wp2
    go_meet
    case rel => exact ⟨_, (true), zrl, H', ⟨zle⟩, ⟨zkq BK1102⟩, ⟨zkq BK1103⟩, ⟨zaB⟩⟩
   rw [if_neg c12] at H
   have c12b0 : (a0_1 == 9218868437227405312) = false := beq_eq_false_iff_ne.mpr c12
   have c12b1 : (a0_1 != 9218868437227405312) = true := bne_iff_ne.mpr c12
   (first | rw [c12b0] | (simp only [i64_w, i32_w]; rw [c12b0]) | skip)
   have H' := Aside0.mk H
   clear H
   obtain ⟨_, _⟩ := zsy NB1102_1103
   obtain ⟨z16_0, z16_1, z16_2, f16_0, f16_1, f16_2⟩ := zq3 BK1102
   go_wp2
   go_meet
   case rel => exact ⟨_, ((a0_2 == 18442240474082181120)), zrl, H', ⟨zle⟩, ⟨zkq BK1102⟩, ⟨zkq BK1103⟩, ⟨zaB⟩⟩
  replace c11 := Bool.eq_false_iff.mpr c11
  subst c11
  replace H := zif H
  have H' := Aside0.mk H
  clear H
  obtain ⟨_, _⟩ := zsy NB1102_1103
  obtain ⟨z18_0, z18_1, z18_2, f18_0, f18_1, f18_2⟩ := zq3 BK1102
  go_wp2
  go_meet
  case rel => exact ⟨_, (true), zrl, H', ⟨zle⟩, ⟨zkq BK1102⟩, ⟨zkq BK1103⟩, ⟨zaB⟩⟩
 case rest =>
  clear HC3
  try clear c1
  try clear p2
  try clear c4
  try clear c6
  try clear c8
  try clear c9
  try clear c11
  try clear c12
  try clear c12b0
  try clear c12b1
  try clear c13
  try clear c15
  try clear c17
  try clear z10_0 z10_1 z10_2 f10_0 f10_1 f10_2
  try clear z14_0 z14_1 z14_2 f14_0 f14_1 f14_2
  try clear z16_0 z16_1 z16_2 f16_0 f16_1 f16_2
  try clear z18_0 z18_1 z18_2 f18_0 f18_1 f18_2
  try clear z7_0 z7_1 z7_2 f7_0 f7_1 f7_2
  obtain ⟨kq, x24_2, rfl, HA, HJ2, BK1102, BK1103, HB⟩ := hcut
  cases kq with
  | zero => exact absurd HA.out (by simp [flyballref16_Norm.j0])
  | succ kj2 =>
   have H := HA.out
   clear HA
   simp only [flyballref16_Norm.j0] at H
   by_cases c19 : x24_2 = true
   ·subst c19
    replace H := zit H
    simp only [Option.some.injEq, Prod.mk.injEq] at H
    obtain ⟨rfl, rfl, rfl⟩ := H
    obtain ⟨_, _⟩ := zsy NB1103_1102
    obtain ⟨_, _, _, _, _, _⟩ := zq3 BK1103
    go_wp2
    refine bodyPost_ret (results_cell_row rfl _ _ gb1103 43 #[.bool true, .int .u64 0, .int .u64 0] (0, 0) _ rfl (blk_put (cs := #[.bool true, .int .u64 0, .int .u64 0]) (blk_put (cs := #[.bool true, .int .u64 0, .int .u64 0]) (blk_put (zkq BK1103) 0 _ rfl) 1 _ rfl) 2 _ rfl) Try.underlying43 rfl (by kernel_rfl)) rfl ?_
    exact ⟨zaE, zaB⟩
   replace c19 := Bool.eq_false_iff.mpr c19
   subst c19
   replace H := zif H
   by_cases c22 : a0_1 = 9223372036854775808
   ·rw [if_pos c22] at H
    have c22b0 : (a0_1 == 9223372036854775808) = true := beq_iff_eq.mpr c22
    have c22b1 : (a0_1 != 9223372036854775808) = false := bne_eq_false_iff_eq.mpr c22
    clear c22
    by_cases c23 : a0_2 = 9223372036854775808
    ·rw [if_pos c23] at H
     have c23b0 : (a0_2 == 9223372036854775808) = true := beq_iff_eq.mpr c23
     have c23b1 : (a0_2 != 9223372036854775808) = false := bne_eq_false_iff_eq.mpr c23
     clear c23
     simp only [Option.some.injEq, Prod.mk.injEq] at H
     obtain ⟨rfl, rfl, rfl⟩ := H
     obtain ⟨_, _⟩ := zsy NB1102_1103
     obtain ⟨_, _, _, _, _, _⟩ := zq3 BK1102
     obtain ⟨_, _, _, _, _, _⟩ := zq3 BK1103
     go_wp2
     refine bodyPost_ret (results_cell_row rfl _ _ gb1103 43 #[.bool a0_0, .int .u64 0, .int .u64 0] (0, 0) _ rfl (blk_put (cs := #[.bool a0_0, .int .u64 0, .int .u64 0]) (blk_put (cs := #[.bool a0_0, .int .u64 0, .int .u64 0]) (blk_put (zkf (zkf (zkq BK1103) NB1103_1102.out _) NB1103_1102.out _) 0 _ rfl) 1 _ rfl) 2 _ rfl) Try.underlying43 rfl (by kernel_rfl)) rfl ?_
     exact ⟨zaE, zaB⟩
    rw [if_neg c23] at H
    have c23b0 : (a0_2 == 9223372036854775808) = false := beq_eq_false_iff_ne.mpr c23
    have c23b1 : (a0_2 != 9223372036854775808) = true := bne_iff_ne.mpr c23
    simp only [Option.some.injEq, Prod.mk.injEq] at H
    obtain ⟨rfl, rfl, rfl⟩ := H
    obtain ⟨_, _⟩ := zsy NB1102_1103
    obtain ⟨_, _, _, _, _, _⟩ := zq3 BK1102
    obtain ⟨_, _, _, _, _, _⟩ := zq3 BK1103
    go_wp2
    refine bodyPost_ret (results_cell_row rfl _ _ gb1103 43 #[.bool a0_0, .int .u64 0, .int .u64 a0_2] (0, 0) _ rfl (blk_put (cs := #[.bool a0_0, .int .u64 0, .int .u64 0]) (blk_put (cs := #[.bool a0_0, .int .u64 0, .int .u64 0]) (blk_put (zkf (zkq BK1103) NB1103_1102.out _) 0 _ rfl) 1 _ rfl) 2 _ rfl) Try.underlying43 rfl (by kernel_rfl)) rfl ?_
    exact ⟨zaE, zaB⟩
   rw [if_neg c22] at H
   have c22b0 : (a0_1 == 9223372036854775808) = false := beq_eq_false_iff_ne.mpr c22
   have c22b1 : (a0_1 != 9223372036854775808) = true := bne_iff_ne.mpr c22
   by_cases c30 : a0_2 = 9223372036854775808
   ·rw [if_pos c30] at H
    have c30b0 : (a0_2 == 9223372036854775808) = true := beq_iff_eq.mpr c30
    have c30b1 : (a0_2 != 9223372036854775808) = false := bne_eq_false_iff_eq.mpr c30
    clear c30
    simp only [Option.some.injEq, Prod.mk.injEq] at H
    obtain ⟨rfl, rfl, rfl⟩ := H
    obtain ⟨_, _⟩ := zsy NB1102_1103
    obtain ⟨_, _, _, _, _, _⟩ := zq3 BK1102
    obtain ⟨_, _, _, _, _, _⟩ := zq3 BK1103
    go_wp2
    refine bodyPost_ret (results_cell_row rfl _ _ gb1103 43 #[.bool a0_0, .int .u64 a0_1, .int .u64 0] (0, 0) _ rfl (blk_put (cs := #[.bool a0_0, .int .u64 a0_1, .int .u64 0]) (blk_put (cs := #[.bool a0_0, .int .u64 0, .int .u64 0]) (blk_put (zkf (zkq BK1103) NB1103_1102.out _) 0 _ rfl) 1 _ rfl) 2 _ rfl) Try.underlying43 rfl (by kernel_rfl)) rfl ?_
    exact ⟨zaE, zaB⟩
   rw [if_neg c30] at H
   have c30b0 : (a0_2 == 9223372036854775808) = false := beq_eq_false_iff_ne.mpr c30
   have c30b1 : (a0_2 != 9223372036854775808) = true := bne_iff_ne.mpr c30
   simp only [Option.some.injEq, Prod.mk.injEq] at H
   obtain ⟨rfl, rfl, rfl⟩ := H
   obtain ⟨_, _⟩ := zsy NB1102_1103
   obtain ⟨_, _, _, _, _, _⟩ := zq3 BK1102
   obtain ⟨_, _, _, _, _, _⟩ := zq3 BK1103
   go_wp2
   refine bodyPost_ret (results_cell_row rfl _ _ gb1103 43 #[.bool a0_0, .int .u64 a0_1, .int .u64 a0_2] (0, 0) _ rfl (blk_put (cs := #[.bool a0_0, .int .u64 a0_1, .int .u64 0]) (blk_put (cs := #[.bool a0_0, .int .u64 0, .int .u64 0]) (blk_put (zkq BK1103) 0 _ rfl) 1 _ rfl) 2 _ rfl) Try.underlying43 rfl (by kernel_rfl)) rfl ?_
   exact ⟨zaE, zaB⟩
theorem flyballref16_Join.calls (k : Nat) (a0_0 : Bool) (a0_1 : Int) (a0_2 : Int) (a1_0 : Bool) (a1_1 : Int) (a1_2 : Int) (r1 : Bool) (r2 : Int) (r3 : Int) (w : World) (h : flyballref16_Join.f k a0_0 a0_1 a0_2 a1_0 a1_1 a1_2 = some (r1, r2, r3)) :
  Calls Try.prog 46 #[.agg #[.bool a0_0, .int .u64 a0_1, .int .u64 a0_2], .agg #[.bool a1_0, .int .u64 a1_1, .int .u64 a1_2]] w fun e w' => e = .returned (.agg #[.bool r1, .int .u64 r2, .int .u64 r3]) ∧ Below w.heap.size w w' := by
 have hu43 := Try.underlying43
 have HB := Aside0.mk (Below.refl w.heap.size w)
 have H : ((flyballref16_Norm.f k a0_0 a0_1 a0_2).bind fun bt1133 => ((flyballref16_Norm.f k a1_0 a1_1 a1_2).bind fun bt1137 => (if bt1133.1 = true then (some (bt1137.1, bt1137.2.1, bt1137.2.2)) else (if bt1137.1 = true then (some (bt1133.1, bt1133.2.1, bt1133.2.2)) else ((flyballref16_le.f k bt1137.2.1 bt1133.2.1).bind fun t1141 => (if t1141 = true then ((flyballref16_le.f k bt1133.2.2 bt1137.2.2).bind fun t1142 => (if t1142 = true then (some (bt1133.1, bt1137.2.1, bt1137.2.2)) else (some (bt1133.1, bt1137.2.1, bt1133.2.2)))) else ((flyballref16_le.f k bt1133.2.2 bt1137.2.2).bind fun t1143 => (if t1143 = true then (some (bt1133.1, bt1133.2.1, bt1137.2.2)) else (some (bt1133.1, bt1133.2.1, bt1133.2.2)))))))))) = some (r1, r2, r3) := h
 clear h
 obtain ⟨⟨t1133, t1134, t1135⟩, A3, H⟩ := zbs H
 try dsimp only at H
 obtain ⟨⟨t1137, t1138, t1139⟩, A4, H⟩ := zbs H
 try dsimp only at H
 by_cases c5 : t1133 = true
 ·subst c5
  replace H := zit H
  simp only [Option.some.injEq, Prod.mk.injEq] at H
  obtain ⟨rfl, rfl, rfl⟩ := H
  go_enter Try.func46, Try.ntmps46
  go_wp2_with (first | ((with_reducible refine gtd 2 rfl ?_); refine zbx 2 #[.bool a0_0, .int .u64 a0_1, .int .u64 a0_2] 43 (h := ?_); intro gb1130 hg w6 hbox hb; have GW1130 := zkZ hg (zaB (p := Below w.heap.size w _)); replace HB := Aside0.mk (below_step zaB hb); have BK1130 := Aside0.mk (hbox); clear hb hbox hg) | ((with_reducible refine gtd 3 rfl ?_); refine zbx 3 #[.bool a1_0, .int .u64 a1_1, .int .u64 a1_2] 43 (h := ?_); intro gb1131 hg w7 hbox hb; have GW1131 := zkz HB hg; have NB1130_1131 := zkl BK1130 hg; have NB1131_1130 := zkr BK1130 hg; replace BK1130 := zkb BK1130 hb; replace HB := zkB HB hb; have BK1131 := Aside0.mk (hbox); clear hb hbox hg) | ((with_reducible refine gtd 4 rfl ?_); refine zbx 4 #[.bool false, .int .u64 0, .int .u64 0] 43 (h := ?_); intro gb1132 hg w8 hbox hb; have GW1132 := zkz HB hg; have NB1130_1132 := zkl BK1130 hg; have NB1132_1130 := zkr BK1130 hg; have NB1131_1132 := zkl BK1131 hg; have NB1132_1131 := zkr BK1131 hg; replace BK1130 := zkb BK1130 hb; replace BK1131 := zkb BK1131 hb; replace HB := zkB HB hb; have BK1132 := Aside0.mk (hbox); clear hb hbox hg; obtain ⟨_, _, _, _⟩ := zs2 NB1130_1131 NB1130_1132; obtain ⟨_, _, _, _, _, _⟩ := zq3 BK1130) | ((with_reducible refine gtc 49 rfl ?_); refine zgL 8 Try.func49 (flyballref16_Norm.calls k a0_0 a0_1 a0_2 true t1134 t1135 _ A3.out) (h := ?_); rintro w12 hb; replace BK1130 := zkb BK1130 hb; replace BK1131 := zkb BK1131 hb; replace BK1132 := zkb BK1132 hb; replace HB := zkB HB hb; (try clear hb)) | ((with_reducible refine gtd 5 rfl ?_); refine zbx 5 #[.bool false, .int .u64 0, .int .u64 0] 43 (h := ?_); intro gb1136 hg w13 hbox hb; have GW1136 := zkz HB hg; have NB1130_1136 := zkl BK1130 hg; have NB1136_1130 := zkr BK1130 hg; have NB1131_1136 := zkl BK1131 hg; have NB1136_1131 := zkr BK1131 hg; have NB1132_1136 := zkl BK1132 hg; have NB1136_1132 := zkr BK1132 hg; replace BK1130 := zkb BK1130 hb; replace BK1131 := zkb BK1131 hb; replace BK1132 := zkb BK1132 hb; replace HB := zkB HB hb; have BK1136 := Aside0.mk (hbox); clear hb hbox hg; obtain ⟨_, _, _, _, _, _⟩ := zs3 NB1136_1130 NB1136_1131 NB1136_1132; obtain ⟨_, _, _, _, _, _⟩ := zq3 BK1136; obtain ⟨_, _⟩ := zsy NB1131_1132; obtain ⟨_, _, _, _, _, _⟩ := zq3 BK1131) | ((with_reducible refine gtc 49 rfl ?_); refine zgL 10 Try.func49 (flyballref16_Norm.calls k a1_0 a1_1 a1_2 t1137 t1138 t1139 _ A4.out) (h := ?_); rintro w20 hb; replace BK1130 := Aside0.mk (blk_below (g := gb1130) (o := .cells #[.bool a0_0, .int .u64 a0_1, .int .u64 a0_2] 43 (0, 0)) (by (with_reducible repeat (first | refine blk_drewN ?_ _ | refine blk_drew ?_ | refine blk_alloc ?_ _)); refine blk_far ?_ NB1130_1136.out _; (with_reducible repeat (first | refine blk_drewN ?_ _ | refine blk_drew ?_ | refine blk_alloc ?_ _)); refine blk_far ?_ NB1130_1136.out _; (with_reducible repeat (first | refine blk_drewN ?_ _ | refine blk_drew ?_ | refine blk_alloc ?_ _)); refine blk_far ?_ NB1130_1136.out _; (with_reducible repeat (first | refine blk_drewN ?_ _ | refine blk_drew ?_ | refine blk_alloc ?_ _)); exact BK1130.out) hb); replace BK1131 := Aside0.mk (blk_below (g := gb1131) (o := .cells #[.bool a1_0, .int .u64 a1_1, .int .u64 a1_2] 43 (0, 0)) (by (with_reducible repeat (first | refine blk_drewN ?_ _ | refine blk_drew ?_ | refine blk_alloc ?_ _)); refine blk_far ?_ NB1131_1136.out _; (with_reducible repeat (first | refine blk_drewN ?_ _ | refine blk_drew ?_ | refine blk_alloc ?_ _)); refine blk_far ?_ NB1131_1136.out _; (with_reducible repeat (first | refine blk_drewN ?_ _ | refine blk_drew ?_ | refine blk_alloc ?_ _)); refine blk_far ?_ NB1131_1136.out _; (with_reducible repeat (first | refine blk_drewN ?_ _ | refine blk_drew ?_ | refine blk_alloc ?_ _)); exact BK1131.out) hb); replace BK1132 := Aside0.mk (blk_below (g := gb1132) (o := .cells #[.bool false, .int .u64 0, .int .u64 0] 43 (0, 0)) (by (with_reducible repeat (first | refine blk_drewN ?_ _ | refine blk_drew ?_ | refine blk_alloc ?_ _)); refine blk_far ?_ NB1132_1136.out _; (with_reducible repeat (first | refine blk_drewN ?_ _ | refine blk_drew ?_ | refine blk_alloc ?_ _)); refine blk_far ?_ NB1132_1136.out _; (with_reducible repeat (first | refine blk_drewN ?_ _ | refine blk_drew ?_ | refine blk_alloc ?_ _)); refine blk_far ?_ NB1132_1136.out _; (with_reducible repeat (first | refine blk_drewN ?_ _ | refine blk_drew ?_ | refine blk_alloc ?_ _)); exact BK1132.out) hb); replace BK1136 := Aside0.mk (blk_below (g := gb1136) (o := .cells #[.bool true, .int .u64 t1134, .int .u64 t1135] 43 (0, 0)) (by (with_reducible repeat (first | refine blk_drewN ?_ _ | refine blk_drew ?_ | refine blk_alloc ?_ _)); refine blk_put (cs := #[.bool true, .int .u64 t1134, .int .u64 0]) ?_ 2 _ rfl; (with_reducible repeat (first | refine blk_drewN ?_ _ | refine blk_drew ?_ | refine blk_alloc ?_ _)); refine blk_put (cs := #[.bool true, .int .u64 0, .int .u64 0]) ?_ 1 _ rfl; (with_reducible repeat (first | refine blk_drewN ?_ _ | refine blk_drew ?_ | refine blk_alloc ?_ _)); refine blk_put (cs := #[.bool false, .int .u64 0, .int .u64 0]) ?_ 0 _ rfl; (with_reducible repeat (first | refine blk_drewN ?_ _ | refine blk_drew ?_ | refine blk_alloc ?_ _)); exact BK1136.out) hb); replace HB := Aside0.mk (below_step zaB hb); (try clear hb)) | ((with_reducible refine gtd 6 rfl ?_); refine zbx 6 #[.bool false, .int .u64 0, .int .u64 0] 43 (h := ?_); intro gb1140 hg w21 hbox hb; have GW1140 := zkz HB hg; have NB1130_1140 := zkl BK1130 hg; have NB1140_1130 := zkr BK1130 hg; have NB1131_1140 := zkl BK1131 hg; have NB1140_1131 := zkr BK1131 hg; have NB1132_1140 := zkl BK1132 hg; have NB1140_1132 := zkr BK1132 hg; have NB1136_1140 := zkl BK1136 hg; have NB1140_1136 := zkr BK1136 hg; replace BK1130 := zkb BK1130 hb; replace BK1131 := zkb BK1131 hb; replace BK1132 := zkb BK1132 hb; replace BK1136 := zkb BK1136 hb; replace HB := zkB HB hb; have BK1140 := Aside0.mk (hbox); clear hb hbox hg; obtain ⟨_, _, _, _, _, _, _, _⟩ := zs4 NB1140_1130 NB1140_1131 NB1140_1132 NB1140_1136; obtain ⟨_, _, _, _, _, _⟩ := zq3 BK1140; obtain ⟨_, _, _, _, _, _⟩ := zq3 BK1136; obtain ⟨_, _, _, _, _, _⟩ := zq3 BK1132))
  refine bodyPost_ret (results_cell_row rfl _ _ gb1132 43 #[.bool t1137, .int .u64 t1138, .int .u64 t1139] (0, 0) _ rfl (by (with_reducible repeat (first | refine blk_drewN ?_ _ | refine blk_drew ?_ | refine blk_alloc ?_ _)); refine blk_put (cs := #[.bool t1137, .int .u64 t1138, .int .u64 0]) ?_ 2 _ rfl; (with_reducible repeat (first | refine blk_drewN ?_ _ | refine blk_drew ?_ | refine blk_alloc ?_ _)); refine blk_put (cs := #[.bool t1137, .int .u64 0, .int .u64 0]) ?_ 1 _ rfl; (with_reducible repeat (first | refine blk_drewN ?_ _ | refine blk_drew ?_ | refine blk_alloc ?_ _)); refine blk_put (cs := #[.bool false, .int .u64 0, .int .u64 0]) ?_ 0 _ rfl; (with_reducible repeat (first | refine blk_drewN ?_ _ | refine blk_drew ?_ | refine blk_alloc ?_ _)); refine blk_far ?_ NB1132_1140.out _; (with_reducible repeat (first | refine blk_drewN ?_ _ | refine blk_drew ?_ | refine blk_alloc ?_ _)); refine blk_far ?_ NB1132_1140.out _; (with_reducible repeat (first | refine blk_drewN ?_ _ | refine blk_drew ?_ | refine blk_alloc ?_ _)); refine blk_far ?_ NB1132_1140.out _; (with_reducible repeat (first | refine blk_drewN ?_ _ | refine blk_drew ?_ | refine blk_alloc ?_ _)); exact BK1132.out) Try.underlying43 rfl (by kernel_rfl)) rfl ?_
  exact ⟨zaE, zaB⟩
 replace c5 := Bool.eq_false_iff.mpr c5
 subst c5
 replace H := zif H
 by_cases c29 : t1137 = true
 ·subst c29
  replace H := zit H
  simp only [Option.some.injEq, Prod.mk.injEq] at H
  obtain ⟨rfl, rfl, rfl⟩ := H
  go_enter Try.func46, Try.ntmps46
  go_wp2_with (first | ((with_reducible refine gtd 2 rfl ?_); refine zbx 2 #[.bool a0_0, .int .u64 a0_1, .int .u64 a0_2] 43 (h := ?_); intro gb1130 hg w30 hbox hb; have GW1130 := zkZ hg (zaB (p := Below w.heap.size w _)); replace HB := Aside0.mk (below_step zaB hb); have BK1130 := Aside0.mk (hbox); clear hb hbox hg) | ((with_reducible refine gtd 3 rfl ?_); refine zbx 3 #[.bool a1_0, .int .u64 a1_1, .int .u64 a1_2] 43 (h := ?_); intro gb1131 hg w31 hbox hb; have GW1131 := zkz HB hg; have NB1130_1131 := zkl BK1130 hg; have NB1131_1130 := zkr BK1130 hg; replace BK1130 := zkb BK1130 hb; replace HB := zkB HB hb; have BK1131 := Aside0.mk (hbox); clear hb hbox hg) | ((with_reducible refine gtd 4 rfl ?_); refine zbx 4 #[.bool false, .int .u64 0, .int .u64 0] 43 (h := ?_); intro gb1132 hg w32 hbox hb; have GW1132 := zkz HB hg; have NB1130_1132 := zkl BK1130 hg; have NB1132_1130 := zkr BK1130 hg; have NB1131_1132 := zkl BK1131 hg; have NB1132_1131 := zkr BK1131 hg; replace BK1130 := zkb BK1130 hb; replace BK1131 := zkb BK1131 hb; replace HB := zkB HB hb; have BK1132 := Aside0.mk (hbox); clear hb hbox hg; obtain ⟨_, _, _, _⟩ := zs2 NB1130_1131 NB1130_1132; obtain ⟨_, _, _, _, _, _⟩ := zq3 BK1130) | ((with_reducible refine gtc 49 rfl ?_); refine zgL 8 Try.func49 (flyballref16_Norm.calls k a0_0 a0_1 a0_2 false t1134 t1135 _ A3.out) (h := ?_); rintro w36 hb; replace BK1130 := zkb BK1130 hb; replace BK1131 := zkb BK1131 hb; replace BK1132 := zkb BK1132 hb; replace HB := zkB HB hb; (try clear hb)) | ((with_reducible refine gtd 5 rfl ?_); refine zbx 5 #[.bool false, .int .u64 0, .int .u64 0] 43 (h := ?_); intro gb1136 hg w37 hbox hb; have GW1136 := zkz HB hg; have NB1130_1136 := zkl BK1130 hg; have NB1136_1130 := zkr BK1130 hg; have NB1131_1136 := zkl BK1131 hg; have NB1136_1131 := zkr BK1131 hg; have NB1132_1136 := zkl BK1132 hg; have NB1136_1132 := zkr BK1132 hg; replace BK1130 := zkb BK1130 hb; replace BK1131 := zkb BK1131 hb; replace BK1132 := zkb BK1132 hb; replace HB := zkB HB hb; have BK1136 := Aside0.mk (hbox); clear hb hbox hg; obtain ⟨_, _, _, _, _, _⟩ := zs3 NB1136_1130 NB1136_1131 NB1136_1132; obtain ⟨_, _, _, _, _, _⟩ := zq3 BK1136; obtain ⟨_, _⟩ := zsy NB1131_1132; obtain ⟨_, _, _, _, _, _⟩ := zq3 BK1131) | ((with_reducible refine gtc 49 rfl ?_); refine zgL 10 Try.func49 (flyballref16_Norm.calls k a1_0 a1_1 a1_2 true t1138 t1139 _ A4.out) (h := ?_); rintro w44 hb; replace BK1130 := Aside0.mk (blk_below (g := gb1130) (o := .cells #[.bool a0_0, .int .u64 a0_1, .int .u64 a0_2] 43 (0, 0)) (by (with_reducible repeat (first | refine blk_drewN ?_ _ | refine blk_drew ?_ | refine blk_alloc ?_ _)); refine blk_far ?_ NB1130_1136.out _; (with_reducible repeat (first | refine blk_drewN ?_ _ | refine blk_drew ?_ | refine blk_alloc ?_ _)); refine blk_far ?_ NB1130_1136.out _; (with_reducible repeat (first | refine blk_drewN ?_ _ | refine blk_drew ?_ | refine blk_alloc ?_ _)); refine blk_far ?_ NB1130_1136.out _; (with_reducible repeat (first | refine blk_drewN ?_ _ | refine blk_drew ?_ | refine blk_alloc ?_ _)); exact BK1130.out) hb); replace BK1131 := Aside0.mk (blk_below (g := gb1131) (o := .cells #[.bool a1_0, .int .u64 a1_1, .int .u64 a1_2] 43 (0, 0)) (by (with_reducible repeat (first | refine blk_drewN ?_ _ | refine blk_drew ?_ | refine blk_alloc ?_ _)); refine blk_far ?_ NB1131_1136.out _; (with_reducible repeat (first | refine blk_drewN ?_ _ | refine blk_drew ?_ | refine blk_alloc ?_ _)); refine blk_far ?_ NB1131_1136.out _; (with_reducible repeat (first | refine blk_drewN ?_ _ | refine blk_drew ?_ | refine blk_alloc ?_ _)); refine blk_far ?_ NB1131_1136.out _; (with_reducible repeat (first | refine blk_drewN ?_ _ | refine blk_drew ?_ | refine blk_alloc ?_ _)); exact BK1131.out) hb); replace BK1132 := Aside0.mk (blk_below (g := gb1132) (o := .cells #[.bool false, .int .u64 0, .int .u64 0] 43 (0, 0)) (by (with_reducible repeat (first | refine blk_drewN ?_ _ | refine blk_drew ?_ | refine blk_alloc ?_ _)); refine blk_far ?_ NB1132_1136.out _; (with_reducible repeat (first | refine blk_drewN ?_ _ | refine blk_drew ?_ | refine blk_alloc ?_ _)); refine blk_far ?_ NB1132_1136.out _; (with_reducible repeat (first | refine blk_drewN ?_ _ | refine blk_drew ?_ | refine blk_alloc ?_ _)); refine blk_far ?_ NB1132_1136.out _; (with_reducible repeat (first | refine blk_drewN ?_ _ | refine blk_drew ?_ | refine blk_alloc ?_ _)); exact BK1132.out) hb); replace BK1136 := Aside0.mk (blk_below (g := gb1136) (o := .cells #[.bool false, .int .u64 t1134, .int .u64 t1135] 43 (0, 0)) (by (with_reducible repeat (first | refine blk_drewN ?_ _ | refine blk_drew ?_ | refine blk_alloc ?_ _)); refine blk_put (cs := #[.bool false, .int .u64 t1134, .int .u64 0]) ?_ 2 _ rfl; (with_reducible repeat (first | refine blk_drewN ?_ _ | refine blk_drew ?_ | refine blk_alloc ?_ _)); refine blk_put (cs := #[.bool false, .int .u64 0, .int .u64 0]) ?_ 1 _ rfl; (with_reducible repeat (first | refine blk_drewN ?_ _ | refine blk_drew ?_ | refine blk_alloc ?_ _)); refine blk_put (cs := #[.bool false, .int .u64 0, .int .u64 0]) ?_ 0 _ rfl; (with_reducible repeat (first | refine blk_drewN ?_ _ | refine blk_drew ?_ | refine blk_alloc ?_ _)); exact BK1136.out) hb); replace HB := Aside0.mk (below_step zaB hb); (try clear hb)) | ((with_reducible refine gtd 6 rfl ?_); refine zbx 6 #[.bool false, .int .u64 0, .int .u64 0] 43 (h := ?_); intro gb1140 hg w45 hbox hb; have GW1140 := zkz HB hg; have NB1130_1140 := zkl BK1130 hg; have NB1140_1130 := zkr BK1130 hg; have NB1131_1140 := zkl BK1131 hg; have NB1140_1131 := zkr BK1131 hg; have NB1132_1140 := zkl BK1132 hg; have NB1140_1132 := zkr BK1132 hg; have NB1136_1140 := zkl BK1136 hg; have NB1140_1136 := zkr BK1136 hg; replace BK1130 := zkb BK1130 hb; replace BK1131 := zkb BK1131 hb; replace BK1132 := zkb BK1132 hb; replace BK1136 := zkb BK1136 hb; replace HB := zkB HB hb; have BK1140 := Aside0.mk (hbox); clear hb hbox hg; obtain ⟨_, _, _, _, _, _, _, _⟩ := zs4 NB1140_1130 NB1140_1131 NB1140_1132 NB1140_1136; obtain ⟨_, _, _, _, _, _⟩ := zq3 BK1140; obtain ⟨_, _, _, _, _, _⟩ := zq3 BK1136; obtain ⟨_, _, _, _, _, _⟩ := zq3 BK1132))
  refine bodyPost_ret (results_cell_row rfl _ _ gb1132 43 #[.bool false, .int .u64 t1134, .int .u64 t1135] (0, 0) _ rfl (by (with_reducible repeat (first | refine blk_drewN ?_ _ | refine blk_drew ?_ | refine blk_alloc ?_ _)); refine blk_put (cs := #[.bool false, .int .u64 t1134, .int .u64 0]) ?_ 2 _ rfl; (with_reducible repeat (first | refine blk_drewN ?_ _ | refine blk_drew ?_ | refine blk_alloc ?_ _)); refine blk_put (cs := #[.bool false, .int .u64 0, .int .u64 0]) ?_ 1 _ rfl; (with_reducible repeat (first | refine blk_drewN ?_ _ | refine blk_drew ?_ | refine blk_alloc ?_ _)); refine blk_put (cs := #[.bool false, .int .u64 0, .int .u64 0]) ?_ 0 _ rfl; (with_reducible repeat (first | refine blk_drewN ?_ _ | refine blk_drew ?_ | refine blk_alloc ?_ _)); refine blk_far ?_ NB1132_1140.out _; (with_reducible repeat (first | refine blk_drewN ?_ _ | refine blk_drew ?_ | refine blk_alloc ?_ _)); refine blk_far ?_ NB1132_1140.out _; (with_reducible repeat (first | refine blk_drewN ?_ _ | refine blk_drew ?_ | refine blk_alloc ?_ _)); refine blk_far ?_ NB1132_1140.out _; (with_reducible repeat (first | refine blk_drewN ?_ _ | refine blk_drew ?_ | refine blk_alloc ?_ _)); exact BK1132.out) Try.underlying43 rfl (by kernel_rfl)) rfl ?_
  exact ⟨zaE, zaB⟩
 replace c29 := Bool.eq_false_iff.mpr c29
 subst c29
 replace H := zif H
 obtain ⟨t1141, A53, H⟩ := zbs H
 try dsimp only at H
 by_cases c54 : t1141 = true
 ·subst c54
  replace H := zit H
  obtain ⟨t1142, A55, H⟩ := zbs H
  try dsimp only at H
  by_cases c56 : t1142 = true
  ·subst c56
   replace H := zit H
   simp only [Option.some.injEq, Prod.mk.injEq] at H
   obtain ⟨rfl, rfl, rfl⟩ := H
   go_enter Try.func46, Try.ntmps46
   go_wp2_with (first | ((with_reducible refine gtd 2 rfl ?_); refine zbx 2 #[.bool a0_0, .int .u64 a0_1, .int .u64 a0_2] 43 (h := ?_); intro gb1130 hg w57 hbox hb; have GW1130 := zkZ hg (zaB (p := Below w.heap.size w _)); replace HB := Aside0.mk (below_step zaB hb); have BK1130 := Aside0.mk (hbox); clear hb hbox hg) | ((with_reducible refine gtd 3 rfl ?_); refine zbx 3 #[.bool a1_0, .int .u64 a1_1, .int .u64 a1_2] 43 (h := ?_); intro gb1131 hg w58 hbox hb; have GW1131 := zkz HB hg; have NB1130_1131 := zkl BK1130 hg; have NB1131_1130 := zkr BK1130 hg; replace BK1130 := zkb BK1130 hb; replace HB := zkB HB hb; have BK1131 := Aside0.mk (hbox); clear hb hbox hg) | ((with_reducible refine gtd 4 rfl ?_); refine zbx 4 #[.bool false, .int .u64 0, .int .u64 0] 43 (h := ?_); intro gb1132 hg w59 hbox hb; have GW1132 := zkz HB hg; have NB1130_1132 := zkl BK1130 hg; have NB1132_1130 := zkr BK1130 hg; have NB1131_1132 := zkl BK1131 hg; have NB1132_1131 := zkr BK1131 hg; replace BK1130 := zkb BK1130 hb; replace BK1131 := zkb BK1131 hb; replace HB := zkB HB hb; have BK1132 := Aside0.mk (hbox); clear hb hbox hg; obtain ⟨_, _, _, _⟩ := zs2 NB1130_1131 NB1130_1132; obtain ⟨_, _, _, _, _, _⟩ := zq3 BK1130) | ((with_reducible refine gtc 49 rfl ?_); refine zgL 8 Try.func49 (flyballref16_Norm.calls k a0_0 a0_1 a0_2 false t1134 t1135 _ A3.out) (h := ?_); rintro w63 hb; replace BK1130 := zkb BK1130 hb; replace BK1131 := zkb BK1131 hb; replace BK1132 := zkb BK1132 hb; replace HB := zkB HB hb; (try clear hb)) | ((with_reducible refine gtd 5 rfl ?_); refine zbx 5 #[.bool false, .int .u64 0, .int .u64 0] 43 (h := ?_); intro gb1136 hg w64 hbox hb; have GW1136 := zkz HB hg; have NB1130_1136 := zkl BK1130 hg; have NB1136_1130 := zkr BK1130 hg; have NB1131_1136 := zkl BK1131 hg; have NB1136_1131 := zkr BK1131 hg; have NB1132_1136 := zkl BK1132 hg; have NB1136_1132 := zkr BK1132 hg; replace BK1130 := zkb BK1130 hb; replace BK1131 := zkb BK1131 hb; replace BK1132 := zkb BK1132 hb; replace HB := zkB HB hb; have BK1136 := Aside0.mk (hbox); clear hb hbox hg; obtain ⟨_, _, _, _, _, _⟩ := zs3 NB1136_1130 NB1136_1131 NB1136_1132; obtain ⟨_, _, _, _, _, _⟩ := zq3 BK1136; obtain ⟨_, _⟩ := zsy NB1131_1132; obtain ⟨_, _, _, _, _, _⟩ := zq3 BK1131) | ((with_reducible refine gtc 49 rfl ?_); refine zgL 10 Try.func49 (flyballref16_Norm.calls k a1_0 a1_1 a1_2 false t1138 t1139 _ A4.out) (h := ?_); rintro w71 hb; replace BK1130 := Aside0.mk (blk_below (g := gb1130) (o := .cells #[.bool a0_0, .int .u64 a0_1, .int .u64 a0_2] 43 (0, 0)) (by (with_reducible repeat (first | refine blk_drewN ?_ _ | refine blk_drew ?_ | refine blk_alloc ?_ _)); refine blk_far ?_ NB1130_1136.out _; (with_reducible repeat (first | refine blk_drewN ?_ _ | refine blk_drew ?_ | refine blk_alloc ?_ _)); refine blk_far ?_ NB1130_1136.out _; (with_reducible repeat (first | refine blk_drewN ?_ _ | refine blk_drew ?_ | refine blk_alloc ?_ _)); refine blk_far ?_ NB1130_1136.out _; (with_reducible repeat (first | refine blk_drewN ?_ _ | refine blk_drew ?_ | refine blk_alloc ?_ _)); exact BK1130.out) hb); replace BK1131 := Aside0.mk (blk_below (g := gb1131) (o := .cells #[.bool a1_0, .int .u64 a1_1, .int .u64 a1_2] 43 (0, 0)) (by (with_reducible repeat (first | refine blk_drewN ?_ _ | refine blk_drew ?_ | refine blk_alloc ?_ _)); refine blk_far ?_ NB1131_1136.out _; (with_reducible repeat (first | refine blk_drewN ?_ _ | refine blk_drew ?_ | refine blk_alloc ?_ _)); refine blk_far ?_ NB1131_1136.out _; (with_reducible repeat (first | refine blk_drewN ?_ _ | refine blk_drew ?_ | refine blk_alloc ?_ _)); refine blk_far ?_ NB1131_1136.out _; (with_reducible repeat (first | refine blk_drewN ?_ _ | refine blk_drew ?_ | refine blk_alloc ?_ _)); exact BK1131.out) hb); replace BK1132 := Aside0.mk (blk_below (g := gb1132) (o := .cells #[.bool false, .int .u64 0, .int .u64 0] 43 (0, 0)) (by (with_reducible repeat (first | refine blk_drewN ?_ _ | refine blk_drew ?_ | refine blk_alloc ?_ _)); refine blk_far ?_ NB1132_1136.out _; (with_reducible repeat (first | refine blk_drewN ?_ _ | refine blk_drew ?_ | refine blk_alloc ?_ _)); refine blk_far ?_ NB1132_1136.out _; (with_reducible repeat (first | refine blk_drewN ?_ _ | refine blk_drew ?_ | refine blk_alloc ?_ _)); refine blk_far ?_ NB1132_1136.out _; (with_reducible repeat (first | refine blk_drewN ?_ _ | refine blk_drew ?_ | refine blk_alloc ?_ _)); exact BK1132.out) hb); replace BK1136 := Aside0.mk (blk_below (g := gb1136) (o := .cells #[.bool false, .int .u64 t1134, .int .u64 t1135] 43 (0, 0)) (by (with_reducible repeat (first | refine blk_drewN ?_ _ | refine blk_drew ?_ | refine blk_alloc ?_ _)); refine blk_put (cs := #[.bool false, .int .u64 t1134, .int .u64 0]) ?_ 2 _ rfl; (with_reducible repeat (first | refine blk_drewN ?_ _ | refine blk_drew ?_ | refine blk_alloc ?_ _)); refine blk_put (cs := #[.bool false, .int .u64 0, .int .u64 0]) ?_ 1 _ rfl; (with_reducible repeat (first | refine blk_drewN ?_ _ | refine blk_drew ?_ | refine blk_alloc ?_ _)); refine blk_put (cs := #[.bool false, .int .u64 0, .int .u64 0]) ?_ 0 _ rfl; (with_reducible repeat (first | refine blk_drewN ?_ _ | refine blk_drew ?_ | refine blk_alloc ?_ _)); exact BK1136.out) hb); replace HB := Aside0.mk (below_step zaB hb); (try clear hb)) | ((with_reducible refine gtd 6 rfl ?_); refine zbx 6 #[.bool false, .int .u64 0, .int .u64 0] 43 (h := ?_); intro gb1140 hg w72 hbox hb; have GW1140 := zkz HB hg; have NB1130_1140 := zkl BK1130 hg; have NB1140_1130 := zkr BK1130 hg; have NB1131_1140 := zkl BK1131 hg; have NB1140_1131 := zkr BK1131 hg; have NB1132_1140 := zkl BK1132 hg; have NB1140_1132 := zkr BK1132 hg; have NB1136_1140 := zkl BK1136 hg; have NB1140_1136 := zkr BK1136 hg; replace BK1130 := zkb BK1130 hb; replace BK1131 := zkb BK1131 hb; replace BK1132 := zkb BK1132 hb; replace BK1136 := zkb BK1136 hb; replace HB := zkB HB hb; have BK1140 := Aside0.mk (hbox); clear hb hbox hg; obtain ⟨_, _, _, _, _, _, _, _⟩ := zs4 NB1140_1130 NB1140_1131 NB1140_1132 NB1140_1136; obtain ⟨_, _, _, _, _, _⟩ := zq3 BK1140; obtain ⟨_, _, _, _, _, _⟩ := zq3 BK1136) | ((with_reducible refine gtc 116 rfl ?_); refine zgL 21 Try.func116 (flyballref16_le.calls k t1138 t1134 true _ A53.out) (h := ?_); rintro w' ⟨nd, rfl⟩) | ((with_reducible refine gtc 116 rfl ?_); refine zgL 29 Try.func116 (flyballref16_le.calls k t1135 t1139 true _ A55.out) (h := ?_); rintro w' ⟨nd, rfl⟩; obtain ⟨_, _, _, _, _, _⟩ := zq3 BK1132))
   refine bodyPost_ret (results_cell_row rfl _ _ gb1132 43 #[.bool false, .int .u64 t1138, .int .u64 t1139] (0, 0) _ rfl (by (with_reducible repeat (first | refine blk_drewN ?_ _ | refine blk_drew ?_ | refine blk_alloc ?_ _)); refine blk_put (cs := #[.bool false, .int .u64 t1138, .int .u64 0]) ?_ 2 _ rfl; (with_reducible repeat (first | refine blk_drewN ?_ _ | refine blk_drew ?_ | refine blk_alloc ?_ _)); refine blk_put (cs := #[.bool false, .int .u64 0, .int .u64 0]) ?_ 1 _ rfl; (with_reducible repeat (first | refine blk_drewN ?_ _ | refine blk_drew ?_ | refine blk_alloc ?_ _)); refine blk_put (cs := #[.bool false, .int .u64 0, .int .u64 0]) ?_ 0 _ rfl; (with_reducible repeat (first | refine blk_drewN ?_ _ | refine blk_drew ?_ | refine blk_alloc ?_ _)); refine blk_far ?_ NB1132_1136.out _; (with_reducible repeat (first | refine blk_drewN ?_ _ | refine blk_drew ?_ | refine blk_alloc ?_ _)); refine blk_far ?_ NB1132_1136.out _; (with_reducible repeat (first | refine blk_drewN ?_ _ | refine blk_drew ?_ | refine blk_alloc ?_ _)); refine blk_far ?_ NB1132_1140.out _; (with_reducible repeat (first | refine blk_drewN ?_ _ | refine blk_drew ?_ | refine blk_alloc ?_ _)); refine blk_far ?_ NB1132_1140.out _; (with_reducible repeat (first | refine blk_drewN ?_ _ | refine blk_drew ?_ | refine blk_alloc ?_ _)); refine blk_far ?_ NB1132_1140.out _; (with_reducible repeat (first | refine blk_drewN ?_ _ | refine blk_drew ?_ | refine blk_alloc ?_ _)); exact BK1132.out) Try.underlying43 rfl (by kernel_rfl)) rfl ?_
   exact ⟨zaE, zaB⟩
  replace c56 := Bool.eq_false_iff.mpr c56
  subst c56
  replace H := zif H
  simp only [Option.some.injEq, Prod.mk.injEq] at H
  obtain ⟨rfl, rfl, rfl⟩ := H
  go_enter Try.func46, Try.ntmps46
  go_wp2_with (first | ((with_reducible refine gtd 2 rfl ?_); refine zbx 2 #[.bool a0_0, .int .u64 a0_1, .int .u64 a0_2] 43 (h := ?_); intro gb1130 hg w80 hbox hb; have GW1130 := zkZ hg (zaB (p := Below w.heap.size w _)); replace HB := Aside0.mk (below_step zaB hb); have BK1130 := Aside0.mk (hbox); clear hb hbox hg) | ((with_reducible refine gtd 3 rfl ?_); refine zbx 3 #[.bool a1_0, .int .u64 a1_1, .int .u64 a1_2] 43 (h := ?_); intro gb1131 hg w81 hbox hb; have GW1131 := zkz HB hg; have NB1130_1131 := zkl BK1130 hg; have NB1131_1130 := zkr BK1130 hg; replace BK1130 := zkb BK1130 hb; replace HB := zkB HB hb; have BK1131 := Aside0.mk (hbox); clear hb hbox hg) | ((with_reducible refine gtd 4 rfl ?_); refine zbx 4 #[.bool false, .int .u64 0, .int .u64 0] 43 (h := ?_); intro gb1132 hg w82 hbox hb; have GW1132 := zkz HB hg; have NB1130_1132 := zkl BK1130 hg; have NB1132_1130 := zkr BK1130 hg; have NB1131_1132 := zkl BK1131 hg; have NB1132_1131 := zkr BK1131 hg; replace BK1130 := zkb BK1130 hb; replace BK1131 := zkb BK1131 hb; replace HB := zkB HB hb; have BK1132 := Aside0.mk (hbox); clear hb hbox hg; obtain ⟨_, _, _, _⟩ := zs2 NB1130_1131 NB1130_1132; obtain ⟨_, _, _, _, _, _⟩ := zq3 BK1130) | ((with_reducible refine gtc 49 rfl ?_); refine zgL 8 Try.func49 (flyballref16_Norm.calls k a0_0 a0_1 a0_2 false t1134 t1135 _ A3.out) (h := ?_); rintro w86 hb; replace BK1130 := zkb BK1130 hb; replace BK1131 := zkb BK1131 hb; replace BK1132 := zkb BK1132 hb; replace HB := zkB HB hb; (try clear hb)) | ((with_reducible refine gtd 5 rfl ?_); refine zbx 5 #[.bool false, .int .u64 0, .int .u64 0] 43 (h := ?_); intro gb1136 hg w87 hbox hb; have GW1136 := zkz HB hg; have NB1130_1136 := zkl BK1130 hg; have NB1136_1130 := zkr BK1130 hg; have NB1131_1136 := zkl BK1131 hg; have NB1136_1131 := zkr BK1131 hg; have NB1132_1136 := zkl BK1132 hg; have NB1136_1132 := zkr BK1132 hg; replace BK1130 := zkb BK1130 hb; replace BK1131 := zkb BK1131 hb; replace BK1132 := zkb BK1132 hb; replace HB := zkB HB hb; have BK1136 := Aside0.mk (hbox); clear hb hbox hg; obtain ⟨_, _, _, _, _, _⟩ := zs3 NB1136_1130 NB1136_1131 NB1136_1132; obtain ⟨_, _, _, _, _, _⟩ := zq3 BK1136; obtain ⟨_, _⟩ := zsy NB1131_1132; obtain ⟨_, _, _, _, _, _⟩ := zq3 BK1131) | ((with_reducible refine gtc 49 rfl ?_); refine zgL 10 Try.func49 (flyballref16_Norm.calls k a1_0 a1_1 a1_2 false t1138 t1139 _ A4.out) (h := ?_); rintro w94 hb; replace BK1130 := Aside0.mk (blk_below (g := gb1130) (o := .cells #[.bool a0_0, .int .u64 a0_1, .int .u64 a0_2] 43 (0, 0)) (by (with_reducible repeat (first | refine blk_drewN ?_ _ | refine blk_drew ?_ | refine blk_alloc ?_ _)); refine blk_far ?_ NB1130_1136.out _; (with_reducible repeat (first | refine blk_drewN ?_ _ | refine blk_drew ?_ | refine blk_alloc ?_ _)); refine blk_far ?_ NB1130_1136.out _; (with_reducible repeat (first | refine blk_drewN ?_ _ | refine blk_drew ?_ | refine blk_alloc ?_ _)); refine blk_far ?_ NB1130_1136.out _; (with_reducible repeat (first | refine blk_drewN ?_ _ | refine blk_drew ?_ | refine blk_alloc ?_ _)); exact BK1130.out) hb); replace BK1131 := Aside0.mk (blk_below (g := gb1131) (o := .cells #[.bool a1_0, .int .u64 a1_1, .int .u64 a1_2] 43 (0, 0)) (by (with_reducible repeat (first | refine blk_drewN ?_ _ | refine blk_drew ?_ | refine blk_alloc ?_ _)); refine blk_far ?_ NB1131_1136.out _; (with_reducible repeat (first | refine blk_drewN ?_ _ | refine blk_drew ?_ | refine blk_alloc ?_ _)); refine blk_far ?_ NB1131_1136.out _; (with_reducible repeat (first | refine blk_drewN ?_ _ | refine blk_drew ?_ | refine blk_alloc ?_ _)); refine blk_far ?_ NB1131_1136.out _; (with_reducible repeat (first | refine blk_drewN ?_ _ | refine blk_drew ?_ | refine blk_alloc ?_ _)); exact BK1131.out) hb); replace BK1132 := Aside0.mk (blk_below (g := gb1132) (o := .cells #[.bool false, .int .u64 0, .int .u64 0] 43 (0, 0)) (by (with_reducible repeat (first | refine blk_drewN ?_ _ | refine blk_drew ?_ | refine blk_alloc ?_ _)); refine blk_far ?_ NB1132_1136.out _; (with_reducible repeat (first | refine blk_drewN ?_ _ | refine blk_drew ?_ | refine blk_alloc ?_ _)); refine blk_far ?_ NB1132_1136.out _; (with_reducible repeat (first | refine blk_drewN ?_ _ | refine blk_drew ?_ | refine blk_alloc ?_ _)); refine blk_far ?_ NB1132_1136.out _; (with_reducible repeat (first | refine blk_drewN ?_ _ | refine blk_drew ?_ | refine blk_alloc ?_ _)); exact BK1132.out) hb); replace BK1136 := Aside0.mk (blk_below (g := gb1136) (o := .cells #[.bool false, .int .u64 t1134, .int .u64 t1135] 43 (0, 0)) (by (with_reducible repeat (first | refine blk_drewN ?_ _ | refine blk_drew ?_ | refine blk_alloc ?_ _)); refine blk_put (cs := #[.bool false, .int .u64 t1134, .int .u64 0]) ?_ 2 _ rfl; (with_reducible repeat (first | refine blk_drewN ?_ _ | refine blk_drew ?_ | refine blk_alloc ?_ _)); refine blk_put (cs := #[.bool false, .int .u64 0, .int .u64 0]) ?_ 1 _ rfl; (with_reducible repeat (first | refine blk_drewN ?_ _ | refine blk_drew ?_ | refine blk_alloc ?_ _)); refine blk_put (cs := #[.bool false, .int .u64 0, .int .u64 0]) ?_ 0 _ rfl; (with_reducible repeat (first | refine blk_drewN ?_ _ | refine blk_drew ?_ | refine blk_alloc ?_ _)); exact BK1136.out) hb); replace HB := Aside0.mk (below_step zaB hb); (try clear hb)) | ((with_reducible refine gtd 6 rfl ?_); refine zbx 6 #[.bool false, .int .u64 0, .int .u64 0] 43 (h := ?_); intro gb1140 hg w95 hbox hb; have GW1140 := zkz HB hg; have NB1130_1140 := zkl BK1130 hg; have NB1140_1130 := zkr BK1130 hg; have NB1131_1140 := zkl BK1131 hg; have NB1140_1131 := zkr BK1131 hg; have NB1132_1140 := zkl BK1132 hg; have NB1140_1132 := zkr BK1132 hg; have NB1136_1140 := zkl BK1136 hg; have NB1140_1136 := zkr BK1136 hg; replace BK1130 := zkb BK1130 hb; replace BK1131 := zkb BK1131 hb; replace BK1132 := zkb BK1132 hb; replace BK1136 := zkb BK1136 hb; replace HB := zkB HB hb; have BK1140 := Aside0.mk (hbox); clear hb hbox hg; obtain ⟨_, _, _, _, _, _, _, _⟩ := zs4 NB1140_1130 NB1140_1131 NB1140_1132 NB1140_1136; obtain ⟨_, _, _, _, _, _⟩ := zq3 BK1140; obtain ⟨_, _, _, _, _, _⟩ := zq3 BK1136) | ((with_reducible refine gtc 116 rfl ?_); refine zgL 21 Try.func116 (flyballref16_le.calls k t1138 t1134 true _ A53.out) (h := ?_); rintro w' ⟨nd, rfl⟩) | ((with_reducible refine gtc 116 rfl ?_); refine zgL 29 Try.func116 (flyballref16_le.calls k t1135 t1139 false _ A55.out) (h := ?_); rintro w' ⟨nd, rfl⟩; obtain ⟨_, _, _, _, _, _⟩ := zq3 BK1132))
  refine bodyPost_ret (results_cell_row rfl _ _ gb1132 43 #[.bool false, .int .u64 t1138, .int .u64 t1135] (0, 0) _ rfl (by (with_reducible repeat (first | refine blk_drewN ?_ _ | refine blk_drew ?_ | refine blk_alloc ?_ _)); refine blk_put (cs := #[.bool false, .int .u64 t1138, .int .u64 0]) ?_ 2 _ rfl; (with_reducible repeat (first | refine blk_drewN ?_ _ | refine blk_drew ?_ | refine blk_alloc ?_ _)); refine blk_put (cs := #[.bool false, .int .u64 0, .int .u64 0]) ?_ 1 _ rfl; (with_reducible repeat (first | refine blk_drewN ?_ _ | refine blk_drew ?_ | refine blk_alloc ?_ _)); refine blk_put (cs := #[.bool false, .int .u64 0, .int .u64 0]) ?_ 0 _ rfl; (with_reducible repeat (first | refine blk_drewN ?_ _ | refine blk_drew ?_ | refine blk_alloc ?_ _)); refine blk_far ?_ NB1132_1136.out _; (with_reducible repeat (first | refine blk_drewN ?_ _ | refine blk_drew ?_ | refine blk_alloc ?_ _)); refine blk_far ?_ NB1132_1140.out _; (with_reducible repeat (first | refine blk_drewN ?_ _ | refine blk_drew ?_ | refine blk_alloc ?_ _)); refine blk_far ?_ NB1132_1140.out _; (with_reducible repeat (first | refine blk_drewN ?_ _ | refine blk_drew ?_ | refine blk_alloc ?_ _)); refine blk_far ?_ NB1132_1140.out _; (with_reducible repeat (first | refine blk_drewN ?_ _ | refine blk_drew ?_ | refine blk_alloc ?_ _)); exact BK1132.out) Try.underlying43 rfl (by kernel_rfl)) rfl ?_
  exact ⟨zaE, zaB⟩
 replace c54 := Bool.eq_false_iff.mpr c54
 subst c54
 replace H := zif H
 obtain ⟨t1143, A103, H⟩ := zbs H
 try dsimp only at H
 by_cases c104 : t1143 = true
 ·subst c104
  replace H := zit H
  simp only [Option.some.injEq, Prod.mk.injEq] at H
  obtain ⟨rfl, rfl, rfl⟩ := H
  go_enter Try.func46, Try.ntmps46
  go_wp2_with (first | ((with_reducible refine gtd 2 rfl ?_); refine zbx 2 #[.bool a0_0, .int .u64 a0_1, .int .u64 a0_2] 43 (h := ?_); intro gb1130 hg w105 hbox hb; have GW1130 := zkZ hg (zaB (p := Below w.heap.size w _)); replace HB := Aside0.mk (below_step zaB hb); have BK1130 := Aside0.mk (hbox); clear hb hbox hg) | ((with_reducible refine gtd 3 rfl ?_); refine zbx 3 #[.bool a1_0, .int .u64 a1_1, .int .u64 a1_2] 43 (h := ?_); intro gb1131 hg w106 hbox hb; have GW1131 := zkz HB hg; have NB1130_1131 := zkl BK1130 hg; have NB1131_1130 := zkr BK1130 hg; replace BK1130 := zkb BK1130 hb; replace HB := zkB HB hb; have BK1131 := Aside0.mk (hbox); clear hb hbox hg) | ((with_reducible refine gtd 4 rfl ?_); refine zbx 4 #[.bool false, .int .u64 0, .int .u64 0] 43 (h := ?_); intro gb1132 hg w107 hbox hb; have GW1132 := zkz HB hg; have NB1130_1132 := zkl BK1130 hg; have NB1132_1130 := zkr BK1130 hg; have NB1131_1132 := zkl BK1131 hg; have NB1132_1131 := zkr BK1131 hg; replace BK1130 := zkb BK1130 hb; replace BK1131 := zkb BK1131 hb; replace HB := zkB HB hb; have BK1132 := Aside0.mk (hbox); clear hb hbox hg; obtain ⟨_, _, _, _⟩ := zs2 NB1130_1131 NB1130_1132; obtain ⟨_, _, _, _, _, _⟩ := zq3 BK1130) | ((with_reducible refine gtc 49 rfl ?_); refine zgL 8 Try.func49 (flyballref16_Norm.calls k a0_0 a0_1 a0_2 false t1134 t1135 _ A3.out) (h := ?_); rintro w111 hb; replace BK1130 := zkb BK1130 hb; replace BK1131 := zkb BK1131 hb; replace BK1132 := zkb BK1132 hb; replace HB := zkB HB hb; (try clear hb)) | ((with_reducible refine gtd 5 rfl ?_); refine zbx 5 #[.bool false, .int .u64 0, .int .u64 0] 43 (h := ?_); intro gb1136 hg w112 hbox hb; have GW1136 := zkz HB hg; have NB1130_1136 := zkl BK1130 hg; have NB1136_1130 := zkr BK1130 hg; have NB1131_1136 := zkl BK1131 hg; have NB1136_1131 := zkr BK1131 hg; have NB1132_1136 := zkl BK1132 hg; have NB1136_1132 := zkr BK1132 hg; replace BK1130 := zkb BK1130 hb; replace BK1131 := zkb BK1131 hb; replace BK1132 := zkb BK1132 hb; replace HB := zkB HB hb; have BK1136 := Aside0.mk (hbox); clear hb hbox hg; obtain ⟨_, _, _, _, _, _⟩ := zs3 NB1136_1130 NB1136_1131 NB1136_1132; obtain ⟨_, _, _, _, _, _⟩ := zq3 BK1136; obtain ⟨_, _⟩ := zsy NB1131_1132; obtain ⟨_, _, _, _, _, _⟩ := zq3 BK1131) | ((with_reducible refine gtc 49 rfl ?_); refine zgL 10 Try.func49 (flyballref16_Norm.calls k a1_0 a1_1 a1_2 false t1138 t1139 _ A4.out) (h := ?_); rintro w119 hb; replace BK1130 := Aside0.mk (blk_below (g := gb1130) (o := .cells #[.bool a0_0, .int .u64 a0_1, .int .u64 a0_2] 43 (0, 0)) (by (with_reducible repeat (first | refine blk_drewN ?_ _ | refine blk_drew ?_ | refine blk_alloc ?_ _)); refine blk_far ?_ NB1130_1136.out _; (with_reducible repeat (first | refine blk_drewN ?_ _ | refine blk_drew ?_ | refine blk_alloc ?_ _)); refine blk_far ?_ NB1130_1136.out _; (with_reducible repeat (first | refine blk_drewN ?_ _ | refine blk_drew ?_ | refine blk_alloc ?_ _)); refine blk_far ?_ NB1130_1136.out _; (with_reducible repeat (first | refine blk_drewN ?_ _ | refine blk_drew ?_ | refine blk_alloc ?_ _)); exact BK1130.out) hb); replace BK1131 := Aside0.mk (blk_below (g := gb1131) (o := .cells #[.bool a1_0, .int .u64 a1_1, .int .u64 a1_2] 43 (0, 0)) (by (with_reducible repeat (first | refine blk_drewN ?_ _ | refine blk_drew ?_ | refine blk_alloc ?_ _)); refine blk_far ?_ NB1131_1136.out _; (with_reducible repeat (first | refine blk_drewN ?_ _ | refine blk_drew ?_ | refine blk_alloc ?_ _)); refine blk_far ?_ NB1131_1136.out _; (with_reducible repeat (first | refine blk_drewN ?_ _ | refine blk_drew ?_ | refine blk_alloc ?_ _)); refine blk_far ?_ NB1131_1136.out _; (with_reducible repeat (first | refine blk_drewN ?_ _ | refine blk_drew ?_ | refine blk_alloc ?_ _)); exact BK1131.out) hb); replace BK1132 := Aside0.mk (blk_below (g := gb1132) (o := .cells #[.bool false, .int .u64 0, .int .u64 0] 43 (0, 0)) (by (with_reducible repeat (first | refine blk_drewN ?_ _ | refine blk_drew ?_ | refine blk_alloc ?_ _)); refine blk_far ?_ NB1132_1136.out _; (with_reducible repeat (first | refine blk_drewN ?_ _ | refine blk_drew ?_ | refine blk_alloc ?_ _)); refine blk_far ?_ NB1132_1136.out _; (with_reducible repeat (first | refine blk_drewN ?_ _ | refine blk_drew ?_ | refine blk_alloc ?_ _)); refine blk_far ?_ NB1132_1136.out _; (with_reducible repeat (first | refine blk_drewN ?_ _ | refine blk_drew ?_ | refine blk_alloc ?_ _)); exact BK1132.out) hb); replace BK1136 := Aside0.mk (blk_below (g := gb1136) (o := .cells #[.bool false, .int .u64 t1134, .int .u64 t1135] 43 (0, 0)) (by (with_reducible repeat (first | refine blk_drewN ?_ _ | refine blk_drew ?_ | refine blk_alloc ?_ _)); refine blk_put (cs := #[.bool false, .int .u64 t1134, .int .u64 0]) ?_ 2 _ rfl; (with_reducible repeat (first | refine blk_drewN ?_ _ | refine blk_drew ?_ | refine blk_alloc ?_ _)); refine blk_put (cs := #[.bool false, .int .u64 0, .int .u64 0]) ?_ 1 _ rfl; (with_reducible repeat (first | refine blk_drewN ?_ _ | refine blk_drew ?_ | refine blk_alloc ?_ _)); refine blk_put (cs := #[.bool false, .int .u64 0, .int .u64 0]) ?_ 0 _ rfl; (with_reducible repeat (first | refine blk_drewN ?_ _ | refine blk_drew ?_ | refine blk_alloc ?_ _)); exact BK1136.out) hb); replace HB := Aside0.mk (below_step zaB hb); (try clear hb)) | ((with_reducible refine gtd 6 rfl ?_); refine zbx 6 #[.bool false, .int .u64 0, .int .u64 0] 43 (h := ?_); intro gb1140 hg w120 hbox hb; have GW1140 := zkz HB hg; have NB1130_1140 := zkl BK1130 hg; have NB1140_1130 := zkr BK1130 hg; have NB1131_1140 := zkl BK1131 hg; have NB1140_1131 := zkr BK1131 hg; have NB1132_1140 := zkl BK1132 hg; have NB1140_1132 := zkr BK1132 hg; have NB1136_1140 := zkl BK1136 hg; have NB1140_1136 := zkr BK1136 hg; replace BK1130 := zkb BK1130 hb; replace BK1131 := zkb BK1131 hb; replace BK1132 := zkb BK1132 hb; replace BK1136 := zkb BK1136 hb; replace HB := zkB HB hb; have BK1140 := Aside0.mk (hbox); clear hb hbox hg; obtain ⟨_, _, _, _, _, _, _, _⟩ := zs4 NB1140_1130 NB1140_1131 NB1140_1132 NB1140_1136; obtain ⟨_, _, _, _, _, _⟩ := zq3 BK1140; obtain ⟨_, _, _, _, _, _⟩ := zq3 BK1136) | ((with_reducible refine gtc 116 rfl ?_); refine zgL 21 Try.func116 (flyballref16_le.calls k t1138 t1134 false _ A53.out) (h := ?_); rintro w' ⟨nd, rfl⟩) | ((with_reducible refine gtc 116 rfl ?_); refine zgL 29 Try.func116 (flyballref16_le.calls k t1135 t1139 true _ A103.out) (h := ?_); rintro w' ⟨nd, rfl⟩; obtain ⟨_, _, _, _, _, _⟩ := zq3 BK1132))
  refine bodyPost_ret (results_cell_row rfl _ _ gb1132 43 #[.bool false, .int .u64 t1134, .int .u64 t1139] (0, 0) _ rfl (by (with_reducible repeat (first | refine blk_drewN ?_ _ | refine blk_drew ?_ | refine blk_alloc ?_ _)); refine blk_put (cs := #[.bool false, .int .u64 t1134, .int .u64 0]) ?_ 2 _ rfl; (with_reducible repeat (first | refine blk_drewN ?_ _ | refine blk_drew ?_ | refine blk_alloc ?_ _)); refine blk_put (cs := #[.bool false, .int .u64 0, .int .u64 0]) ?_ 1 _ rfl; (with_reducible repeat (first | refine blk_drewN ?_ _ | refine blk_drew ?_ | refine blk_alloc ?_ _)); refine blk_put (cs := #[.bool false, .int .u64 0, .int .u64 0]) ?_ 0 _ rfl; (with_reducible repeat (first | refine blk_drewN ?_ _ | refine blk_drew ?_ | refine blk_alloc ?_ _)); refine blk_far ?_ NB1132_1136.out _; (with_reducible repeat (first | refine blk_drewN ?_ _ | refine blk_drew ?_ | refine blk_alloc ?_ _)); refine blk_far ?_ NB1132_1140.out _; (with_reducible repeat (first | refine blk_drewN ?_ _ | refine blk_drew ?_ | refine blk_alloc ?_ _)); refine blk_far ?_ NB1132_1140.out _; (with_reducible repeat (first | refine blk_drewN ?_ _ | refine blk_drew ?_ | refine blk_alloc ?_ _)); refine blk_far ?_ NB1132_1140.out _; (with_reducible repeat (first | refine blk_drewN ?_ _ | refine blk_drew ?_ | refine blk_alloc ?_ _)); exact BK1132.out) Try.underlying43 rfl (by kernel_rfl)) rfl ?_
  exact ⟨zaE, zaB⟩
 replace c104 := Bool.eq_false_iff.mpr c104
 subst c104
 replace H := zif H
 simp only [Option.some.injEq, Prod.mk.injEq] at H
 obtain ⟨rfl, rfl, rfl⟩ := H
 go_enter Try.func46, Try.ntmps46
 go_wp2_with (first | ((with_reducible refine gtd 2 rfl ?_); refine zbx 2 #[.bool a0_0, .int .u64 a0_1, .int .u64 a0_2] 43 (h := ?_); intro gb1130 hg w128 hbox hb; have GW1130 := zkZ hg (zaB (p := Below w.heap.size w _)); replace HB := Aside0.mk (below_step zaB hb); have BK1130 := Aside0.mk (hbox); clear hb hbox hg) | ((with_reducible refine gtd 3 rfl ?_); refine zbx 3 #[.bool a1_0, .int .u64 a1_1, .int .u64 a1_2] 43 (h := ?_); intro gb1131 hg w129 hbox hb; have GW1131 := zkz HB hg; have NB1130_1131 := zkl BK1130 hg; have NB1131_1130 := zkr BK1130 hg; replace BK1130 := zkb BK1130 hb; replace HB := zkB HB hb; have BK1131 := Aside0.mk (hbox); clear hb hbox hg) | ((with_reducible refine gtd 4 rfl ?_); refine zbx 4 #[.bool false, .int .u64 0, .int .u64 0] 43 (h := ?_); intro gb1132 hg w130 hbox hb; have GW1132 := zkz HB hg; have NB1130_1132 := zkl BK1130 hg; have NB1132_1130 := zkr BK1130 hg; have NB1131_1132 := zkl BK1131 hg; have NB1132_1131 := zkr BK1131 hg; replace BK1130 := zkb BK1130 hb; replace BK1131 := zkb BK1131 hb; replace HB := zkB HB hb; have BK1132 := Aside0.mk (hbox); clear hb hbox hg; obtain ⟨_, _, _, _⟩ := zs2 NB1130_1131 NB1130_1132; obtain ⟨_, _, _, _, _, _⟩ := zq3 BK1130) | ((with_reducible refine gtc 49 rfl ?_); refine zgL 8 Try.func49 (flyballref16_Norm.calls k a0_0 a0_1 a0_2 false t1134 t1135 _ A3.out) (h := ?_); rintro w134 hb; replace BK1130 := zkb BK1130 hb; replace BK1131 := zkb BK1131 hb; replace BK1132 := zkb BK1132 hb; replace HB := zkB HB hb; (try clear hb)) | ((with_reducible refine gtd 5 rfl ?_); refine zbx 5 #[.bool false, .int .u64 0, .int .u64 0] 43 (h := ?_); intro gb1136 hg w135 hbox hb; have GW1136 := zkz HB hg; have NB1130_1136 := zkl BK1130 hg; have NB1136_1130 := zkr BK1130 hg; have NB1131_1136 := zkl BK1131 hg; have NB1136_1131 := zkr BK1131 hg; have NB1132_1136 := zkl BK1132 hg; have NB1136_1132 := zkr BK1132 hg; replace BK1130 := zkb BK1130 hb; replace BK1131 := zkb BK1131 hb; replace BK1132 := zkb BK1132 hb; replace HB := zkB HB hb; have BK1136 := Aside0.mk (hbox); clear hb hbox hg; obtain ⟨_, _, _, _, _, _⟩ := zs3 NB1136_1130 NB1136_1131 NB1136_1132; obtain ⟨_, _, _, _, _, _⟩ := zq3 BK1136; obtain ⟨_, _⟩ := zsy NB1131_1132; obtain ⟨_, _, _, _, _, _⟩ := zq3 BK1131) | ((with_reducible refine gtc 49 rfl ?_); refine zgL 10 Try.func49 (flyballref16_Norm.calls k a1_0 a1_1 a1_2 false t1138 t1139 _ A4.out) (h := ?_); rintro w142 hb; replace BK1130 := Aside0.mk (blk_below (g := gb1130) (o := .cells #[.bool a0_0, .int .u64 a0_1, .int .u64 a0_2] 43 (0, 0)) (by (with_reducible repeat (first | refine blk_drewN ?_ _ | refine blk_drew ?_ | refine blk_alloc ?_ _)); refine blk_far ?_ NB1130_1136.out _; (with_reducible repeat (first | refine blk_drewN ?_ _ | refine blk_drew ?_ | refine blk_alloc ?_ _)); refine blk_far ?_ NB1130_1136.out _; (with_reducible repeat (first | refine blk_drewN ?_ _ | refine blk_drew ?_ | refine blk_alloc ?_ _)); refine blk_far ?_ NB1130_1136.out _; (with_reducible repeat (first | refine blk_drewN ?_ _ | refine blk_drew ?_ | refine blk_alloc ?_ _)); exact BK1130.out) hb); replace BK1131 := Aside0.mk (blk_below (g := gb1131) (o := .cells #[.bool a1_0, .int .u64 a1_1, .int .u64 a1_2] 43 (0, 0)) (by (with_reducible repeat (first | refine blk_drewN ?_ _ | refine blk_drew ?_ | refine blk_alloc ?_ _)); refine blk_far ?_ NB1131_1136.out _; (with_reducible repeat (first | refine blk_drewN ?_ _ | refine blk_drew ?_ | refine blk_alloc ?_ _)); refine blk_far ?_ NB1131_1136.out _; (with_reducible repeat (first | refine blk_drewN ?_ _ | refine blk_drew ?_ | refine blk_alloc ?_ _)); refine blk_far ?_ NB1131_1136.out _; (with_reducible repeat (first | refine blk_drewN ?_ _ | refine blk_drew ?_ | refine blk_alloc ?_ _)); exact BK1131.out) hb); replace BK1132 := Aside0.mk (blk_below (g := gb1132) (o := .cells #[.bool false, .int .u64 0, .int .u64 0] 43 (0, 0)) (by (with_reducible repeat (first | refine blk_drewN ?_ _ | refine blk_drew ?_ | refine blk_alloc ?_ _)); refine blk_far ?_ NB1132_1136.out _; (with_reducible repeat (first | refine blk_drewN ?_ _ | refine blk_drew ?_ | refine blk_alloc ?_ _)); refine blk_far ?_ NB1132_1136.out _; (with_reducible repeat (first | refine blk_drewN ?_ _ | refine blk_drew ?_ | refine blk_alloc ?_ _)); refine blk_far ?_ NB1132_1136.out _; (with_reducible repeat (first | refine blk_drewN ?_ _ | refine blk_drew ?_ | refine blk_alloc ?_ _)); exact BK1132.out) hb); replace BK1136 := Aside0.mk (blk_below (g := gb1136) (o := .cells #[.bool false, .int .u64 t1134, .int .u64 t1135] 43 (0, 0)) (by (with_reducible repeat (first | refine blk_drewN ?_ _ | refine blk_drew ?_ | refine blk_alloc ?_ _)); refine blk_put (cs := #[.bool false, .int .u64 t1134, .int .u64 0]) ?_ 2 _ rfl; (with_reducible repeat (first | refine blk_drewN ?_ _ | refine blk_drew ?_ | refine blk_alloc ?_ _)); refine blk_put (cs := #[.bool false, .int .u64 0, .int .u64 0]) ?_ 1 _ rfl; (with_reducible repeat (first | refine blk_drewN ?_ _ | refine blk_drew ?_ | refine blk_alloc ?_ _)); refine blk_put (cs := #[.bool false, .int .u64 0, .int .u64 0]) ?_ 0 _ rfl; (with_reducible repeat (first | refine blk_drewN ?_ _ | refine blk_drew ?_ | refine blk_alloc ?_ _)); exact BK1136.out) hb); replace HB := Aside0.mk (below_step zaB hb); (try clear hb)) | ((with_reducible refine gtd 6 rfl ?_); refine zbx 6 #[.bool false, .int .u64 0, .int .u64 0] 43 (h := ?_); intro gb1140 hg w143 hbox hb; have GW1140 := zkz HB hg; have NB1130_1140 := zkl BK1130 hg; have NB1140_1130 := zkr BK1130 hg; have NB1131_1140 := zkl BK1131 hg; have NB1140_1131 := zkr BK1131 hg; have NB1132_1140 := zkl BK1132 hg; have NB1140_1132 := zkr BK1132 hg; have NB1136_1140 := zkl BK1136 hg; have NB1140_1136 := zkr BK1136 hg; replace BK1130 := zkb BK1130 hb; replace BK1131 := zkb BK1131 hb; replace BK1132 := zkb BK1132 hb; replace BK1136 := zkb BK1136 hb; replace HB := zkB HB hb; have BK1140 := Aside0.mk (hbox); clear hb hbox hg; obtain ⟨_, _, _, _, _, _, _, _⟩ := zs4 NB1140_1130 NB1140_1131 NB1140_1132 NB1140_1136; obtain ⟨_, _, _, _, _, _⟩ := zq3 BK1140; obtain ⟨_, _, _, _, _, _⟩ := zq3 BK1136) | ((with_reducible refine gtc 116 rfl ?_); refine zgL 21 Try.func116 (flyballref16_le.calls k t1138 t1134 false _ A53.out) (h := ?_); rintro w' ⟨nd, rfl⟩) | ((with_reducible refine gtc 116 rfl ?_); refine zgL 29 Try.func116 (flyballref16_le.calls k t1135 t1139 false _ A103.out) (h := ?_); rintro w' ⟨nd, rfl⟩; obtain ⟨_, _, _, _, _, _⟩ := zq3 BK1132))
 refine bodyPost_ret (results_cell_row rfl _ _ gb1132 43 #[.bool false, .int .u64 t1134, .int .u64 t1135] (0, 0) _ rfl (by (with_reducible repeat (first | refine blk_drewN ?_ _ | refine blk_drew ?_ | refine blk_alloc ?_ _)); refine blk_put (cs := #[.bool false, .int .u64 t1134, .int .u64 0]) ?_ 2 _ rfl; (with_reducible repeat (first | refine blk_drewN ?_ _ | refine blk_drew ?_ | refine blk_alloc ?_ _)); refine blk_put (cs := #[.bool false, .int .u64 0, .int .u64 0]) ?_ 1 _ rfl; (with_reducible repeat (first | refine blk_drewN ?_ _ | refine blk_drew ?_ | refine blk_alloc ?_ _)); refine blk_put (cs := #[.bool false, .int .u64 0, .int .u64 0]) ?_ 0 _ rfl; (with_reducible repeat (first | refine blk_drewN ?_ _ | refine blk_drew ?_ | refine blk_alloc ?_ _)); refine blk_far ?_ NB1132_1140.out _; (with_reducible repeat (first | refine blk_drewN ?_ _ | refine blk_drew ?_ | refine blk_alloc ?_ _)); refine blk_far ?_ NB1132_1140.out _; (with_reducible repeat (first | refine blk_drewN ?_ _ | refine blk_drew ?_ | refine blk_alloc ?_ _)); refine blk_far ?_ NB1132_1140.out _; (with_reducible repeat (first | refine blk_drewN ?_ _ | refine blk_drew ?_ | refine blk_alloc ?_ _)); exact BK1132.out) Try.underlying43 rfl (by kernel_rfl)) rfl ?_
 exact ⟨zaE, zaB⟩
theorem flyballref16_Widen.calls (k : Nat) (a0_0 : Bool) (a0_1 : Int) (a0_2 : Int) (a1_0 : Bool) (a1_1 : Int) (a1_2 : Int) (P2_ : Nat → Prop) (A2 : Option Addr) (c2 : Nat) (l2 : List Int) (r1 : Bool) (r2 : Int) (r3 : Int) (w : World) (hs2 : Kd.V (Kd.int .u64) 23 w w.heap.size (fun k_ => P2_ k_) (.slice A2 l2.length c2) l2) (h : flyballref16_Widen.f k a0_0 a0_1 a0_2 a1_0 a1_1 a1_2 l2 = some (r1, r2, r3)) :
  Calls Try.prog 56 #[.agg #[.bool a0_0, .int .u64 a0_1, .int .u64 a0_2], .agg #[.bool a1_0, .int .u64 a1_1, .int .u64 a1_2], .slice A2 l2.length c2] w fun e w' => e = .returned (.agg #[.bool r1, .int .u64 r2, .int .u64 r3]) ∧ Below w.heap.size w w' := by
 have hu43 := Try.underlying43
 have HO2 := Aside0.mk (show Kd.V (Kd.int .u64) 23 w w.heap.size (fun k_ => (P2_ k_ ∨ w.heap.size ≤ k_)) (.slice A2 l2.length c2) l2 from Kd.V_mono hs2 (fun k_ hk => .inl hk))
 have HB := Aside0.mk (Below.refl w.heap.size w)
 have H : ((flyballref16_Norm.f k a0_0 a0_1 a0_2).bind fun bt1417 => ((flyballref16_Norm.f k a1_0 a1_1 a1_2).bind fun bt1421 => (if bt1417.1 = true then (some (bt1421.1, bt1421.2.1, bt1421.2.2)) else ((flyballref16_Join.f k bt1417.1 bt1417.2.1 bt1417.2.2 bt1421.1 bt1421.2.1 bt1421.2.2).bind fun bt1425 => ((flyballref16_le.f k bt1417.2.1 bt1425.2.1).bind fun t1429 => (if t1429 = true then (flyballref16_Widen.j1 k l2 bt1417.1 bt1417.2.1 bt1417.2.2 bt1425.1 bt1425.2.1 bt1425.2.2) else (flyballref16_Widen.l0 k l2 18442240474082181120 0 bt1417.1 bt1417.2.1 bt1417.2.2 bt1425.1 bt1425.2.1 bt1425.2.2))))))) = some (r1, r2, r3) := h
 clear h
 obtain ⟨⟨t1417, t1418, t1419⟩, A4, H⟩ := zbs H
 try dsimp only at H
 obtain ⟨⟨t1421, t1422, t1423⟩, A5, H⟩ := zbs H
 try dsimp only at H
 by_cases c6 : t1417 = true
 ·subst c6
  replace H := zit H
  simp only [Option.some.injEq, Prod.mk.injEq] at H
  obtain ⟨rfl, rfl, rfl⟩ := H
  go_enter Try.func56, Try.ntmps56
  go_wp2_with (first | ((with_reducible refine gtd 3 rfl ?_); refine zbx 3 #[.bool a0_0, .int .u64 a0_1, .int .u64 a0_2] 43 (h := ?_); intro gb1414 hg w7 hbox hb; have GW1414 := zkZ hg (zaB (p := Below w.heap.size w _)); replace HO2 := Aside0.mk (Kd.V_below (Kd.V_elderB (by (with_reducible repeat (first | apply Kd.V_alloc | apply Kd.V_drewN | apply Kd.V_drew)); exact HO2.out) gb1414 (Nat.le_of_eq hg.symm)) hb); replace HB := Aside0.mk (below_step zaB hb); have BK1414 := Aside0.mk (hbox); clear hb hbox hg) | ((with_reducible refine gtd 4 rfl ?_); refine zbx 4 #[.bool a1_0, .int .u64 a1_1, .int .u64 a1_2] 43 (h := ?_); intro gb1415 hg w8 hbox hb; have GW1415 := zkz HB hg; have NB1414_1415 := zkl BK1414 hg; have NB1415_1414 := zkr BK1414 hg; replace HO2 := Aside0.mk (Kd.V_below (Kd.V_elderB (by (with_reducible repeat (first | apply Kd.V_alloc | apply Kd.V_drewN | apply Kd.V_drew)); exact HO2.out) gb1415 (Nat.le_of_eq hg.symm)) hb); replace BK1414 := zkb BK1414 hb; replace HB := zkB HB hb; have BK1415 := Aside0.mk (hbox); clear hb hbox hg) | ((with_reducible refine gtd 6 rfl ?_); refine zbx 6 #[.bool false, .int .u64 0, .int .u64 0] 43 (h := ?_); intro gb1416 hg w9 hbox hb; have GW1416 := zkz HB hg; have NB1414_1416 := zkl BK1414 hg; have NB1416_1414 := zkr BK1414 hg; have NB1415_1416 := zkl BK1415 hg; have NB1416_1415 := zkr BK1415 hg; replace HO2 := Aside0.mk (Kd.V_below (Kd.V_elderB (by (with_reducible repeat (first | apply Kd.V_alloc | apply Kd.V_drewN | apply Kd.V_drew)); exact HO2.out) gb1416 (Nat.le_of_eq hg.symm)) hb); replace BK1414 := zkb BK1414 hb; replace BK1415 := zkb BK1415 hb; replace HB := zkB HB hb; have BK1416 := Aside0.mk (hbox); clear hb hbox hg; obtain ⟨_, _, _, _⟩ := zs2 NB1414_1415 NB1414_1416; obtain ⟨z12_0, z12_1, z12_2, f12_0, f12_1, f12_2⟩ := zq3 BK1414) | (go_at_call 49; (with_reducible refine (flyballref16_Norm.calls k a0_0 a0_1 a0_2 true t1418 t1419 _ A4.out).mono ?_); rintro e w13 ⟨rfl, hb⟩; replace HO2 := Aside0.mk (Kd.V_below (by (with_reducible repeat (first | apply Kd.V_alloc | apply Kd.V_drewN | apply Kd.V_drew)); exact HO2.out) hb); replace BK1414 := zkb BK1414 hb; replace BK1415 := zkb BK1415 hb; replace BK1416 := zkb BK1416 hb; replace HB := zkB HB hb; (try clear hb); (try clear hk)) | ((with_reducible refine gtd 7 rfl ?_); refine zbx 7 #[.bool false, .int .u64 0, .int .u64 0] 43 (h := ?_); intro gb1420 hg w14 hbox hb; have GW1420 := zkz HB hg; have NB1414_1420 := zkl BK1414 hg; have NB1420_1414 := zkr BK1414 hg; have NB1415_1420 := zkl BK1415 hg; have NB1420_1415 := zkr BK1415 hg; have NB1416_1420 := zkl BK1416 hg; have NB1420_1416 := zkr BK1416 hg; replace HO2 := Aside0.mk (Kd.V_below (Kd.V_elderB (by (with_reducible repeat (first | apply Kd.V_alloc | apply Kd.V_drewN | apply Kd.V_drew)); exact HO2.out) gb1420 (Nat.le_of_eq hg.symm)) hb); replace BK1414 := zkb BK1414 hb; replace BK1415 := zkb BK1415 hb; replace BK1416 := zkb BK1416 hb; replace HB := zkB HB hb; have BK1420 := Aside0.mk (hbox); clear hb hbox hg; obtain ⟨_, _, _, _, _, _⟩ := zs3 NB1420_1414 NB1420_1415 NB1420_1416; obtain ⟨z18_0, z18_1, z18_2, f18_0, f18_1, f18_2⟩ := zq3 BK1420; obtain ⟨_, _⟩ := zsy NB1415_1416; obtain ⟨z20_0, z20_1, z20_2, f20_0, f20_1, f20_2⟩ := zq3 BK1415) | (go_at_call 49; (with_reducible refine (flyballref16_Norm.calls k a1_0 a1_1 a1_2 t1421 t1422 t1423 _ A5.out).mono ?_); rintro e w21 ⟨rfl, hb⟩; replace HO2 := Aside0.mk (Kd.V_below (by (with_reducible repeat (first | apply Kd.V_alloc | apply Kd.V_drewN | apply Kd.V_drew)); exact (Kd.V_mono (Kd.V_far (p := ⟨gb1420, 2, none⟩) (Kd.V_far (p := ⟨gb1420, 1, none⟩) (Kd.V_far (p := ⟨gb1420, 0, none⟩) (Kd.V_mono HO2.out (fun k_ hk => (⟨hk, hk.2⟩ : _ ∧ k_ ≠ gb1420))) (fun _ hk => hk.2) (.bool true)) (fun _ hk => hk.2) (.int .u64 t1418)) (fun _ hk => hk.2) (.int .u64 t1419)) (fun _ h_ => h_.1))) hb); replace BK1414 := Aside0.mk (blk_below (zkf (zkf (zkf BK1414.out NB1414_1420.out _) NB1414_1420.out _) NB1414_1420.out _) hb); replace BK1415 := Aside0.mk (blk_below (zkf (zkf (zkf BK1415.out NB1415_1420.out _) NB1415_1420.out _) NB1415_1420.out _) hb); replace BK1416 := Aside0.mk (blk_below (zkf (zkf (zkf BK1416.out NB1416_1420.out _) NB1416_1420.out _) NB1416_1420.out _) hb); replace BK1420 := Aside0.mk (blk_below (o := .cells #[.bool true, .int .u64 t1418, .int .u64 t1419] 43 (0, 0)) (blk_put (cs := #[.bool true, .int .u64 t1418, .int .u64 0]) (blk_put (cs := #[.bool true, .int .u64 0, .int .u64 0]) (blk_put BK1420.out 0 _ rfl) 1 _ rfl) 2 _ rfl) hb); replace HB := Aside0.mk (below_step (below_set (below_set (below_set HB.out GW1420.out) GW1420.out) GW1420.out) hb); (try clear hb); (try clear hk)) | ((with_reducible refine gtd 8 rfl ?_); refine zbx 8 #[.bool false, .int .u64 0, .int .u64 0] 43 (h := ?_); intro gb1424 hg w22 hbox hb; have GW1424 := zkz HB hg; have NB1414_1424 := zkl BK1414 hg; have NB1424_1414 := zkr BK1414 hg; have NB1415_1424 := zkl BK1415 hg; have NB1424_1415 := zkr BK1415 hg; have NB1416_1424 := zkl BK1416 hg; have NB1424_1416 := zkr BK1416 hg; have NB1420_1424 := zkl BK1420 hg; have NB1424_1420 := zkr BK1420 hg; replace HO2 := Aside0.mk (Kd.V_below (Kd.V_elderB (by (with_reducible repeat (first | apply Kd.V_alloc | apply Kd.V_drewN | apply Kd.V_drew)); exact HO2.out) gb1424 (Nat.le_of_eq hg.symm)) hb); replace BK1414 := zkb BK1414 hb; replace BK1415 := zkb BK1415 hb; replace BK1416 := zkb BK1416 hb; replace BK1420 := zkb BK1420 hb; replace HB := zkB HB hb; have BK1424 := Aside0.mk (hbox); clear hb hbox hg; obtain ⟨_, _, _, _, _, _, _, _⟩ := zs4 NB1424_1414 NB1424_1415 NB1424_1416 NB1424_1420; obtain ⟨z27_0, z27_1, z27_2, f27_0, f27_1, f27_2⟩ := zq3 BK1424; obtain ⟨z28_0, z28_1, z28_2, f28_0, f28_1, f28_2⟩ := zq3 BK1420; obtain ⟨z29_0, z29_1, z29_2, f29_0, f29_1, f29_2⟩ := zq3 BK1416))
  repeat (go_quiet (first | ((with_reducible refine gtd 3 rfl ?_); refine zbx 3 #[.bool a0_0, .int .u64 a0_1, .int .u64 a0_2] 43 (h := ?_); intro gb1414 hg w7 hbox hb; have GW1414 := zkZ hg (zaB (p := Below w.heap.size w _)); replace HO2 := Aside0.mk (Kd.V_below (Kd.V_elderB (by (with_reducible repeat (first | apply Kd.V_alloc | apply Kd.V_drewN | apply Kd.V_drew)); exact HO2.out) gb1414 (Nat.le_of_eq hg.symm)) hb); replace HB := Aside0.mk (below_step zaB hb); have BK1414 := Aside0.mk (hbox); clear hb hbox hg) | ((with_reducible refine gtd 4 rfl ?_); refine zbx 4 #[.bool a1_0, .int .u64 a1_1, .int .u64 a1_2] 43 (h := ?_); intro gb1415 hg w8 hbox hb; have GW1415 := zkz HB hg; have NB1414_1415 := zkl BK1414 hg; have NB1415_1414 := zkr BK1414 hg; replace HO2 := Aside0.mk (Kd.V_below (Kd.V_elderB (by (with_reducible repeat (first | apply Kd.V_alloc | apply Kd.V_drewN | apply Kd.V_drew)); exact HO2.out) gb1415 (Nat.le_of_eq hg.symm)) hb); replace BK1414 := zkb BK1414 hb; replace HB := zkB HB hb; have BK1415 := Aside0.mk (hbox); clear hb hbox hg) | ((with_reducible refine gtd 6 rfl ?_); refine zbx 6 #[.bool false, .int .u64 0, .int .u64 0] 43 (h := ?_); intro gb1416 hg w9 hbox hb; have GW1416 := zkz HB hg; have NB1414_1416 := zkl BK1414 hg; have NB1416_1414 := zkr BK1414 hg; have NB1415_1416 := zkl BK1415 hg; have NB1416_1415 := zkr BK1415 hg; replace HO2 := Aside0.mk (Kd.V_below (Kd.V_elderB (by (with_reducible repeat (first | apply Kd.V_alloc | apply Kd.V_drewN | apply Kd.V_drew)); exact HO2.out) gb1416 (Nat.le_of_eq hg.symm)) hb); replace BK1414 := zkb BK1414 hb; replace BK1415 := zkb BK1415 hb; replace HB := zkB HB hb; have BK1416 := Aside0.mk (hbox); clear hb hbox hg; obtain ⟨_, _, _, _⟩ := zs2 NB1414_1415 NB1414_1416; obtain ⟨z12_0, z12_1, z12_2, f12_0, f12_1, f12_2⟩ := zq3 BK1414) | (go_at_call 49; (with_reducible refine (flyballref16_Norm.calls k a0_0 a0_1 a0_2 true t1418 t1419 _ A4.out).mono ?_); rintro e w13 ⟨rfl, hb⟩; replace HO2 := Aside0.mk (Kd.V_below (by (with_reducible repeat (first | apply Kd.V_alloc | apply Kd.V_drewN | apply Kd.V_drew)); exact HO2.out) hb); replace BK1414 := zkb BK1414 hb; replace BK1415 := zkb BK1415 hb; replace BK1416 := zkb BK1416 hb; replace HB := zkB HB hb; (try clear hb); (try clear hk)) | ((with_reducible refine gtd 7 rfl ?_); refine zbx 7 #[.bool false, .int .u64 0, .int .u64 0] 43 (h := ?_); intro gb1420 hg w14 hbox hb; have GW1420 := zkz HB hg; have NB1414_1420 := zkl BK1414 hg; have NB1420_1414 := zkr BK1414 hg; have NB1415_1420 := zkl BK1415 hg; have NB1420_1415 := zkr BK1415 hg; have NB1416_1420 := zkl BK1416 hg; have NB1420_1416 := zkr BK1416 hg; replace HO2 := Aside0.mk (Kd.V_below (Kd.V_elderB (by (with_reducible repeat (first | apply Kd.V_alloc | apply Kd.V_drewN | apply Kd.V_drew)); exact HO2.out) gb1420 (Nat.le_of_eq hg.symm)) hb); replace BK1414 := zkb BK1414 hb; replace BK1415 := zkb BK1415 hb; replace BK1416 := zkb BK1416 hb; replace HB := zkB HB hb; have BK1420 := Aside0.mk (hbox); clear hb hbox hg; obtain ⟨_, _, _, _, _, _⟩ := zs3 NB1420_1414 NB1420_1415 NB1420_1416; obtain ⟨z18_0, z18_1, z18_2, f18_0, f18_1, f18_2⟩ := zq3 BK1420; obtain ⟨_, _⟩ := zsy NB1415_1416; obtain ⟨z20_0, z20_1, z20_2, f20_0, f20_1, f20_2⟩ := zq3 BK1415) | (go_at_call 49; (with_reducible refine (flyballref16_Norm.calls k a1_0 a1_1 a1_2 t1421 t1422 t1423 _ A5.out).mono ?_); rintro e w21 ⟨rfl, hb⟩; replace HO2 := Aside0.mk (Kd.V_below (by (with_reducible repeat (first | apply Kd.V_alloc | apply Kd.V_drewN | apply Kd.V_drew)); exact (Kd.V_mono (Kd.V_far (p := ⟨gb1420, 2, none⟩) (Kd.V_far (p := ⟨gb1420, 1, none⟩) (Kd.V_far (p := ⟨gb1420, 0, none⟩) (Kd.V_mono HO2.out (fun k_ hk => (⟨hk, hk.2⟩ : _ ∧ k_ ≠ gb1420))) (fun _ hk => hk.2) (.bool true)) (fun _ hk => hk.2) (.int .u64 t1418)) (fun _ hk => hk.2) (.int .u64 t1419)) (fun _ h_ => h_.1))) hb); replace BK1414 := Aside0.mk (blk_below (zkf (zkf (zkf BK1414.out NB1414_1420.out _) NB1414_1420.out _) NB1414_1420.out _) hb); replace BK1415 := Aside0.mk (blk_below (zkf (zkf (zkf BK1415.out NB1415_1420.out _) NB1415_1420.out _) NB1415_1420.out _) hb); replace BK1416 := Aside0.mk (blk_below (zkf (zkf (zkf BK1416.out NB1416_1420.out _) NB1416_1420.out _) NB1416_1420.out _) hb); replace BK1420 := Aside0.mk (blk_below (o := .cells #[.bool true, .int .u64 t1418, .int .u64 t1419] 43 (0, 0)) (blk_put (cs := #[.bool true, .int .u64 t1418, .int .u64 0]) (blk_put (cs := #[.bool true, .int .u64 0, .int .u64 0]) (blk_put BK1420.out 0 _ rfl) 1 _ rfl) 2 _ rfl) hb); replace HB := Aside0.mk (below_step (below_set (below_set (below_set HB.out GW1420.out) GW1420.out) GW1420.out) hb); (try clear hb); (try clear hk)) | ((with_reducible refine gtd 8 rfl ?_); refine zbx 8 #[.bool false, .int .u64 0, .int .u64 0] 43 (h := ?_); intro gb1424 hg w22 hbox hb; have GW1424 := zkz HB hg; have NB1414_1424 := zkl BK1414 hg; have NB1424_1414 := zkr BK1414 hg; have NB1415_1424 := zkl BK1415 hg; have NB1424_1415 := zkr BK1415 hg; have NB1416_1424 := zkl BK1416 hg; have NB1424_1416 := zkr BK1416 hg; have NB1420_1424 := zkl BK1420 hg; have NB1424_1420 := zkr BK1420 hg; replace HO2 := Aside0.mk (Kd.V_below (Kd.V_elderB (by (with_reducible repeat (first | apply Kd.V_alloc | apply Kd.V_drewN | apply Kd.V_drew)); exact HO2.out) gb1424 (Nat.le_of_eq hg.symm)) hb); replace BK1414 := zkb BK1414 hb; replace BK1415 := zkb BK1415 hb; replace BK1416 := zkb BK1416 hb; replace BK1420 := zkb BK1420 hb; replace HB := zkB HB hb; have BK1424 := Aside0.mk (hbox); clear hb hbox hg; obtain ⟨_, _, _, _, _, _, _, _⟩ := zs4 NB1424_1414 NB1424_1415 NB1424_1416 NB1424_1420; obtain ⟨z27_0, z27_1, z27_2, f27_0, f27_1, f27_2⟩ := zq3 BK1424; obtain ⟨z28_0, z28_1, z28_2, f28_0, f28_1, f28_2⟩ := zq3 BK1420; obtain ⟨z29_0, z29_1, z29_2, f29_0, f29_1, f29_2⟩ := zq3 BK1416)); try go_wp2_with (first | ((with_reducible refine gtd 3 rfl ?_); refine zbx 3 #[.bool a0_0, .int .u64 a0_1, .int .u64 a0_2] 43 (h := ?_); intro gb1414 hg w7 hbox hb; have GW1414 := zkZ hg (zaB (p := Below w.heap.size w _)); replace HO2 := Aside0.mk (Kd.V_below (Kd.V_elderB (by (with_reducible repeat (first | apply Kd.V_alloc | apply Kd.V_drewN | apply Kd.V_drew)); exact HO2.out) gb1414 (Nat.le_of_eq hg.symm)) hb); replace HB := Aside0.mk (below_step zaB hb); have BK1414 := Aside0.mk (hbox); clear hb hbox hg) | ((with_reducible refine gtd 4 rfl ?_); refine zbx 4 #[.bool a1_0, .int .u64 a1_1, .int .u64 a1_2] 43 (h := ?_); intro gb1415 hg w8 hbox hb; have GW1415 := zkz HB hg; have NB1414_1415 := zkl BK1414 hg; have NB1415_1414 := zkr BK1414 hg; replace HO2 := Aside0.mk (Kd.V_below (Kd.V_elderB (by (with_reducible repeat (first | apply Kd.V_alloc | apply Kd.V_drewN | apply Kd.V_drew)); exact HO2.out) gb1415 (Nat.le_of_eq hg.symm)) hb); replace BK1414 := zkb BK1414 hb; replace HB := zkB HB hb; have BK1415 := Aside0.mk (hbox); clear hb hbox hg) | ((with_reducible refine gtd 6 rfl ?_); refine zbx 6 #[.bool false, .int .u64 0, .int .u64 0] 43 (h := ?_); intro gb1416 hg w9 hbox hb; have GW1416 := zkz HB hg; have NB1414_1416 := zkl BK1414 hg; have NB1416_1414 := zkr BK1414 hg; have NB1415_1416 := zkl BK1415 hg; have NB1416_1415 := zkr BK1415 hg; replace HO2 := Aside0.mk (Kd.V_below (Kd.V_elderB (by (with_reducible repeat (first | apply Kd.V_alloc | apply Kd.V_drewN | apply Kd.V_drew)); exact HO2.out) gb1416 (Nat.le_of_eq hg.symm)) hb); replace BK1414 := zkb BK1414 hb; replace BK1415 := zkb BK1415 hb; replace HB := zkB HB hb; have BK1416 := Aside0.mk (hbox); clear hb hbox hg; obtain ⟨_, _, _, _⟩ := zs2 NB1414_1415 NB1414_1416; obtain ⟨z12_0, z12_1, z12_2, f12_0, f12_1, f12_2⟩ := zq3 BK1414) | (go_at_call 49; (with_reducible refine (flyballref16_Norm.calls k a0_0 a0_1 a0_2 true t1418 t1419 _ A4.out).mono ?_); rintro e w13 ⟨rfl, hb⟩; replace HO2 := Aside0.mk (Kd.V_below (by (with_reducible repeat (first | apply Kd.V_alloc | apply Kd.V_drewN | apply Kd.V_drew)); exact HO2.out) hb); replace BK1414 := zkb BK1414 hb; replace BK1415 := zkb BK1415 hb; replace BK1416 := zkb BK1416 hb; replace HB := zkB HB hb; (try clear hb); (try clear hk)) | ((with_reducible refine gtd 7 rfl ?_); refine zbx 7 #[.bool false, .int .u64 0, .int .u64 0] 43 (h := ?_); intro gb1420 hg w14 hbox hb; have GW1420 := zkz HB hg; have NB1414_1420 := zkl BK1414 hg; have NB1420_1414 := zkr BK1414 hg; have NB1415_1420 := zkl BK1415 hg; have NB1420_1415 := zkr BK1415 hg; have NB1416_1420 := zkl BK1416 hg; have NB1420_1416 := zkr BK1416 hg; replace HO2 := Aside0.mk (Kd.V_below (Kd.V_elderB (by (with_reducible repeat (first | apply Kd.V_alloc | apply Kd.V_drewN | apply Kd.V_drew)); exact HO2.out) gb1420 (Nat.le_of_eq hg.symm)) hb); replace BK1414 := zkb BK1414 hb; replace BK1415 := zkb BK1415 hb; replace BK1416 := zkb BK1416 hb; replace HB := zkB HB hb; have BK1420 := Aside0.mk (hbox); clear hb hbox hg; obtain ⟨_, _, _, _, _, _⟩ := zs3 NB1420_1414 NB1420_1415 NB1420_1416; obtain ⟨z18_0, z18_1, z18_2, f18_0, f18_1, f18_2⟩ := zq3 BK1420; obtain ⟨_, _⟩ := zsy NB1415_1416; obtain ⟨z20_0, z20_1, z20_2, f20_0, f20_1, f20_2⟩ := zq3 BK1415) | (go_at_call 49; (with_reducible refine (flyballref16_Norm.calls k a1_0 a1_1 a1_2 t1421 t1422 t1423 _ A5.out).mono ?_); rintro e w21 ⟨rfl, hb⟩; replace HO2 := Aside0.mk (Kd.V_below (by (with_reducible repeat (first | apply Kd.V_alloc | apply Kd.V_drewN | apply Kd.V_drew)); exact (Kd.V_mono (Kd.V_far (p := ⟨gb1420, 2, none⟩) (Kd.V_far (p := ⟨gb1420, 1, none⟩) (Kd.V_far (p := ⟨gb1420, 0, none⟩) (Kd.V_mono HO2.out (fun k_ hk => (⟨hk, hk.2⟩ : _ ∧ k_ ≠ gb1420))) (fun _ hk => hk.2) (.bool true)) (fun _ hk => hk.2) (.int .u64 t1418)) (fun _ hk => hk.2) (.int .u64 t1419)) (fun _ h_ => h_.1))) hb); replace BK1414 := Aside0.mk (blk_below (zkf (zkf (zkf BK1414.out NB1414_1420.out _) NB1414_1420.out _) NB1414_1420.out _) hb); replace BK1415 := Aside0.mk (blk_below (zkf (zkf (zkf BK1415.out NB1415_1420.out _) NB1415_1420.out _) NB1415_1420.out _) hb); replace BK1416 := Aside0.mk (blk_below (zkf (zkf (zkf BK1416.out NB1416_1420.out _) NB1416_1420.out _) NB1416_1420.out _) hb); replace BK1420 := Aside0.mk (blk_below (o := .cells #[.bool true, .int .u64 t1418, .int .u64 t1419] 43 (0, 0)) (blk_put (cs := #[.bool true, .int .u64 t1418, .int .u64 0]) (blk_put (cs := #[.bool true, .int .u64 0, .int .u64 0]) (blk_put BK1420.out 0 _ rfl) 1 _ rfl) 2 _ rfl) hb); replace HB := Aside0.mk (below_step (below_set (below_set (below_set HB.out GW1420.out) GW1420.out) GW1420.out) hb); (try clear hb); (try clear hk)) | ((with_reducible refine gtd 8 rfl ?_); refine zbx 8 #[.bool false, .int .u64 0, .int .u64 0] 43 (h := ?_); intro gb1424 hg w22 hbox hb; have GW1424 := zkz HB hg; have NB1414_1424 := zkl BK1414 hg; have NB1424_1414 := zkr BK1414 hg; have NB1415_1424 := zkl BK1415 hg; have NB1424_1415 := zkr BK1415 hg; have NB1416_1424 := zkl BK1416 hg; have NB1424_1416 := zkr BK1416 hg; have NB1420_1424 := zkl BK1420 hg; have NB1424_1420 := zkr BK1420 hg; replace HO2 := Aside0.mk (Kd.V_below (Kd.V_elderB (by (with_reducible repeat (first | apply Kd.V_alloc | apply Kd.V_drewN | apply Kd.V_drew)); exact HO2.out) gb1424 (Nat.le_of_eq hg.symm)) hb); replace BK1414 := zkb BK1414 hb; replace BK1415 := zkb BK1415 hb; replace BK1416 := zkb BK1416 hb; replace BK1420 := zkb BK1420 hb; replace HB := zkB HB hb; have BK1424 := Aside0.mk (hbox); clear hb hbox hg; obtain ⟨_, _, _, _, _, _, _, _⟩ := zs4 NB1424_1414 NB1424_1415 NB1424_1416 NB1424_1420; obtain ⟨z27_0, z27_1, z27_2, f27_0, f27_1, f27_2⟩ := zq3 BK1424; obtain ⟨z28_0, z28_1, z28_2, f28_0, f28_1, f28_2⟩ := zq3 BK1420; obtain ⟨z29_0, z29_1, z29_2, f29_0, f29_1, f29_2⟩ := zq3 BK1416)))
  refine bodyPost_ret (results_cell_row rfl _ _ gb1416 43 #[.bool t1421, .int .u64 t1422, .int .u64 t1423] (0, 0) _ rfl (blk_put (cs := #[.bool t1421, .int .u64 t1422, .int .u64 0]) (blk_put (cs := #[.bool t1421, .int .u64 0, .int .u64 0]) (blk_put (zkf (zkf (zkf (zkq BK1416) NB1416_1424.out _) NB1416_1424.out _) NB1416_1424.out _) 0 _ rfl) 1 _ rfl) 2 _ rfl) Try.underlying43 rfl (by kernel_rfl)) rfl ?_
  exact ⟨zaE, zaB⟩
 replace c6 := Bool.eq_false_iff.mpr c6
 subst c6
 replace H := zif H
 obtain ⟨⟨t1425, t1426, t1427⟩, A30, H⟩ := zbs H
 try dsimp only at H
 obtain ⟨t1429, A31, H⟩ := zbs H
 try dsimp only at H
 have HC32 := Aside0.mk H
 clear H
 go_enter Try.func56, Try.ntmps56
 go_upto_if 29 with (first | ((with_reducible refine gtd 3 rfl ?_); refine zbx 3 #[.bool a0_0, .int .u64 a0_1, .int .u64 a0_2] 43 (h := ?_); intro gb1414 hg w33 hbox hb; have GW1414 := zkZ hg (zaB (p := Below w.heap.size w _)); replace HO2 := Aside0.mk (Kd.V_below (Kd.V_elderB (by (with_reducible repeat (first | apply Kd.V_alloc | apply Kd.V_drewN | apply Kd.V_drew)); exact HO2.out) gb1414 (Nat.le_of_eq hg.symm)) hb); replace HB := Aside0.mk (below_step zaB hb); have BK1414 := Aside0.mk (hbox); clear hb hbox hg) | ((with_reducible refine gtd 4 rfl ?_); refine zbx 4 #[.bool a1_0, .int .u64 a1_1, .int .u64 a1_2] 43 (h := ?_); intro gb1415 hg w34 hbox hb; have GW1415 := zkz HB hg; have NB1414_1415 := zkl BK1414 hg; have NB1415_1414 := zkr BK1414 hg; replace HO2 := Aside0.mk (Kd.V_below (Kd.V_elderB (by (with_reducible repeat (first | apply Kd.V_alloc | apply Kd.V_drewN | apply Kd.V_drew)); exact HO2.out) gb1415 (Nat.le_of_eq hg.symm)) hb); replace BK1414 := zkb BK1414 hb; replace HB := zkB HB hb; have BK1415 := Aside0.mk (hbox); clear hb hbox hg) | ((with_reducible refine gtd 6 rfl ?_); refine zbx 6 #[.bool false, .int .u64 0, .int .u64 0] 43 (h := ?_); intro gb1416 hg w35 hbox hb; have GW1416 := zkz HB hg; have NB1414_1416 := zkl BK1414 hg; have NB1416_1414 := zkr BK1414 hg; have NB1415_1416 := zkl BK1415 hg; have NB1416_1415 := zkr BK1415 hg; replace HO2 := Aside0.mk (Kd.V_below (Kd.V_elderB (by (with_reducible repeat (first | apply Kd.V_alloc | apply Kd.V_drewN | apply Kd.V_drew)); exact HO2.out) gb1416 (Nat.le_of_eq hg.symm)) hb); replace BK1414 := zkb BK1414 hb; replace BK1415 := zkb BK1415 hb; replace HB := zkB HB hb; have BK1416 := Aside0.mk (hbox); clear hb hbox hg; obtain ⟨_, _, _, _⟩ := zs2 NB1414_1415 NB1414_1416; obtain ⟨z38_0, z38_1, z38_2, f38_0, f38_1, f38_2⟩ := zq3 BK1414) | (go_at_call 49; (with_reducible refine (flyballref16_Norm.calls k a0_0 a0_1 a0_2 false t1418 t1419 _ A4.out).mono ?_); rintro e w39 ⟨rfl, hb⟩; replace HO2 := Aside0.mk (Kd.V_below (by (with_reducible repeat (first | apply Kd.V_alloc | apply Kd.V_drewN | apply Kd.V_drew)); exact HO2.out) hb); replace BK1414 := zkb BK1414 hb; replace BK1415 := zkb BK1415 hb; replace BK1416 := zkb BK1416 hb; replace HB := zkB HB hb; (try clear hb); (try clear hk)) | ((with_reducible refine gtd 7 rfl ?_); refine zbx 7 #[.bool false, .int .u64 0, .int .u64 0] 43 (h := ?_); intro gb1420 hg w40 hbox hb; have GW1420 := zkz HB hg; have NB1414_1420 := zkl BK1414 hg; have NB1420_1414 := zkr BK1414 hg; have NB1415_1420 := zkl BK1415 hg; have NB1420_1415 := zkr BK1415 hg; have NB1416_1420 := zkl BK1416 hg; have NB1420_1416 := zkr BK1416 hg; replace HO2 := Aside0.mk (Kd.V_below (Kd.V_elderB (by (with_reducible repeat (first | apply Kd.V_alloc | apply Kd.V_drewN | apply Kd.V_drew)); exact HO2.out) gb1420 (Nat.le_of_eq hg.symm)) hb); replace BK1414 := zkb BK1414 hb; replace BK1415 := zkb BK1415 hb; replace BK1416 := zkb BK1416 hb; replace HB := zkB HB hb; have BK1420 := Aside0.mk (hbox); clear hb hbox hg; obtain ⟨_, _, _, _, _, _⟩ := zs3 NB1420_1414 NB1420_1415 NB1420_1416; obtain ⟨z44_0, z44_1, z44_2, f44_0, f44_1, f44_2⟩ := zq3 BK1420; obtain ⟨_, _⟩ := zsy NB1415_1416; obtain ⟨z46_0, z46_1, z46_2, f46_0, f46_1, f46_2⟩ := zq3 BK1415) | (go_at_call 49; (with_reducible refine (flyballref16_Norm.calls k a1_0 a1_1 a1_2 t1421 t1422 t1423 _ A5.out).mono ?_); rintro e w47 ⟨rfl, hb⟩; replace HO2 := Aside0.mk (Kd.V_below (by (with_reducible repeat (first | apply Kd.V_alloc | apply Kd.V_drewN | apply Kd.V_drew)); exact (Kd.V_mono (Kd.V_far (p := ⟨gb1420, 2, none⟩) (Kd.V_far (p := ⟨gb1420, 1, none⟩) (Kd.V_far (p := ⟨gb1420, 0, none⟩) (Kd.V_mono HO2.out (fun k_ hk => (⟨hk, hk.2⟩ : _ ∧ k_ ≠ gb1420))) (fun _ hk => hk.2) (.bool false)) (fun _ hk => hk.2) (.int .u64 t1418)) (fun _ hk => hk.2) (.int .u64 t1419)) (fun _ h_ => h_.1))) hb); replace BK1414 := Aside0.mk (blk_below (zkf (zkf (zkf BK1414.out NB1414_1420.out _) NB1414_1420.out _) NB1414_1420.out _) hb); replace BK1415 := Aside0.mk (blk_below (zkf (zkf (zkf BK1415.out NB1415_1420.out _) NB1415_1420.out _) NB1415_1420.out _) hb); replace BK1416 := Aside0.mk (blk_below (zkf (zkf (zkf BK1416.out NB1416_1420.out _) NB1416_1420.out _) NB1416_1420.out _) hb); replace BK1420 := Aside0.mk (blk_below (o := .cells #[.bool false, .int .u64 t1418, .int .u64 t1419] 43 (0, 0)) (blk_put (cs := #[.bool false, .int .u64 t1418, .int .u64 0]) (blk_put (cs := #[.bool false, .int .u64 0, .int .u64 0]) (blk_put BK1420.out 0 _ rfl) 1 _ rfl) 2 _ rfl) hb); replace HB := Aside0.mk (below_step (below_set (below_set (below_set HB.out GW1420.out) GW1420.out) GW1420.out) hb); (try clear hb); (try clear hk)) | ((with_reducible refine gtd 8 rfl ?_); refine zbx 8 #[.bool false, .int .u64 0, .int .u64 0] 43 (h := ?_); intro gb1424 hg w48 hbox hb; have GW1424 := zkz HB hg; have NB1414_1424 := zkl BK1414 hg; have NB1424_1414 := zkr BK1414 hg; have NB1415_1424 := zkl BK1415 hg; have NB1424_1415 := zkr BK1415 hg; have NB1416_1424 := zkl BK1416 hg; have NB1424_1416 := zkr BK1416 hg; have NB1420_1424 := zkl BK1420 hg; have NB1424_1420 := zkr BK1420 hg; replace HO2 := Aside0.mk (Kd.V_below (Kd.V_elderB (by (with_reducible repeat (first | apply Kd.V_alloc | apply Kd.V_drewN | apply Kd.V_drew)); exact HO2.out) gb1424 (Nat.le_of_eq hg.symm)) hb); replace BK1414 := zkb BK1414 hb; replace BK1415 := zkb BK1415 hb; replace BK1416 := zkb BK1416 hb; replace BK1420 := zkb BK1420 hb; replace HB := zkB HB hb; have BK1424 := Aside0.mk (hbox); clear hb hbox hg; obtain ⟨_, _, _, _, _, _, _, _⟩ := zs4 NB1424_1414 NB1424_1415 NB1424_1416 NB1424_1420; obtain ⟨z53_0, z53_1, z53_2, f53_0, f53_1, f53_2⟩ := zq3 BK1424; obtain ⟨z54_0, z54_1, z54_2, f54_0, f54_1, f54_2⟩ := zq3 BK1420) | (go_at_call 46; (with_reducible refine (flyballref16_Join.calls k false t1418 t1419 t1421 t1422 t1423 t1425 t1426 t1427 _ A30.out).mono ?_); rintro e w55 ⟨rfl, hb⟩; replace HO2 := Aside0.mk (Kd.V_below (by (with_reducible repeat (first | apply Kd.V_alloc | apply Kd.V_drewN | apply Kd.V_drew)); exact (Kd.V_mono (Kd.V_far (p := ⟨gb1424, 2, none⟩) (Kd.V_far (p := ⟨gb1424, 1, none⟩) (Kd.V_far (p := ⟨gb1424, 0, none⟩) (Kd.V_mono HO2.out (fun k_ hk => (⟨hk, hk.2⟩ : _ ∧ k_ ≠ gb1424))) (fun _ hk => hk.2) (.bool t1421)) (fun _ hk => hk.2) (.int .u64 t1422)) (fun _ hk => hk.2) (.int .u64 t1423)) (fun _ h_ => h_.1))) hb); replace BK1414 := Aside0.mk (blk_below (zkf (zkf (zkf BK1414.out NB1414_1424.out _) NB1414_1424.out _) NB1414_1424.out _) hb); replace BK1415 := Aside0.mk (blk_below (zkf (zkf (zkf BK1415.out NB1415_1424.out _) NB1415_1424.out _) NB1415_1424.out _) hb); replace BK1416 := Aside0.mk (blk_below (zkf (zkf (zkf BK1416.out NB1416_1424.out _) NB1416_1424.out _) NB1416_1424.out _) hb); replace BK1420 := Aside0.mk (blk_below (zkf (zkf (zkf BK1420.out NB1420_1424.out _) NB1420_1424.out _) NB1420_1424.out _) hb); replace BK1424 := Aside0.mk (blk_below (o := .cells #[.bool t1421, .int .u64 t1422, .int .u64 t1423] 43 (0, 0)) (blk_put (cs := #[.bool t1421, .int .u64 t1422, .int .u64 0]) (blk_put (cs := #[.bool t1421, .int .u64 0, .int .u64 0]) (blk_put BK1424.out 0 _ rfl) 1 _ rfl) 2 _ rfl) hb); replace HB := Aside0.mk (below_step (below_set (below_set (below_set HB.out GW1424.out) GW1424.out) GW1424.out) hb); (try clear hb); (try clear hk)) | ((with_reducible refine gtd 9 rfl ?_); refine zbx 9 #[.bool false, .int .u64 0, .int .u64 0] 43 (h := ?_); intro gb1428 hg w56 hbox hb; have GW1428 := zkz HB hg; have NB1414_1428 := zkl BK1414 hg; have NB1428_1414 := zkr BK1414 hg; have NB1415_1428 := zkl BK1415 hg; have NB1428_1415 := zkr BK1415 hg; have NB1416_1428 := zkl BK1416 hg; have NB1428_1416 := zkr BK1416 hg; have NB1420_1428 := zkl BK1420 hg; have NB1428_1420 := zkr BK1420 hg; have NB1424_1428 := zkl BK1424 hg; have NB1428_1424 := zkr BK1424 hg; replace HO2 := Aside0.mk (Kd.V_below (Kd.V_elderB (by (with_reducible repeat (first | apply Kd.V_alloc | apply Kd.V_drewN | apply Kd.V_drew)); exact HO2.out) gb1428 (Nat.le_of_eq hg.symm)) hb); replace BK1414 := zkb BK1414 hb; replace BK1415 := zkb BK1415 hb; replace BK1416 := zkb BK1416 hb; replace BK1420 := zkb BK1420 hb; replace BK1424 := zkb BK1424 hb; replace HB := zkB HB hb; have BK1428 := Aside0.mk (hbox); clear hb hbox hg; obtain ⟨_, _, _, _, _, _, _, _, _, _⟩ := zs5 NB1428_1414 NB1428_1415 NB1428_1416 NB1428_1420 NB1428_1424; obtain ⟨z62_0, z62_1, z62_2, f62_0, f62_1, f62_2⟩ := zq3 BK1428; obtain ⟨z63_0, z63_1, z63_2, f63_0, f63_1, f63_2⟩ := zq3 BK1420) | (go_at_call 116; (with_reducible refine (flyballref16_le.calls k t1418 t1426 t1429 _ A31.out).mono ?_); rintro e w' ⟨rfl, ⟨nd, rfl⟩⟩; (try first | exact ⟨rfl, _, World.drewN_drewN _ _ _⟩ | exact ⟨rfl, _, Eq.trans (World.drewN_drewN _ _ _) (congrArg (World.drewN _) (Nat.add_assoc _ _ _))⟩)))
 repeat (go_quiet (first | ((with_reducible refine gtd 3 rfl ?_); refine zbx 3 #[.bool a0_0, .int .u64 a0_1, .int .u64 a0_2] 43 (h := ?_); intro gb1414 hg w33 hbox hb; have GW1414 := zkZ hg (zaB (p := Below w.heap.size w _)); replace HO2 := Aside0.mk (Kd.V_below (Kd.V_elderB (by (with_reducible repeat (first | apply Kd.V_alloc | apply Kd.V_drewN | apply Kd.V_drew)); exact HO2.out) gb1414 (Nat.le_of_eq hg.symm)) hb); replace HB := Aside0.mk (below_step zaB hb); have BK1414 := Aside0.mk (hbox); clear hb hbox hg) | ((with_reducible refine gtd 4 rfl ?_); refine zbx 4 #[.bool a1_0, .int .u64 a1_1, .int .u64 a1_2] 43 (h := ?_); intro gb1415 hg w34 hbox hb; have GW1415 := zkz HB hg; have NB1414_1415 := zkl BK1414 hg; have NB1415_1414 := zkr BK1414 hg; replace HO2 := Aside0.mk (Kd.V_below (Kd.V_elderB (by (with_reducible repeat (first | apply Kd.V_alloc | apply Kd.V_drewN | apply Kd.V_drew)); exact HO2.out) gb1415 (Nat.le_of_eq hg.symm)) hb); replace BK1414 := zkb BK1414 hb; replace HB := zkB HB hb; have BK1415 := Aside0.mk (hbox); clear hb hbox hg) | ((with_reducible refine gtd 6 rfl ?_); refine zbx 6 #[.bool false, .int .u64 0, .int .u64 0] 43 (h := ?_); intro gb1416 hg w35 hbox hb; have GW1416 := zkz HB hg; have NB1414_1416 := zkl BK1414 hg; have NB1416_1414 := zkr BK1414 hg; have NB1415_1416 := zkl BK1415 hg; have NB1416_1415 := zkr BK1415 hg; replace HO2 := Aside0.mk (Kd.V_below (Kd.V_elderB (by (with_reducible repeat (first | apply Kd.V_alloc | apply Kd.V_drewN | apply Kd.V_drew)); exact HO2.out) gb1416 (Nat.le_of_eq hg.symm)) hb); replace BK1414 := zkb BK1414 hb; replace BK1415 := zkb BK1415 hb; replace HB := zkB HB hb; have BK1416 := Aside0.mk (hbox); clear hb hbox hg; obtain ⟨_, _, _, _⟩ := zs2 NB1414_1415 NB1414_1416; obtain ⟨z38_0, z38_1, z38_2, f38_0, f38_1, f38_2⟩ := zq3 BK1414) | (go_at_call 49; (with_reducible refine (flyballref16_Norm.calls k a0_0 a0_1 a0_2 false t1418 t1419 _ A4.out).mono ?_); rintro e w39 ⟨rfl, hb⟩; replace HO2 := Aside0.mk (Kd.V_below (by (with_reducible repeat (first | apply Kd.V_alloc | apply Kd.V_drewN | apply Kd.V_drew)); exact HO2.out) hb); replace BK1414 := zkb BK1414 hb; replace BK1415 := zkb BK1415 hb; replace BK1416 := zkb BK1416 hb; replace HB := zkB HB hb; (try clear hb); (try clear hk)) | ((with_reducible refine gtd 7 rfl ?_); refine zbx 7 #[.bool false, .int .u64 0, .int .u64 0] 43 (h := ?_); intro gb1420 hg w40 hbox hb; have GW1420 := zkz HB hg; have NB1414_1420 := zkl BK1414 hg; have NB1420_1414 := zkr BK1414 hg; have NB1415_1420 := zkl BK1415 hg; have NB1420_1415 := zkr BK1415 hg; have NB1416_1420 := zkl BK1416 hg; have NB1420_1416 := zkr BK1416 hg; replace HO2 := Aside0.mk (Kd.V_below (Kd.V_elderB (by (with_reducible repeat (first | apply Kd.V_alloc | apply Kd.V_drewN | apply Kd.V_drew)); exact HO2.out) gb1420 (Nat.le_of_eq hg.symm)) hb); replace BK1414 := zkb BK1414 hb; replace BK1415 := zkb BK1415 hb; replace BK1416 := zkb BK1416 hb; replace HB := zkB HB hb; have BK1420 := Aside0.mk (hbox); clear hb hbox hg; obtain ⟨_, _, _, _, _, _⟩ := zs3 NB1420_1414 NB1420_1415 NB1420_1416; obtain ⟨z44_0, z44_1, z44_2, f44_0, f44_1, f44_2⟩ := zq3 BK1420; obtain ⟨_, _⟩ := zsy NB1415_1416; obtain ⟨z46_0, z46_1, z46_2, f46_0, f46_1, f46_2⟩ := zq3 BK1415) | (go_at_call 49; (with_reducible refine (flyballref16_Norm.calls k a1_0 a1_1 a1_2 t1421 t1422 t1423 _ A5.out).mono ?_); rintro e w47 ⟨rfl, hb⟩; replace HO2 := Aside0.mk (Kd.V_below (by (with_reducible repeat (first | apply Kd.V_alloc | apply Kd.V_drewN | apply Kd.V_drew)); exact (Kd.V_mono (Kd.V_far (p := ⟨gb1420, 2, none⟩) (Kd.V_far (p := ⟨gb1420, 1, none⟩) (Kd.V_far (p := ⟨gb1420, 0, none⟩) (Kd.V_mono HO2.out (fun k_ hk => (⟨hk, hk.2⟩ : _ ∧ k_ ≠ gb1420))) (fun _ hk => hk.2) (.bool false)) (fun _ hk => hk.2) (.int .u64 t1418)) (fun _ hk => hk.2) (.int .u64 t1419)) (fun _ h_ => h_.1))) hb); replace BK1414 := Aside0.mk (blk_below (zkf (zkf (zkf BK1414.out NB1414_1420.out _) NB1414_1420.out _) NB1414_1420.out _) hb); replace BK1415 := Aside0.mk (blk_below (zkf (zkf (zkf BK1415.out NB1415_1420.out _) NB1415_1420.out _) NB1415_1420.out _) hb); replace BK1416 := Aside0.mk (blk_below (zkf (zkf (zkf BK1416.out NB1416_1420.out _) NB1416_1420.out _) NB1416_1420.out _) hb); replace BK1420 := Aside0.mk (blk_below (o := .cells #[.bool false, .int .u64 t1418, .int .u64 t1419] 43 (0, 0)) (blk_put (cs := #[.bool false, .int .u64 t1418, .int .u64 0]) (blk_put (cs := #[.bool false, .int .u64 0, .int .u64 0]) (blk_put BK1420.out 0 _ rfl) 1 _ rfl) 2 _ rfl) hb); replace HB := Aside0.mk (below_step (below_set (below_set (below_set HB.out GW1420.out) GW1420.out) GW1420.out) hb); (try clear hb); (try clear hk)) | ((with_reducible refine gtd 8 rfl ?_); refine zbx 8 #[.bool false, .int .u64 0, .int .u64 0] 43 (h := ?_); intro gb1424 hg w48 hbox hb; have GW1424 := zkz HB hg; have NB1414_1424 := zkl BK1414 hg; have NB1424_1414 := zkr BK1414 hg; have NB1415_1424 := zkl BK1415 hg; have NB1424_1415 := zkr BK1415 hg; have NB1416_1424 := zkl BK1416 hg; have NB1424_1416 := zkr BK1416 hg; have NB1420_1424 := zkl BK1420 hg; have NB1424_1420 := zkr BK1420 hg; replace HO2 := Aside0.mk (Kd.V_below (Kd.V_elderB (by (with_reducible repeat (first | apply Kd.V_alloc | apply Kd.V_drewN | apply Kd.V_drew)); exact HO2.out) gb1424 (Nat.le_of_eq hg.symm)) hb); replace BK1414 := zkb BK1414 hb; replace BK1415 := zkb BK1415 hb; replace BK1416 := zkb BK1416 hb; replace BK1420 := zkb BK1420 hb; replace HB := zkB HB hb; have BK1424 := Aside0.mk (hbox); clear hb hbox hg; obtain ⟨_, _, _, _, _, _, _, _⟩ := zs4 NB1424_1414 NB1424_1415 NB1424_1416 NB1424_1420; obtain ⟨z53_0, z53_1, z53_2, f53_0, f53_1, f53_2⟩ := zq3 BK1424; obtain ⟨z54_0, z54_1, z54_2, f54_0, f54_1, f54_2⟩ := zq3 BK1420) | (go_at_call 46; (with_reducible refine (flyballref16_Join.calls k false t1418 t1419 t1421 t1422 t1423 t1425 t1426 t1427 _ A30.out).mono ?_); rintro e w55 ⟨rfl, hb⟩; replace HO2 := Aside0.mk (Kd.V_below (by (with_reducible repeat (first | apply Kd.V_alloc | apply Kd.V_drewN | apply Kd.V_drew)); exact (Kd.V_mono (Kd.V_far (p := ⟨gb1424, 2, none⟩) (Kd.V_far (p := ⟨gb1424, 1, none⟩) (Kd.V_far (p := ⟨gb1424, 0, none⟩) (Kd.V_mono HO2.out (fun k_ hk => (⟨hk, hk.2⟩ : _ ∧ k_ ≠ gb1424))) (fun _ hk => hk.2) (.bool t1421)) (fun _ hk => hk.2) (.int .u64 t1422)) (fun _ hk => hk.2) (.int .u64 t1423)) (fun _ h_ => h_.1))) hb); replace BK1414 := Aside0.mk (blk_below (zkf (zkf (zkf BK1414.out NB1414_1424.out _) NB1414_1424.out _) NB1414_1424.out _) hb); replace BK1415 := Aside0.mk (blk_below (zkf (zkf (zkf BK1415.out NB1415_1424.out _) NB1415_1424.out _) NB1415_1424.out _) hb); replace BK1416 := Aside0.mk (blk_below (zkf (zkf (zkf BK1416.out NB1416_1424.out _) NB1416_1424.out _) NB1416_1424.out _) hb); replace BK1420 := Aside0.mk (blk_below (zkf (zkf (zkf BK1420.out NB1420_1424.out _) NB1420_1424.out _) NB1420_1424.out _) hb); replace BK1424 := Aside0.mk (blk_below (o := .cells #[.bool t1421, .int .u64 t1422, .int .u64 t1423] 43 (0, 0)) (blk_put (cs := #[.bool t1421, .int .u64 t1422, .int .u64 0]) (blk_put (cs := #[.bool t1421, .int .u64 0, .int .u64 0]) (blk_put BK1424.out 0 _ rfl) 1 _ rfl) 2 _ rfl) hb); replace HB := Aside0.mk (below_step (below_set (below_set (below_set HB.out GW1424.out) GW1424.out) GW1424.out) hb); (try clear hb); (try clear hk)) | ((with_reducible refine gtd 9 rfl ?_); refine zbx 9 #[.bool false, .int .u64 0, .int .u64 0] 43 (h := ?_); intro gb1428 hg w56 hbox hb; have GW1428 := zkz HB hg; have NB1414_1428 := zkl BK1414 hg; have NB1428_1414 := zkr BK1414 hg; have NB1415_1428 := zkl BK1415 hg; have NB1428_1415 := zkr BK1415 hg; have NB1416_1428 := zkl BK1416 hg; have NB1428_1416 := zkr BK1416 hg; have NB1420_1428 := zkl BK1420 hg; have NB1428_1420 := zkr BK1420 hg; have NB1424_1428 := zkl BK1424 hg; have NB1428_1424 := zkr BK1424 hg; replace HO2 := Aside0.mk (Kd.V_below (Kd.V_elderB (by (with_reducible repeat (first | apply Kd.V_alloc | apply Kd.V_drewN | apply Kd.V_drew)); exact HO2.out) gb1428 (Nat.le_of_eq hg.symm)) hb); replace BK1414 := zkb BK1414 hb; replace BK1415 := zkb BK1415 hb; replace BK1416 := zkb BK1416 hb; replace BK1420 := zkb BK1420 hb; replace BK1424 := zkb BK1424 hb; replace HB := zkB HB hb; have BK1428 := Aside0.mk (hbox); clear hb hbox hg; obtain ⟨_, _, _, _, _, _, _, _, _, _⟩ := zs5 NB1428_1414 NB1428_1415 NB1428_1416 NB1428_1420 NB1428_1424; obtain ⟨z62_0, z62_1, z62_2, f62_0, f62_1, f62_2⟩ := zq3 BK1428; obtain ⟨z63_0, z63_1, z63_2, f63_0, f63_1, f63_2⟩ := zq3 BK1420) | (go_at_call 116; (with_reducible refine (flyballref16_le.calls k t1418 t1426 t1429 _ A31.out).mono ?_); rintro e w' ⟨rfl, ⟨nd, rfl⟩⟩; (try first | exact ⟨rfl, _, World.drewN_drewN _ _ _⟩ | exact ⟨rfl, _, Eq.trans (World.drewN_drewN _ _ _) (congrArg (World.drewN _) (Nat.add_assoc _ _ _))⟩))); go_upto_if 29 with (first | ((with_reducible refine gtd 3 rfl ?_); refine zbx 3 #[.bool a0_0, .int .u64 a0_1, .int .u64 a0_2] 43 (h := ?_); intro gb1414 hg w33 hbox hb; have GW1414 := zkZ hg (zaB (p := Below w.heap.size w _)); replace HO2 := Aside0.mk (Kd.V_below (Kd.V_elderB (by (with_reducible repeat (first | apply Kd.V_alloc | apply Kd.V_drewN | apply Kd.V_drew)); exact HO2.out) gb1414 (Nat.le_of_eq hg.symm)) hb); replace HB := Aside0.mk (below_step zaB hb); have BK1414 := Aside0.mk (hbox); clear hb hbox hg) | ((with_reducible refine gtd 4 rfl ?_); refine zbx 4 #[.bool a1_0, .int .u64 a1_1, .int .u64 a1_2] 43 (h := ?_); intro gb1415 hg w34 hbox hb; have GW1415 := zkz HB hg; have NB1414_1415 := zkl BK1414 hg; have NB1415_1414 := zkr BK1414 hg; replace HO2 := Aside0.mk (Kd.V_below (Kd.V_elderB (by (with_reducible repeat (first | apply Kd.V_alloc | apply Kd.V_drewN | apply Kd.V_drew)); exact HO2.out) gb1415 (Nat.le_of_eq hg.symm)) hb); replace BK1414 := zkb BK1414 hb; replace HB := zkB HB hb; have BK1415 := Aside0.mk (hbox); clear hb hbox hg) | ((with_reducible refine gtd 6 rfl ?_); refine zbx 6 #[.bool false, .int .u64 0, .int .u64 0] 43 (h := ?_); intro gb1416 hg w35 hbox hb; have GW1416 := zkz HB hg; have NB1414_1416 := zkl BK1414 hg; have NB1416_1414 := zkr BK1414 hg; have NB1415_1416 := zkl BK1415 hg; have NB1416_1415 := zkr BK1415 hg; replace HO2 := Aside0.mk (Kd.V_below (Kd.V_elderB (by (with_reducible repeat (first | apply Kd.V_alloc | apply Kd.V_drewN | apply Kd.V_drew)); exact HO2.out) gb1416 (Nat.le_of_eq hg.symm)) hb); replace BK1414 := zkb BK1414 hb; replace BK1415 := zkb BK1415 hb; replace HB := zkB HB hb; have BK1416 := Aside0.mk (hbox); clear hb hbox hg; obtain ⟨_, _, _, _⟩ := zs2 NB1414_1415 NB1414_1416; obtain ⟨z38_0, z38_1, z38_2, f38_0, f38_1, f38_2⟩ := zq3 BK1414) | (go_at_call 49; (with_reducible refine (flyballref16_Norm.calls k a0_0 a0_1 a0_2 false t1418 t1419 _ A4.out).mono ?_); rintro e w39 ⟨rfl, hb⟩; replace HO2 := Aside0.mk (Kd.V_below (by (with_reducible repeat (first | apply Kd.V_alloc | apply Kd.V_drewN | apply Kd.V_drew)); exact HO2.out) hb); replace BK1414 := zkb BK1414 hb; replace BK1415 := zkb BK1415 hb; replace BK1416 := zkb BK1416 hb; replace HB := zkB HB hb; (try clear hb); (try clear hk)) | ((with_reducible refine gtd 7 rfl ?_); refine zbx 7 #[.bool false, .int .u64 0, .int .u64 0] 43 (h := ?_); intro gb1420 hg w40 hbox hb; have GW1420 := zkz HB hg; have NB1414_1420 := zkl BK1414 hg; have NB1420_1414 := zkr BK1414 hg; have NB1415_1420 := zkl BK1415 hg; have NB1420_1415 := zkr BK1415 hg; have NB1416_1420 := zkl BK1416 hg; have NB1420_1416 := zkr BK1416 hg; replace HO2 := Aside0.mk (Kd.V_below (Kd.V_elderB (by (with_reducible repeat (first | apply Kd.V_alloc | apply Kd.V_drewN | apply Kd.V_drew)); exact HO2.out) gb1420 (Nat.le_of_eq hg.symm)) hb); replace BK1414 := zkb BK1414 hb; replace BK1415 := zkb BK1415 hb; replace BK1416 := zkb BK1416 hb; replace HB := zkB HB hb; have BK1420 := Aside0.mk (hbox); clear hb hbox hg; obtain ⟨_, _, _, _, _, _⟩ := zs3 NB1420_1414 NB1420_1415 NB1420_1416; obtain ⟨z44_0, z44_1, z44_2, f44_0, f44_1, f44_2⟩ := zq3 BK1420; obtain ⟨_, _⟩ := zsy NB1415_1416; obtain ⟨z46_0, z46_1, z46_2, f46_0, f46_1, f46_2⟩ := zq3 BK1415) | (go_at_call 49; (with_reducible refine (flyballref16_Norm.calls k a1_0 a1_1 a1_2 t1421 t1422 t1423 _ A5.out).mono ?_); rintro e w47 ⟨rfl, hb⟩; replace HO2 := Aside0.mk (Kd.V_below (by (with_reducible repeat (first | apply Kd.V_alloc | apply Kd.V_drewN | apply Kd.V_drew)); exact (Kd.V_mono (Kd.V_far (p := ⟨gb1420, 2, none⟩) (Kd.V_far (p := ⟨gb1420, 1, none⟩) (Kd.V_far (p := ⟨gb1420, 0, none⟩) (Kd.V_mono HO2.out (fun k_ hk => (⟨hk, hk.2⟩ : _ ∧ k_ ≠ gb1420))) (fun _ hk => hk.2) (.bool false)) (fun _ hk => hk.2) (.int .u64 t1418)) (fun _ hk => hk.2) (.int .u64 t1419)) (fun _ h_ => h_.1))) hb); replace BK1414 := Aside0.mk (blk_below (zkf (zkf (zkf BK1414.out NB1414_1420.out _) NB1414_1420.out _) NB1414_1420.out _) hb); replace BK1415 := Aside0.mk (blk_below (zkf (zkf (zkf BK1415.out NB1415_1420.out _) NB1415_1420.out _) NB1415_1420.out _) hb); replace BK1416 := Aside0.mk (blk_below (zkf (zkf (zkf BK1416.out NB1416_1420.out _) NB1416_1420.out _) NB1416_1420.out _) hb); replace BK1420 := Aside0.mk (blk_below (o := .cells #[.bool false, .int .u64 t1418, .int .u64 t1419] 43 (0, 0)) (blk_put (cs := #[.bool false, .int .u64 t1418, .int .u64 0]) (blk_put (cs := #[.bool false, .int .u64 0, .int .u64 0]) (blk_put BK1420.out 0 _ rfl) 1 _ rfl) 2 _ rfl) hb); replace HB := Aside0.mk (below_step (below_set (below_set (below_set HB.out GW1420.out) GW1420.out) GW1420.out) hb); (try clear hb); (try clear hk)) | ((with_reducible refine gtd 8 rfl ?_); refine zbx 8 #[.bool false, .int .u64 0, .int .u64 0] 43 (h := ?_); intro gb1424 hg w48 hbox hb; have GW1424 := zkz HB hg; have NB1414_1424 := zkl BK1414 hg; have NB1424_1414 := zkr BK1414 hg; have NB1415_1424 := zkl BK1415 hg; have NB1424_1415 := zkr BK1415 hg; have NB1416_1424 := zkl BK1416 hg; have NB1424_1416 := zkr BK1416 hg; have NB1420_1424 := zkl BK1420 hg; have NB1424_1420 := zkr BK1420 hg; replace HO2 := Aside0.mk (Kd.V_below (Kd.V_elderB (by (with_reducible repeat (first | apply Kd.V_alloc | apply Kd.V_drewN | apply Kd.V_drew)); exact HO2.out) gb1424 (Nat.le_of_eq hg.symm)) hb); replace BK1414 := zkb BK1414 hb; replace BK1415 := zkb BK1415 hb; replace BK1416 := zkb BK1416 hb; replace BK1420 := zkb BK1420 hb; replace HB := zkB HB hb; have BK1424 := Aside0.mk (hbox); clear hb hbox hg; obtain ⟨_, _, _, _, _, _, _, _⟩ := zs4 NB1424_1414 NB1424_1415 NB1424_1416 NB1424_1420; obtain ⟨z53_0, z53_1, z53_2, f53_0, f53_1, f53_2⟩ := zq3 BK1424; obtain ⟨z54_0, z54_1, z54_2, f54_0, f54_1, f54_2⟩ := zq3 BK1420) | (go_at_call 46; (with_reducible refine (flyballref16_Join.calls k false t1418 t1419 t1421 t1422 t1423 t1425 t1426 t1427 _ A30.out).mono ?_); rintro e w55 ⟨rfl, hb⟩; replace HO2 := Aside0.mk (Kd.V_below (by (with_reducible repeat (first | apply Kd.V_alloc | apply Kd.V_drewN | apply Kd.V_drew)); exact (Kd.V_mono (Kd.V_far (p := ⟨gb1424, 2, none⟩) (Kd.V_far (p := ⟨gb1424, 1, none⟩) (Kd.V_far (p := ⟨gb1424, 0, none⟩) (Kd.V_mono HO2.out (fun k_ hk => (⟨hk, hk.2⟩ : _ ∧ k_ ≠ gb1424))) (fun _ hk => hk.2) (.bool t1421)) (fun _ hk => hk.2) (.int .u64 t1422)) (fun _ hk => hk.2) (.int .u64 t1423)) (fun _ h_ => h_.1))) hb); replace BK1414 := Aside0.mk (blk_below (zkf (zkf (zkf BK1414.out NB1414_1424.out _) NB1414_1424.out _) NB1414_1424.out _) hb); replace BK1415 := Aside0.mk (blk_below (zkf (zkf (zkf BK1415.out NB1415_1424.out _) NB1415_1424.out _) NB1415_1424.out _) hb); replace BK1416 := Aside0.mk (blk_below (zkf (zkf (zkf BK1416.out NB1416_1424.out _) NB1416_1424.out _) NB1416_1424.out _) hb); replace BK1420 := Aside0.mk (blk_below (zkf (zkf (zkf BK1420.out NB1420_1424.out _) NB1420_1424.out _) NB1420_1424.out _) hb); replace BK1424 := Aside0.mk (blk_below (o := .cells #[.bool t1421, .int .u64 t1422, .int .u64 t1423] 43 (0, 0)) (blk_put (cs := #[.bool t1421, .int .u64 t1422, .int .u64 0]) (blk_put (cs := #[.bool t1421, .int .u64 0, .int .u64 0]) (blk_put BK1424.out 0 _ rfl) 1 _ rfl) 2 _ rfl) hb); replace HB := Aside0.mk (below_step (below_set (below_set (below_set HB.out GW1424.out) GW1424.out) GW1424.out) hb); (try clear hb); (try clear hk)) | ((with_reducible refine gtd 9 rfl ?_); refine zbx 9 #[.bool false, .int .u64 0, .int .u64 0] 43 (h := ?_); intro gb1428 hg w56 hbox hb; have GW1428 := zkz HB hg; have NB1414_1428 := zkl BK1414 hg; have NB1428_1414 := zkr BK1414 hg; have NB1415_1428 := zkl BK1415 hg; have NB1428_1415 := zkr BK1415 hg; have NB1416_1428 := zkl BK1416 hg; have NB1428_1416 := zkr BK1416 hg; have NB1420_1428 := zkl BK1420 hg; have NB1428_1420 := zkr BK1420 hg; have NB1424_1428 := zkl BK1424 hg; have NB1428_1424 := zkr BK1424 hg; replace HO2 := Aside0.mk (Kd.V_below (Kd.V_elderB (by (with_reducible repeat (first | apply Kd.V_alloc | apply Kd.V_drewN | apply Kd.V_drew)); exact HO2.out) gb1428 (Nat.le_of_eq hg.symm)) hb); replace BK1414 := zkb BK1414 hb; replace BK1415 := zkb BK1415 hb; replace BK1416 := zkb BK1416 hb; replace BK1420 := zkb BK1420 hb; replace BK1424 := zkb BK1424 hb; replace HB := zkB HB hb; have BK1428 := Aside0.mk (hbox); clear hb hbox hg; obtain ⟨_, _, _, _, _, _, _, _, _, _⟩ := zs5 NB1428_1414 NB1428_1415 NB1428_1416 NB1428_1420 NB1428_1424; obtain ⟨z62_0, z62_1, z62_2, f62_0, f62_1, f62_2⟩ := zq3 BK1428; obtain ⟨z63_0, z63_1, z63_2, f63_0, f63_1, f63_2⟩ := zq3 BK1420) | (go_at_call 116; (with_reducible refine (flyballref16_le.calls k t1418 t1426 t1429 _ A31.out).mono ?_); rintro e w' ⟨rfl, ⟨nd, rfl⟩⟩; (try first | exact ⟨rfl, _, World.drewN_drewN _ _ _⟩ | exact ⟨rfl, _, Eq.trans (World.drewN_drewN _ _ _) (congrArg (World.drewN _) (Nat.add_assoc _ _ _))⟩))))
 (try simp only [Act.put, List.setIfInBounds_toArray, List.set_cons_zero, List.set_cons_succ])
 go_cut [] (fun wc => ∃ (kq : Nat) (x1429001_31 : Int), Aside0 (flyballref16_Widen.j1 kq l2 false t1418 t1419 t1425 x1429001_31 t1427 = some (r1, r2, r3)) ∧ Aside0 (kq ≤ k) ∧ Aside0 (Kd.V (Kd.int .u64) 23 wc w.heap.size (fun k_ => (P2_ k_ ∨ w.heap.size ≤ k_) ∧ k_ ≠ gb1414 ∧ k_ ≠ gb1415 ∧ k_ ≠ gb1416 ∧ k_ ≠ gb1420 ∧ k_ ≠ gb1424 ∧ k_ ≠ gb1428) (.slice A2 l2.length c2) l2) ∧ Aside0 (wc.heap[gb1414]? = some (.cells #[.bool a0_0, .int .u64 a0_1, .int .u64 a0_2] 43 (0, 0))) ∧ Aside0 (wc.heap[gb1415]? = some (.cells #[.bool a1_0, .int .u64 a1_1, .int .u64 a1_2] 43 (0, 0))) ∧ Aside0 (wc.heap[gb1416]? = some (.cells #[.bool false, .int .u64 0, .int .u64 0] 43 (0, 0))) ∧ Aside0 (wc.heap[gb1420]? = some (.cells #[.bool false, .int .u64 t1418, .int .u64 t1419] 43 (0, 0))) ∧ Aside0 (wc.heap[gb1424]? = some (.cells #[.bool t1421, .int .u64 t1422, .int .u64 t1423] 43 (0, 0))) ∧ Aside0 (wc.heap[gb1428]? = some (.cells #[.bool t1425, .int .u64 x1429001_31, .int .u64 t1427] 43 (0, 0))) ∧ Aside0 (Below w.heap.size w wc))
 case first =>
  have H := HC32.out
  clear HC32
  by_cases c64 : t1429 = true
  ·subst c64
   replace H := zit H
   have H' := Aside0.mk H
   clear H
   go_wp2
   repeat (go_quiet (fail); try go_wp2)
   go_meet
   case rel => exact ⟨_, (t1426), H', ⟨zle⟩, ⟨by (with_reducible repeat (first | apply Kd.V_alloc | apply Kd.V_drewN | apply Kd.V_drew)); exact Kd.V_mono (Kd.V_far (p := ⟨gb1428, 2, none⟩) (Kd.V_far (p := ⟨gb1428, 1, none⟩) (Kd.V_far (p := ⟨gb1428, 0, none⟩) (Kd.V_mono HO2.out (fun k_ hk => (⟨hk, hk.2⟩ : _ ∧ k_ ≠ gb1428))) (fun _ hk => hk.2) (.bool t1425)) (fun _ hk => hk.2) (.int .u64 t1426)) (fun _ hk => hk.2) (.int .u64 t1427)) (fun _ hk => ⟨hk.1.1.1.1.1.1.1, ⟨hk.1.1.1.1.1.1.2, ⟨hk.1.1.1.1.1.2, ⟨hk.1.1.1.1.2, ⟨hk.1.1.1.2, ⟨hk.1.1.2, hk.1.2⟩⟩⟩⟩⟩⟩)⟩, ⟨(zkf (zkf (zkf (zkq BK1414) NB1414_1428.out _) NB1414_1428.out _) NB1414_1428.out _)⟩, ⟨(zkf (zkf (zkf (zkq BK1415) NB1415_1428.out _) NB1415_1428.out _) NB1415_1428.out _)⟩, ⟨(zkf (zkf (zkf (zkq BK1416) NB1416_1428.out _) NB1416_1428.out _) NB1416_1428.out _)⟩, ⟨(zkf (zkf (zkf (zkq BK1420) NB1420_1428.out _) NB1420_1428.out _) NB1420_1428.out _)⟩, ⟨(zkf (zkf (zkf (zkq BK1424) NB1424_1428.out _) NB1424_1428.out _) NB1424_1428.out _)⟩, ⟨(blk_put (cs := #[.bool t1425, .int .u64 t1426, .int .u64 0]) (blk_put (cs := #[.bool t1425, .int .u64 0, .int .u64 0]) (blk_put (zkq BK1428) 0 _ rfl) 1 _ rfl) 2 _ rfl)⟩, ⟨zaB⟩⟩
  replace c64 := Bool.eq_false_iff.mpr c64
  subst c64
  replace H := zif H
  have H' := Aside0.mk H
  clear H
  go_wp2
  repeat (go_quiet (fail); try go_wp2)
  (try simp only [Act.put, List.setIfInBounds_toArray, List.set_cons_zero, List.set_cons_succ])
  go_loopg [10, 11] k (fun kq v10 v11 w' => ∃ (x10_1 : Int) (x11_1 : Int), v10 = .int .u64 x10_1 ∧ v11 = .int .i64 x11_1 ∧ Aside0 (flyballref16_Widen.l0 kq l2 x10_1 x11_1 false t1418 t1419 t1425 t1426 t1427 = some (r1, r2, r3)) ∧ Aside0 (kq ≤ k) ∧ Aside0 (Kd.V (Kd.int .u64) 23 w' w.heap.size (fun k_ => (P2_ k_ ∨ w.heap.size ≤ k_) ∧ k_ ≠ gb1414 ∧ k_ ≠ gb1415 ∧ k_ ≠ gb1416 ∧ k_ ≠ gb1420 ∧ k_ ≠ gb1424 ∧ k_ ≠ gb1428) (.slice A2 l2.length c2) l2) ∧ Aside0 (w'.heap[gb1414]? = some (.cells #[.bool a0_0, .int .u64 a0_1, .int .u64 a0_2] 43 (0, 0))) ∧ Aside0 (w'.heap[gb1415]? = some (.cells #[.bool a1_0, .int .u64 a1_1, .int .u64 a1_2] 43 (0, 0))) ∧ Aside0 (w'.heap[gb1416]? = some (.cells #[.bool false, .int .u64 0, .int .u64 0] 43 (0, 0))) ∧ Aside0 (w'.heap[gb1420]? = some (.cells #[.bool false, .int .u64 t1418, .int .u64 t1419] 43 (0, 0))) ∧ Aside0 (w'.heap[gb1424]? = some (.cells #[.bool t1421, .int .u64 t1422, .int .u64 t1423] 43 (0, 0))) ∧ Aside0 (w'.heap[gb1428]? = some (.cells #[.bool t1425, .int .u64 t1426, .int .u64 t1427] 43 (0, 0))) ∧ Aside0 (Below w.heap.size w w'))
  case atStart => exact ⟨(18442240474082181120), (0), zrl, zrl, H', ⟨Nat.le_refl _⟩, ⟨by (with_reducible repeat (first | apply Kd.V_alloc | apply Kd.V_drewN | apply Kd.V_drew)); exact Kd.V_mono (Kd.V_far (p := ⟨gb1428, 2, none⟩) (Kd.V_far (p := ⟨gb1428, 1, none⟩) (Kd.V_far (p := ⟨gb1428, 0, none⟩) (Kd.V_mono HO2.out (fun k_ hk => (⟨hk, hk.2⟩ : _ ∧ k_ ≠ gb1428))) (fun _ hk => hk.2) (.bool t1425)) (fun _ hk => hk.2) (.int .u64 t1426)) (fun _ hk => hk.2) (.int .u64 t1427)) (fun _ hk => ⟨hk.1.1.1.1.1.1.1, ⟨hk.1.1.1.1.1.1.2, ⟨hk.1.1.1.1.1.2, ⟨hk.1.1.1.1.2, ⟨hk.1.1.1.2, ⟨hk.1.1.2, hk.1.2⟩⟩⟩⟩⟩⟩)⟩, ⟨(zkf (zkf (zkf (zkq BK1414) NB1414_1428.out _) NB1414_1428.out _) NB1414_1428.out _)⟩, ⟨(zkf (zkf (zkf (zkq BK1415) NB1415_1428.out _) NB1415_1428.out _) NB1415_1428.out _)⟩, ⟨(zkf (zkf (zkf (zkq BK1416) NB1416_1428.out _) NB1416_1428.out _) NB1416_1428.out _)⟩, ⟨(zkf (zkf (zkf (zkq BK1420) NB1420_1428.out _) NB1420_1428.out _) NB1420_1428.out _)⟩, ⟨(zkf (zkf (zkf (zkq BK1424) NB1424_1428.out _) NB1424_1428.out _) NB1424_1428.out _)⟩, ⟨(blk_put (cs := #[.bool t1425, .int .u64 t1426, .int .u64 0]) (blk_put (cs := #[.bool t1425, .int .u64 0, .int .u64 0]) (blk_put (zkq BK1428) 0 _ rfl) 1 _ rfl) 2 _ rfl)⟩, ⟨zaB⟩⟩
  case round =>
   clear H'
   try clear c1
   try clear c2
   try clear p2
   try clear c3
   try clear c4
   try clear c5
   try clear c6
   try clear c10
   try clear c11
   try clear c15
   try clear c16
   try clear c17
   try clear c19
   try clear c23
   try clear c24
   try clear c25
   try clear c26
   try clear c36
   try clear c37
   try clear c41
   try clear c42
   try clear c43
   try clear c45
   try clear c49
   try clear c50
   try clear c51
   try clear c52
   try clear c56
   try clear c57
   try clear c58
   try clear c59
   try clear c60
   try clear c61
   try clear c64
   try clear z12_0 z12_1 z12_2 f12_0 f12_1 f12_2
   try clear z18_0 z18_1 z18_2 f18_0 f18_1 f18_2
   try clear z20_0 z20_1 z20_2 f20_0 f20_1 f20_2
   try clear z27_0 z27_1 z27_2 f27_0 f27_1 f27_2
   try clear z28_0 z28_1 z28_2 f28_0 f28_1 f28_2
   try clear z29_0 z29_1 z29_2 f29_0 f29_1 f29_2
   try clear z38_0 z38_1 z38_2 f38_0 f38_1 f38_2
   try clear z44_0 z44_1 z44_2 f44_0 f44_1 f44_2
   try clear z46_0 z46_1 z46_2 f46_0 f46_1 f46_2
   try clear z53_0 z53_1 z53_2 f53_0 f53_1 f53_2
   try clear z54_0 z54_1 z54_2 f54_0 f54_1 f54_2
   try clear z62_0 z62_1 z62_2 f62_0 f62_1 f62_2
   try clear z63_0 z63_1 z63_2 f63_0 f63_1 f63_2
   obtain ⟨x10_1, x11_1, rfl, rfl, HA, HK1, HO_2, BK1414, BK1415, BK1416, BK1420, BK1424, BK1428, HB⟩ := hrel
   cases gk with
   | zero => exact absurd HA.out (by simp [flyballref16_Widen.l0])
   | succ k1 =>
    have H := HA.out
    clear HA
    simp only [flyballref16_Widen.l0] at H
    by_cases c65 : x11_1 < (l2.length : Int)
    ·rw [if_pos c65] at H
     have c65b0 : decide (x11_1 < (l2.length : Int)) = true := decide_eq_true c65
     clear c65
     (first | rw [c65b0] | (simp only [i64_w, i32_w]; rw [c65b0]) | skip)
     by_cases c66 : 0 ≤ x11_1
     ·rw [if_pos c66] at H
      have c66b0 : decide (0 ≤ x11_1) = true := decide_eq_true c66
      clear c66
      obtain ⟨t1431, A67, H⟩ := zbs H
      try dsimp only at H
      by_cases c68 : t1431 = true
      ·subst c68
       replace H := zit H
       obtain ⟨t1433, A69, H⟩ := zbs H
       try dsimp only at H
       by_cases c70 : t1433 = true
       ·subst c70
        replace H := zit H
        have H' := Aside0.mk H
        clear H
        have p1430 : 0 ≤ (x11_1 : Int) := of_decide_eq_true (by first | (with_reducible assumption) | assumption)
        have q1430 : x11_1 < (l2.length : Int) := of_decide_eq_true (by first | (with_reducible assumption) | assumption)
        obtain ⟨ad1430, e1430, hx1430_0⟩ := Kd.at_int (Kd.V_reads' HO_2.out).2.2 x11_1 p1430 q1430
        cases e1430
        replace p1430 := eq_true p1430
        replace q1430 := eq_true q1430
        obtain ⟨_, _, _, _, _, _, _, _, _, _⟩ := zs5 NB1428_1414 NB1428_1415 NB1428_1416 NB1428_1420 NB1428_1424
        obtain ⟨z76_0, z76_1, z76_2, f76_0, f76_1, f76_2⟩ := zq3 BK1428
        go_wp2_with (first | (go_at_call 116; (with_reducible refine (flyballref16_le.calls k1 (rd l2 x11_1) t1426 true _ A67.out).mono ?_); rintro e w' ⟨rfl, ⟨nd, rfl⟩⟩; (try first | exact ⟨rfl, _, World.drewN_drewN _ _ _⟩ | exact ⟨rfl, _, Eq.trans (World.drewN_drewN _ _ _) (congrArg (World.drewN _) (Nat.add_assoc _ _ _))⟩); have p1432 : 0 ≤ (x11_1 : Int) := of_decide_eq_true (by first | (with_reducible assumption) | assumption); have q1432 : x11_1 < (l2.length : Int) := of_decide_eq_true (by first | (with_reducible assumption) | assumption); obtain ⟨ad1432, e1432, hx1432_0⟩ := Kd.at_int (Kd.V_reads' HO_2.out).2.2 x11_1 p1432 q1432; obtain rfl : ad1430 = ad1432 := (by injection e1432); replace p1432 := eq_true p1432; replace q1432 := eq_true q1432) | (go_at_call 116; (with_reducible refine (flyballref16_le.calls k1 x10_1 (rd l2 x11_1) true _ A69.out).mono ?_); rintro e w' ⟨rfl, ⟨nd, rfl⟩⟩; (try first | exact ⟨rfl, _, World.drewN_drewN _ _ _⟩ | exact ⟨rfl, _, Eq.trans (World.drewN_drewN _ _ _) (congrArg (World.drewN _) (Nat.add_assoc _ _ _))⟩); have p1434 : 0 ≤ (x11_1 : Int) := of_decide_eq_true (by first | (with_reducible assumption) | assumption); have q1434 : x11_1 < (l2.length : Int) := of_decide_eq_true (by first | (with_reducible assumption) | assumption); obtain ⟨ad1434, e1434, hx1434_0⟩ := Kd.at_int (Kd.V_reads' HO_2.out).2.2 x11_1 p1434 q1434; obtain rfl : ad1430 = ad1434 := (by injection e1434); replace p1434 := eq_true p1434; replace q1434 := eq_true q1434))
        repeat (go_quiet (first | (go_at_call 116; (with_reducible refine (flyballref16_le.calls k1 (rd l2 x11_1) t1426 true _ A67.out).mono ?_); rintro e w' ⟨rfl, ⟨nd, rfl⟩⟩; (try first | exact ⟨rfl, _, World.drewN_drewN _ _ _⟩ | exact ⟨rfl, _, Eq.trans (World.drewN_drewN _ _ _) (congrArg (World.drewN _) (Nat.add_assoc _ _ _))⟩); have p1432 : 0 ≤ (x11_1 : Int) := of_decide_eq_true (by first | (with_reducible assumption) | assumption); have q1432 : x11_1 < (l2.length : Int) := of_decide_eq_true (by first | (with_reducible assumption) | assumption); obtain ⟨ad1432, e1432, hx1432_0⟩ := Kd.at_int (Kd.V_reads' HO_2.out).2.2 x11_1 p1432 q1432; obtain rfl : ad1430 = ad1432 := (by injection e1432); replace p1432 := eq_true p1432; replace q1432 := eq_true q1432) | (go_at_call 116; (with_reducible refine (flyballref16_le.calls k1 x10_1 (rd l2 x11_1) true _ A69.out).mono ?_); rintro e w' ⟨rfl, ⟨nd, rfl⟩⟩; (try first | exact ⟨rfl, _, World.drewN_drewN _ _ _⟩ | exact ⟨rfl, _, Eq.trans (World.drewN_drewN _ _ _) (congrArg (World.drewN _) (Nat.add_assoc _ _ _))⟩); have p1434 : 0 ≤ (x11_1 : Int) := of_decide_eq_true (by first | (with_reducible assumption) | assumption); have q1434 : x11_1 < (l2.length : Int) := of_decide_eq_true (by first | (with_reducible assumption) | assumption); obtain ⟨ad1434, e1434, hx1434_0⟩ := Kd.at_int (Kd.V_reads' HO_2.out).2.2 x11_1 p1434 q1434; obtain rfl : ad1430 = ad1434 := (by injection e1434); replace p1434 := eq_true p1434; replace q1434 := eq_true q1434)); try go_wp2_with (first | (go_at_call 116; (with_reducible refine (flyballref16_le.calls k1 (rd l2 x11_1) t1426 true _ A67.out).mono ?_); rintro e w' ⟨rfl, ⟨nd, rfl⟩⟩; (try first | exact ⟨rfl, _, World.drewN_drewN _ _ _⟩ | exact ⟨rfl, _, Eq.trans (World.drewN_drewN _ _ _) (congrArg (World.drewN _) (Nat.add_assoc _ _ _))⟩); have p1432 : 0 ≤ (x11_1 : Int) := of_decide_eq_true (by first | (with_reducible assumption) | assumption); have q1432 : x11_1 < (l2.length : Int) := of_decide_eq_true (by first | (with_reducible assumption) | assumption); obtain ⟨ad1432, e1432, hx1432_0⟩ := Kd.at_int (Kd.V_reads' HO_2.out).2.2 x11_1 p1432 q1432; obtain rfl : ad1430 = ad1432 := (by injection e1432); replace p1432 := eq_true p1432; replace q1432 := eq_true q1432) | (go_at_call 116; (with_reducible refine (flyballref16_le.calls k1 x10_1 (rd l2 x11_1) true _ A69.out).mono ?_); rintro e w' ⟨rfl, ⟨nd, rfl⟩⟩; (try first | exact ⟨rfl, _, World.drewN_drewN _ _ _⟩ | exact ⟨rfl, _, Eq.trans (World.drewN_drewN _ _ _) (congrArg (World.drewN _) (Nat.add_assoc _ _ _))⟩); have p1434 : 0 ≤ (x11_1 : Int) := of_decide_eq_true (by first | (with_reducible assumption) | assumption); have q1434 : x11_1 < (l2.length : Int) := of_decide_eq_true (by first | (with_reducible assumption) | assumption); obtain ⟨ad1434, e1434, hx1434_0⟩ := Kd.at_int (Kd.V_reads' HO_2.out).2.2 x11_1 p1434 q1434; obtain rfl : ad1430 = ad1434 := (by injection e1434); replace p1434 := eq_true p1434; replace q1434 := eq_true q1434)))
        go_roundg k1
        case measure => have := HK1.out; omega
        case rel => exact ⟨(rd l2 x11_1), (wrap64 (x11_1 + 1)), zrl, zrl, H', ⟨by have := HK1.out; omega⟩, ⟨by (with_reducible repeat (first | apply Kd.V_alloc | apply Kd.V_drewN | apply Kd.V_drew)); exact HO_2.out⟩, ⟨zkq BK1414⟩, ⟨zkq BK1415⟩, ⟨zkq BK1416⟩, ⟨zkq BK1420⟩, ⟨zkq BK1424⟩, ⟨zkq BK1428⟩, ⟨zaB⟩⟩
       replace c70 := Bool.eq_false_iff.mpr c70
       subst c70
       replace H := zif H
       have H' := Aside0.mk H
       clear H
       have p1430 : 0 ≤ (x11_1 : Int) := of_decide_eq_true (by first | (with_reducible assumption) | assumption)
       have q1430 : x11_1 < (l2.length : Int) := of_decide_eq_true (by first | (with_reducible assumption) | assumption)
       obtain ⟨ad1430, e1430, hx1430_0⟩ := Kd.at_int (Kd.V_reads' HO_2.out).2.2 x11_1 p1430 q1430
       cases e1430
       replace p1430 := eq_true p1430
       replace q1430 := eq_true q1430
       obtain ⟨_, _, _, _, _, _, _, _, _, _⟩ := zs5 NB1428_1414 NB1428_1415 NB1428_1416 NB1428_1420 NB1428_1424
       obtain ⟨z82_0, z82_1, z82_2, f82_0, f82_1, f82_2⟩ := zq3 BK1428
       go_wp2_with (first | (go_at_call 116; (with_reducible refine (flyballref16_le.calls k1 (rd l2 x11_1) t1426 true _ A67.out).mono ?_); rintro e w' ⟨rfl, ⟨nd, rfl⟩⟩; (try first | exact ⟨rfl, _, World.drewN_drewN _ _ _⟩ | exact ⟨rfl, _, Eq.trans (World.drewN_drewN _ _ _) (congrArg (World.drewN _) (Nat.add_assoc _ _ _))⟩); have p1432 : 0 ≤ (x11_1 : Int) := of_decide_eq_true (by first | (with_reducible assumption) | assumption); have q1432 : x11_1 < (l2.length : Int) := of_decide_eq_true (by first | (with_reducible assumption) | assumption); obtain ⟨ad1432, e1432, hx1432_0⟩ := Kd.at_int (Kd.V_reads' HO_2.out).2.2 x11_1 p1432 q1432; obtain rfl : ad1430 = ad1432 := (by injection e1432); replace p1432 := eq_true p1432; replace q1432 := eq_true q1432) | (go_at_call 116; (with_reducible refine (flyballref16_le.calls k1 x10_1 (rd l2 x11_1) false _ A69.out).mono ?_); rintro e w' ⟨rfl, ⟨nd, rfl⟩⟩; (try first | exact ⟨rfl, _, World.drewN_drewN _ _ _⟩ | exact ⟨rfl, _, Eq.trans (World.drewN_drewN _ _ _) (congrArg (World.drewN _) (Nat.add_assoc _ _ _))⟩)))
       repeat (go_quiet (first | (go_at_call 116; (with_reducible refine (flyballref16_le.calls k1 (rd l2 x11_1) t1426 true _ A67.out).mono ?_); rintro e w' ⟨rfl, ⟨nd, rfl⟩⟩; (try first | exact ⟨rfl, _, World.drewN_drewN _ _ _⟩ | exact ⟨rfl, _, Eq.trans (World.drewN_drewN _ _ _) (congrArg (World.drewN _) (Nat.add_assoc _ _ _))⟩); have p1432 : 0 ≤ (x11_1 : Int) := of_decide_eq_true (by first | (with_reducible assumption) | assumption); have q1432 : x11_1 < (l2.length : Int) := of_decide_eq_true (by first | (with_reducible assumption) | assumption); obtain ⟨ad1432, e1432, hx1432_0⟩ := Kd.at_int (Kd.V_reads' HO_2.out).2.2 x11_1 p1432 q1432; obtain rfl : ad1430 = ad1432 := (by injection e1432); replace p1432 := eq_true p1432; replace q1432 := eq_true q1432) | (go_at_call 116; (with_reducible refine (flyballref16_le.calls k1 x10_1 (rd l2 x11_1) false _ A69.out).mono ?_); rintro e w' ⟨rfl, ⟨nd, rfl⟩⟩; (try first | exact ⟨rfl, _, World.drewN_drewN _ _ _⟩ | exact ⟨rfl, _, Eq.trans (World.drewN_drewN _ _ _) (congrArg (World.drewN _) (Nat.add_assoc _ _ _))⟩))); try go_wp2_with (first | (go_at_call 116; (with_reducible refine (flyballref16_le.calls k1 (rd l2 x11_1) t1426 true _ A67.out).mono ?_); rintro e w' ⟨rfl, ⟨nd, rfl⟩⟩; (try first | exact ⟨rfl, _, World.drewN_drewN _ _ _⟩ | exact ⟨rfl, _, Eq.trans (World.drewN_drewN _ _ _) (congrArg (World.drewN _) (Nat.add_assoc _ _ _))⟩); have p1432 : 0 ≤ (x11_1 : Int) := of_decide_eq_true (by first | (with_reducible assumption) | assumption); have q1432 : x11_1 < (l2.length : Int) := of_decide_eq_true (by first | (with_reducible assumption) | assumption); obtain ⟨ad1432, e1432, hx1432_0⟩ := Kd.at_int (Kd.V_reads' HO_2.out).2.2 x11_1 p1432 q1432; obtain rfl : ad1430 = ad1432 := (by injection e1432); replace p1432 := eq_true p1432; replace q1432 := eq_true q1432) | (go_at_call 116; (with_reducible refine (flyballref16_le.calls k1 x10_1 (rd l2 x11_1) false _ A69.out).mono ?_); rintro e w' ⟨rfl, ⟨nd, rfl⟩⟩; (try first | exact ⟨rfl, _, World.drewN_drewN _ _ _⟩ | exact ⟨rfl, _, Eq.trans (World.drewN_drewN _ _ _) (congrArg (World.drewN _) (Nat.add_assoc _ _ _))⟩))))
       go_roundg k1
       case measure => have := HK1.out; omega
       case rel => exact ⟨(x10_1), (wrap64 (x11_1 + 1)), zrl, zrl, H', ⟨by have := HK1.out; omega⟩, ⟨by (with_reducible repeat (first | apply Kd.V_alloc | apply Kd.V_drewN | apply Kd.V_drew)); exact HO_2.out⟩, ⟨zkq BK1414⟩, ⟨zkq BK1415⟩, ⟨zkq BK1416⟩, ⟨zkq BK1420⟩, ⟨zkq BK1424⟩, ⟨zkq BK1428⟩, ⟨zaB⟩⟩
      replace c68 := Bool.eq_false_iff.mpr c68
      subst c68
      replace H := zif H
      have H' := Aside0.mk H
      clear H
      have p1430 : 0 ≤ (x11_1 : Int) := of_decide_eq_true (by first | (with_reducible assumption) | assumption)
      have q1430 : x11_1 < (l2.length : Int) := of_decide_eq_true (by first | (with_reducible assumption) | assumption)
      obtain ⟨ad1430, e1430, hx1430_0⟩ := Kd.at_int (Kd.V_reads' HO_2.out).2.2 x11_1 p1430 q1430
      cases e1430
      replace p1430 := eq_true p1430
      replace q1430 := eq_true q1430
      obtain ⟨_, _, _, _, _, _, _, _, _, _⟩ := zs5 NB1428_1414 NB1428_1415 NB1428_1416 NB1428_1420 NB1428_1424
      obtain ⟨z88_0, z88_1, z88_2, f88_0, f88_1, f88_2⟩ := zq3 BK1428
      go_wp2_with (first | (go_at_call 116; (with_reducible refine (flyballref16_le.calls k1 (rd l2 x11_1) t1426 false _ A67.out).mono ?_); rintro e w' ⟨rfl, ⟨nd, rfl⟩⟩; (try first | exact ⟨rfl, _, World.drewN_drewN _ _ _⟩ | exact ⟨rfl, _, Eq.trans (World.drewN_drewN _ _ _) (congrArg (World.drewN _) (Nat.add_assoc _ _ _))⟩)))
      repeat (go_quiet (first | (go_at_call 116; (with_reducible refine (flyballref16_le.calls k1 (rd l2 x11_1) t1426 false _ A67.out).mono ?_); rintro e w' ⟨rfl, ⟨nd, rfl⟩⟩; (try first | exact ⟨rfl, _, World.drewN_drewN _ _ _⟩ | exact ⟨rfl, _, Eq.trans (World.drewN_drewN _ _ _) (congrArg (World.drewN _) (Nat.add_assoc _ _ _))⟩))); try go_wp2_with (first | (go_at_call 116; (with_reducible refine (flyballref16_le.calls k1 (rd l2 x11_1) t1426 false _ A67.out).mono ?_); rintro e w' ⟨rfl, ⟨nd, rfl⟩⟩; (try first | exact ⟨rfl, _, World.drewN_drewN _ _ _⟩ | exact ⟨rfl, _, Eq.trans (World.drewN_drewN _ _ _) (congrArg (World.drewN _) (Nat.add_assoc _ _ _))⟩))))
      go_roundg k1
      case measure => have := HK1.out; omega
      case rel => exact ⟨(x10_1), (wrap64 (x11_1 + 1)), zrl, zrl, H', ⟨by have := HK1.out; omega⟩, ⟨by (with_reducible repeat (first | apply Kd.V_alloc | apply Kd.V_drewN | apply Kd.V_drew)); exact HO_2.out⟩, ⟨zkq BK1414⟩, ⟨zkq BK1415⟩, ⟨zkq BK1416⟩, ⟨zkq BK1420⟩, ⟨zkq BK1424⟩, ⟨zkq BK1428⟩, ⟨zaB⟩⟩
     rw [if_neg c66] at H
     exact absurd H (by simp)
    rw [if_neg c65] at H
    have c65b0 : decide (x11_1 < (l2.length : Int)) = false := decide_eq_false c65
    clear c65
    (first | rw [c65b0] | (simp only [i64_w, i32_w]; rw [c65b0]) | skip)
    have H' := Aside0.mk H
    clear H
    obtain ⟨_, _, _, _, _, _, _, _, _, _⟩ := zs5 NB1428_1414 NB1428_1415 NB1428_1416 NB1428_1420 NB1428_1424
    obtain ⟨z94_0, z94_1, z94_2, f94_0, f94_1, f94_2⟩ := zq3 BK1428
    go_wp2
    repeat (go_quiet (fail); try go_wp2)
    go_meet
    case rel => exact ⟨_, (x10_1), H', ⟨by have := HK1.out; first | omega | exact Nat.le_refl _⟩, ⟨by (with_reducible repeat (first | apply Kd.V_alloc | apply Kd.V_drewN | apply Kd.V_drew)); exact Kd.V_mono (Kd.V_far (p := ⟨gb1428, 1, none⟩) (Kd.V_mono HO_2.out (fun k_ hk => (⟨hk, hk.2.2.2.2.2.2⟩ : _ ∧ k_ ≠ gb1428))) (fun _ hk => hk.2) (.int .u64 x10_1)) (fun _ hk => ⟨hk.1.1, ⟨hk.1.2.1, ⟨hk.1.2.2.1, ⟨hk.1.2.2.2.1, ⟨hk.1.2.2.2.2.1, ⟨hk.1.2.2.2.2.2.1, hk.1.2.2.2.2.2.2⟩⟩⟩⟩⟩⟩)⟩, ⟨(zkf (zkq BK1414) NB1414_1428.out _)⟩, ⟨(zkf (zkq BK1415) NB1415_1428.out _)⟩, ⟨(zkf (zkq BK1416) NB1416_1428.out _)⟩, ⟨(zkf (zkq BK1420) NB1420_1428.out _)⟩, ⟨(zkf (zkq BK1424) NB1424_1428.out _)⟩, ⟨(blk_put (zkq BK1428) 1 _ rfl)⟩, ⟨zaB⟩⟩
 case rest =>
  clear HC32
  try clear c1
  try clear p1
  try clear q1
  try clear hx1
  try clear c2
  try clear p2
  try clear c3
  try clear c4
  try clear c5
  try clear c6
  try clear p6
  try clear c7
  try clear c8
  try clear c9
  try clear c10
  try clear c11
  try clear p14
  try clear q14
  try clear hx14
  try clear c15
  try clear c16
  try clear c17
  try clear c19
  try clear c23
  try clear c24
  try clear c25
  try clear c26
  try clear c36
  try clear c37
  try clear c41
  try clear c42
  try clear c43
  try clear c45
  try clear c49
  try clear c50
  try clear c51
  try clear c52
  try clear c56
  try clear c57
  try clear c58
  try clear c59
  try clear c60
  try clear c61
  try clear c64
  try clear p64
  try clear c65
  try clear c65b0
  try clear c66
  try clear c66b0
  try clear c68
  try clear c70
  try clear c71
  try clear c72
  try clear c73
  try clear c74
  try clear c75
  try clear c77
  try clear c78
  try clear c79
  try clear c80
  try clear c81
  try clear c83
  try clear c84
  try clear c85
  try clear c86
  try clear c87
  try clear c89
  try clear c90
  try clear c91
  try clear c92
  try clear c93
  try clear z12_0 z12_1 z12_2 f12_0 f12_1 f12_2
  try clear z18_0 z18_1 z18_2 f18_0 f18_1 f18_2
  try clear z20_0 z20_1 z20_2 f20_0 f20_1 f20_2
  try clear z27_0 z27_1 z27_2 f27_0 f27_1 f27_2
  try clear z28_0 z28_1 z28_2 f28_0 f28_1 f28_2
  try clear z29_0 z29_1 z29_2 f29_0 f29_1 f29_2
  try clear z38_0 z38_1 z38_2 f38_0 f38_1 f38_2
  try clear z44_0 z44_1 z44_2 f44_0 f44_1 f44_2
  try clear z46_0 z46_1 z46_2 f46_0 f46_1 f46_2
  try clear z53_0 z53_1 z53_2 f53_0 f53_1 f53_2
  try clear z54_0 z54_1 z54_2 f54_0 f54_1 f54_2
  try clear z62_0 z62_1 z62_2 f62_0 f62_1 f62_2
  try clear z63_0 z63_1 z63_2 f63_0 f63_1 f63_2
  try clear z76_0 z76_1 z76_2 f76_0 f76_1 f76_2
  try clear z82_0 z82_1 z82_2 f82_0 f82_1 f82_2
  try clear z88_0 z88_1 z88_2 f88_0 f88_1 f88_2
  try clear z94_0 z94_1 z94_2 f94_0 f94_1 f94_2
  try clear hx1430_0
  try clear hx1432_0
  try clear hx1434_0
  try clear p1430
  try clear p1432
  try clear p1434
  try clear p2
  try clear q1430
  try clear q1432
  try clear q1434
  obtain ⟨kq, x1429001_31, HA, HJ31, HO_2, BK1414, BK1415, BK1416, BK1420, BK1424, BK1428, HB⟩ := hcut
  cases kq with
  | zero => exact absurd HA.out (by simp [flyballref16_Widen.j1])
  | succ kj31 =>
   have H := HA.out
   clear HA
   simp only [flyballref16_Widen.j1] at H
   obtain ⟨t1435, A95, H⟩ := zbs H
   try dsimp only at H
   by_cases c96 : t1435 = true
   ·subst c96
    replace H := zit H
    obtain ⟨⟨t1436, t1437, t1438⟩, A97, H⟩ := zbs H
    try dsimp only at H
    simp only [Option.some.injEq, Prod.mk.injEq] at H
    obtain ⟨rfl, rfl, rfl⟩ := H
    obtain ⟨_, _, _, _, _, _, _, _, _, _⟩ := zs5 NB1428_1414 NB1428_1415 NB1428_1416 NB1428_1420 NB1428_1424
    obtain ⟨z103_0, z103_1, z103_2, f103_0, f103_1, f103_2⟩ := zq3 BK1428
    obtain ⟨_, _, _, _, _, _, _, _⟩ := zs4 NB1420_1414 NB1420_1415 NB1420_1416 NB1420_1424
    obtain ⟨z108_0, z108_1, z108_2, f108_0, f108_1, f108_2⟩ := zq3 BK1420
    go_wp2_with (first | (go_at_call 116; (with_reducible refine (flyballref16_le.calls kj31 t1427 t1419 true _ A95.out).mono ?_); rintro e w' ⟨rfl, ⟨nd, rfl⟩⟩; (try first | exact ⟨rfl, _, World.drewN_drewN _ _ _⟩ | exact ⟨rfl, _, Eq.trans (World.drewN_drewN _ _ _) (congrArg (World.drewN _) (Nat.add_assoc _ _ _))⟩)) | (go_at_call 49; (with_reducible refine (flyballref16_Norm.calls kj31 t1425 x1429001_31 t1427 t1436 t1437 t1438 _ A97.out).mono ?_); rintro e w109 ⟨rfl, hb⟩; replace HO_2 := Aside0.mk (Kd.V_below (by (with_reducible repeat (first | apply Kd.V_alloc | apply Kd.V_drewN | apply Kd.V_drew)); exact HO_2.out) hb); replace BK1414 := zkb BK1414 hb; replace BK1415 := zkb BK1415 hb; replace BK1416 := zkb BK1416 hb; replace BK1420 := zkb BK1420 hb; replace BK1424 := zkb BK1424 hb; replace BK1428 := zkb BK1428 hb; replace HB := zkB HB hb; (try clear hb); (try clear hk); obtain ⟨_, _, _, _, _, _⟩ := zs3 NB1416_1414 NB1416_1415 NB1416_1424; obtain ⟨z113_0, z113_1, z113_2, f113_0, f113_1, f113_2⟩ := zq3 BK1416))
    repeat (go_quiet (first | (go_at_call 116; (with_reducible refine (flyballref16_le.calls kj31 t1427 t1419 true _ A95.out).mono ?_); rintro e w' ⟨rfl, ⟨nd, rfl⟩⟩; (try first | exact ⟨rfl, _, World.drewN_drewN _ _ _⟩ | exact ⟨rfl, _, Eq.trans (World.drewN_drewN _ _ _) (congrArg (World.drewN _) (Nat.add_assoc _ _ _))⟩)) | (go_at_call 49; (with_reducible refine (flyballref16_Norm.calls kj31 t1425 x1429001_31 t1427 t1436 t1437 t1438 _ A97.out).mono ?_); rintro e w109 ⟨rfl, hb⟩; replace HO_2 := Aside0.mk (Kd.V_below (by (with_reducible repeat (first | apply Kd.V_alloc | apply Kd.V_drewN | apply Kd.V_drew)); exact HO_2.out) hb); replace BK1414 := zkb BK1414 hb; replace BK1415 := zkb BK1415 hb; replace BK1416 := zkb BK1416 hb; replace BK1420 := zkb BK1420 hb; replace BK1424 := zkb BK1424 hb; replace BK1428 := zkb BK1428 hb; replace HB := zkB HB hb; (try clear hb); (try clear hk); obtain ⟨_, _, _, _, _, _⟩ := zs3 NB1416_1414 NB1416_1415 NB1416_1424; obtain ⟨z113_0, z113_1, z113_2, f113_0, f113_1, f113_2⟩ := zq3 BK1416)); try go_wp2_with (first | (go_at_call 116; (with_reducible refine (flyballref16_le.calls kj31 t1427 t1419 true _ A95.out).mono ?_); rintro e w' ⟨rfl, ⟨nd, rfl⟩⟩; (try first | exact ⟨rfl, _, World.drewN_drewN _ _ _⟩ | exact ⟨rfl, _, Eq.trans (World.drewN_drewN _ _ _) (congrArg (World.drewN _) (Nat.add_assoc _ _ _))⟩)) | (go_at_call 49; (with_reducible refine (flyballref16_Norm.calls kj31 t1425 x1429001_31 t1427 t1436 t1437 t1438 _ A97.out).mono ?_); rintro e w109 ⟨rfl, hb⟩; replace HO_2 := Aside0.mk (Kd.V_below (by (with_reducible repeat (first | apply Kd.V_alloc | apply Kd.V_drewN | apply Kd.V_drew)); exact HO_2.out) hb); replace BK1414 := zkb BK1414 hb; replace BK1415 := zkb BK1415 hb; replace BK1416 := zkb BK1416 hb; replace BK1420 := zkb BK1420 hb; replace BK1424 := zkb BK1424 hb; replace BK1428 := zkb BK1428 hb; replace HB := zkB HB hb; (try clear hb); (try clear hk); obtain ⟨_, _, _, _, _, _⟩ := zs3 NB1416_1414 NB1416_1415 NB1416_1424; obtain ⟨z113_0, z113_1, z113_2, f113_0, f113_1, f113_2⟩ := zq3 BK1416)))
    refine bodyPost_ret (results_cell_row rfl _ _ gb1416 43 #[.bool t1436, .int .u64 t1437, .int .u64 t1438] (0, 0) _ rfl (blk_put (cs := #[.bool t1436, .int .u64 t1437, .int .u64 0]) (blk_put (cs := #[.bool t1436, .int .u64 0, .int .u64 0]) (blk_put (zkq BK1416) 0 _ rfl) 1 _ rfl) 2 _ rfl) Try.underlying43 rfl (by kernel_rfl)) rfl ?_
    exact ⟨zaE, zaB⟩
   replace c96 := Bool.eq_false_iff.mpr c96
   subst c96
   replace H := zif H
   have H' := Aside0.mk H
   clear H
   obtain ⟨_, _, _, _, _, _, _, _, _, _⟩ := zs5 NB1428_1414 NB1428_1415 NB1428_1416 NB1428_1420 NB1428_1424
   obtain ⟨z119_0, z119_1, z119_2, f119_0, f119_1, f119_2⟩ := zq3 BK1428
   obtain ⟨_, _, _, _, _, _, _, _⟩ := zs4 NB1420_1414 NB1420_1415 NB1420_1416 NB1420_1424
   obtain ⟨z124_0, z124_1, z124_2, f124_0, f124_1, f124_2⟩ := zq3 BK1420
   go_wp2_with (first | (go_at_call 116; (with_reducible refine (flyballref16_le.calls kj31 t1427 t1419 false _ A95.out).mono ?_); rintro e w' ⟨rfl, ⟨nd, rfl⟩⟩; (try first | exact ⟨rfl, _, World.drewN_drewN _ _ _⟩ | exact ⟨rfl, _, Eq.trans (World.drewN_drewN _ _ _) (congrArg (World.drewN _) (Nat.add_assoc _ _ _))⟩)))
   repeat (go_quiet (first | (go_at_call 116; (with_reducible refine (flyballref16_le.calls kj31 t1427 t1419 false _ A95.out).mono ?_); rintro e w' ⟨rfl, ⟨nd, rfl⟩⟩; (try first | exact ⟨rfl, _, World.drewN_drewN _ _ _⟩ | exact ⟨rfl, _, Eq.trans (World.drewN_drewN _ _ _) (congrArg (World.drewN _) (Nat.add_assoc _ _ _))⟩))); try go_wp2_with (first | (go_at_call 116; (with_reducible refine (flyballref16_le.calls kj31 t1427 t1419 false _ A95.out).mono ?_); rintro e w' ⟨rfl, ⟨nd, rfl⟩⟩; (try first | exact ⟨rfl, _, World.drewN_drewN _ _ _⟩ | exact ⟨rfl, _, Eq.trans (World.drewN_drewN _ _ _) (congrArg (World.drewN _) (Nat.add_assoc _ _ _))⟩))))
   (try simp only [Act.put, List.setIfInBounds_toArray, List.set_cons_zero, List.set_cons_succ])
   go_loopg [12, 13] kj31 (fun kq v12 v13 w' => ∃ (x12_2 : Int) (x13_2 : Int), v12 = .int .u64 x12_2 ∧ v13 = .int .i64 x13_2 ∧ Aside0 (flyballref16_Widen.l1 kq l2 x12_2 x13_2 t1425 x1429001_31 t1427 = some (r1, r2, r3)) ∧ Aside0 (kq ≤ kj31) ∧ Aside0 (Kd.V (Kd.int .u64) 23 w' w.heap.size (fun k_ => (P2_ k_ ∨ w.heap.size ≤ k_) ∧ k_ ≠ gb1414 ∧ k_ ≠ gb1415 ∧ k_ ≠ gb1416 ∧ k_ ≠ gb1420 ∧ k_ ≠ gb1424 ∧ k_ ≠ gb1428) (.slice A2 l2.length c2) l2) ∧ Aside0 (w'.heap[gb1414]? = some (.cells #[.bool a0_0, .int .u64 a0_1, .int .u64 a0_2] 43 (0, 0))) ∧ Aside0 (w'.heap[gb1415]? = some (.cells #[.bool a1_0, .int .u64 a1_1, .int .u64 a1_2] 43 (0, 0))) ∧ Aside0 (w'.heap[gb1416]? = some (.cells #[.bool false, .int .u64 0, .int .u64 0] 43 (0, 0))) ∧ Aside0 (w'.heap[gb1420]? = some (.cells #[.bool false, .int .u64 t1418, .int .u64 t1419] 43 (0, 0))) ∧ Aside0 (w'.heap[gb1424]? = some (.cells #[.bool t1421, .int .u64 t1422, .int .u64 t1423] 43 (0, 0))) ∧ Aside0 (w'.heap[gb1428]? = some (.cells #[.bool t1425, .int .u64 x1429001_31, .int .u64 t1427] 43 (0, 0))) ∧ Aside0 (Below w.heap.size w w'))
   case atStart => exact ⟨(9218868437227405312), (0), zrl, zrl, H', ⟨Nat.le_refl _⟩, ⟨by (with_reducible repeat (first | apply Kd.V_alloc | apply Kd.V_drewN | apply Kd.V_drew)); exact HO_2.out⟩, ⟨zkq BK1414⟩, ⟨zkq BK1415⟩, ⟨zkq BK1416⟩, ⟨zkq BK1420⟩, ⟨zkq BK1424⟩, ⟨zkq BK1428⟩, ⟨zaB⟩⟩
   case round =>
    clear H'
    try clear c1
    try clear p1
    try clear q1
    try clear hx1
    try clear c2
    try clear p2
    try clear c3
    try clear c4
    try clear c5
    try clear c6
    try clear p6
    try clear c7
    try clear c8
    try clear c9
    try clear c10
    try clear c11
    try clear c12
    try clear p14
    try clear q14
    try clear hx14
    try clear c15
    try clear c16
    try clear c17
    try clear c19
    try clear c23
    try clear c24
    try clear c25
    try clear c26
    try clear c36
    try clear c37
    try clear c41
    try clear c42
    try clear c43
    try clear c45
    try clear c49
    try clear c50
    try clear c51
    try clear c52
    try clear c56
    try clear c57
    try clear c58
    try clear c59
    try clear c60
    try clear c61
    try clear c64
    try clear p64
    try clear c65
    try clear c65b0
    try clear c66
    try clear c66b0
    try clear c68
    try clear c70
    try clear c71
    try clear c72
    try clear c73
    try clear c74
    try clear c75
    try clear c77
    try clear c78
    try clear c79
    try clear c80
    try clear c81
    try clear c83
    try clear c84
    try clear c85
    try clear c86
    try clear c87
    try clear c89
    try clear c90
    try clear c91
    try clear c92
    try clear c93
    try clear c96
    try clear c98
    try clear c99
    try clear c100
    try clear c101
    try clear c102
    try clear c104
    try clear c105
    try clear c106
    try clear c107
    try clear c110
    try clear c111
    try clear c112
    try clear c114
    try clear c115
    try clear c116
    try clear c117
    try clear c118
    try clear c120
    try clear c121
    try clear c122
    try clear c123
    try clear z103_0 z103_1 z103_2 f103_0 f103_1 f103_2
    try clear z108_0 z108_1 z108_2 f108_0 f108_1 f108_2
    try clear z113_0 z113_1 z113_2 f113_0 f113_1 f113_2
    try clear z119_0 z119_1 z119_2 f119_0 f119_1 f119_2
    try clear z124_0 z124_1 z124_2 f124_0 f124_1 f124_2
    try clear z12_0 z12_1 z12_2 f12_0 f12_1 f12_2
    try clear z18_0 z18_1 z18_2 f18_0 f18_1 f18_2
    try clear z20_0 z20_1 z20_2 f20_0 f20_1 f20_2
    try clear z27_0 z27_1 z27_2 f27_0 f27_1 f27_2
    try clear z28_0 z28_1 z28_2 f28_0 f28_1 f28_2
    try clear z29_0 z29_1 z29_2 f29_0 f29_1 f29_2
    try clear z38_0 z38_1 z38_2 f38_0 f38_1 f38_2
    try clear z44_0 z44_1 z44_2 f44_0 f44_1 f44_2
    try clear z46_0 z46_1 z46_2 f46_0 f46_1 f46_2
    try clear z53_0 z53_1 z53_2 f53_0 f53_1 f53_2
    try clear z54_0 z54_1 z54_2 f54_0 f54_1 f54_2
    try clear z62_0 z62_1 z62_2 f62_0 f62_1 f62_2
    try clear z63_0 z63_1 z63_2 f63_0 f63_1 f63_2
    try clear z76_0 z76_1 z76_2 f76_0 f76_1 f76_2
    try clear z82_0 z82_1 z82_2 f82_0 f82_1 f82_2
    try clear z88_0 z88_1 z88_2 f88_0 f88_1 f88_2
    try clear z94_0 z94_1 z94_2 f94_0 f94_1 f94_2
    try clear hx1430_0
    try clear hx1432_0
    try clear hx1434_0
    try clear p1
    try clear p14
    try clear p1430
    try clear p1432
    try clear p1434
    try clear p2
    try clear p6
    try clear p64
    try clear q1
    try clear q14
    try clear q1430
    try clear q1432
    try clear q1434
    obtain ⟨x12_2, x13_2, rfl, rfl, HA, HK2, HO_2, BK1414, BK1415, BK1416, BK1420, BK1424, BK1428, HB⟩ := hrel
    cases gk with
    | zero => exact absurd HA.out (by simp [flyballref16_Widen.l1])
    | succ k2 =>
     have H := HA.out
     clear HA
     simp only [flyballref16_Widen.l1] at H
     by_cases c125 : x13_2 < (l2.length : Int)
     ·rw [if_pos c125] at H
      have c125b0 : decide (x13_2 < (l2.length : Int)) = true := decide_eq_true c125
      clear c125
      by_cases c126 : 0 ≤ x13_2
      ·rw [if_pos c126] at H
       have c126b0 : decide (0 ≤ x13_2) = true := decide_eq_true c126
       clear c126
       obtain ⟨t1443, A127, H⟩ := zbs H
       try dsimp only at H
       by_cases c128 : t1443 = true
       ·subst c128
        replace H := zit H
        obtain ⟨t1445, A129, H⟩ := zbs H
        try dsimp only at H
        by_cases c130 : t1445 = true
        ·subst c130
         replace H := zit H
         have H' := Aside0.mk H
         clear H
         obtain ⟨_, _, _, _, _, _, _, _, _, _⟩ := zs5 NB1428_1414 NB1428_1415 NB1428_1416 NB1428_1420 NB1428_1424
         obtain ⟨_, _, _, _, _, _⟩ := zq3 BK1428
         have p1442 : 0 ≤ (x13_2 : Int) := of_decide_eq_true (by first | (with_reducible assumption) | assumption)
         have q1442 : x13_2 < (l2.length : Int) := of_decide_eq_true (by first | (with_reducible assumption) | assumption)
         obtain ⟨ad1442, e1442, hx1442_0⟩ := Kd.at_int (Kd.V_reads' HO_2.out).2.2 x13_2 p1442 q1442
         cases e1442
         replace p1442 := eq_true p1442
         replace q1442 := eq_true q1442
         go_wp2_with (first | (go_at_call 116; (with_reducible refine (flyballref16_le.calls k2 t1427 (rd l2 x13_2) true _ A127.out).mono ?_); rintro e w' ⟨rfl, ⟨nd, rfl⟩⟩; (try first | exact ⟨rfl, _, World.drewN_drewN _ _ _⟩ | exact ⟨rfl, _, Eq.trans (World.drewN_drewN _ _ _) (congrArg (World.drewN _) (Nat.add_assoc _ _ _))⟩); have p1444 : 0 ≤ (x13_2 : Int) := of_decide_eq_true (by first | (with_reducible assumption) | assumption); have q1444 : x13_2 < (l2.length : Int) := of_decide_eq_true (by first | (with_reducible assumption) | assumption); obtain ⟨ad1444, e1444, hx1444_0⟩ := Kd.at_int (Kd.V_reads' HO_2.out).2.2 x13_2 p1444 q1444; obtain rfl : ad1442 = ad1444 := (by injection e1444); replace p1444 := eq_true p1444; replace q1444 := eq_true q1444) | (go_at_call 116; (with_reducible refine (flyballref16_le.calls k2 (rd l2 x13_2) x12_2 true _ A129.out).mono ?_); rintro e w' ⟨rfl, ⟨nd, rfl⟩⟩; (try first | exact ⟨rfl, _, World.drewN_drewN _ _ _⟩ | exact ⟨rfl, _, Eq.trans (World.drewN_drewN _ _ _) (congrArg (World.drewN _) (Nat.add_assoc _ _ _))⟩); have p1446 : 0 ≤ (x13_2 : Int) := of_decide_eq_true (by first | (with_reducible assumption) | assumption); have q1446 : x13_2 < (l2.length : Int) := of_decide_eq_true (by first | (with_reducible assumption) | assumption); obtain ⟨ad1446, e1446, hx1446_0⟩ := Kd.at_int (Kd.V_reads' HO_2.out).2.2 x13_2 p1446 q1446; obtain rfl : ad1442 = ad1446 := (by injection e1446); replace p1446 := eq_true p1446; replace q1446 := eq_true q1446))
         repeat (go_quiet (first | (go_at_call 116; (with_reducible refine (flyballref16_le.calls k2 t1427 (rd l2 x13_2) true _ A127.out).mono ?_); rintro e w' ⟨rfl, ⟨nd, rfl⟩⟩; (try first | exact ⟨rfl, _, World.drewN_drewN _ _ _⟩ | exact ⟨rfl, _, Eq.trans (World.drewN_drewN _ _ _) (congrArg (World.drewN _) (Nat.add_assoc _ _ _))⟩); have p1444 : 0 ≤ (x13_2 : Int) := of_decide_eq_true (by first | (with_reducible assumption) | assumption); have q1444 : x13_2 < (l2.length : Int) := of_decide_eq_true (by first | (with_reducible assumption) | assumption); obtain ⟨ad1444, e1444, hx1444_0⟩ := Kd.at_int (Kd.V_reads' HO_2.out).2.2 x13_2 p1444 q1444; obtain rfl : ad1442 = ad1444 := (by injection e1444); replace p1444 := eq_true p1444; replace q1444 := eq_true q1444) | (go_at_call 116; (with_reducible refine (flyballref16_le.calls k2 (rd l2 x13_2) x12_2 true _ A129.out).mono ?_); rintro e w' ⟨rfl, ⟨nd, rfl⟩⟩; (try first | exact ⟨rfl, _, World.drewN_drewN _ _ _⟩ | exact ⟨rfl, _, Eq.trans (World.drewN_drewN _ _ _) (congrArg (World.drewN _) (Nat.add_assoc _ _ _))⟩); have p1446 : 0 ≤ (x13_2 : Int) := of_decide_eq_true (by first | (with_reducible assumption) | assumption); have q1446 : x13_2 < (l2.length : Int) := of_decide_eq_true (by first | (with_reducible assumption) | assumption); obtain ⟨ad1446, e1446, hx1446_0⟩ := Kd.at_int (Kd.V_reads' HO_2.out).2.2 x13_2 p1446 q1446; obtain rfl : ad1442 = ad1446 := (by injection e1446); replace p1446 := eq_true p1446; replace q1446 := eq_true q1446)); try go_wp2_with (first | (go_at_call 116; (with_reducible refine (flyballref16_le.calls k2 t1427 (rd l2 x13_2) true _ A127.out).mono ?_); rintro e w' ⟨rfl, ⟨nd, rfl⟩⟩; (try first | exact ⟨rfl, _, World.drewN_drewN _ _ _⟩ | exact ⟨rfl, _, Eq.trans (World.drewN_drewN _ _ _) (congrArg (World.drewN _) (Nat.add_assoc _ _ _))⟩); have p1444 : 0 ≤ (x13_2 : Int) := of_decide_eq_true (by first | (with_reducible assumption) | assumption); have q1444 : x13_2 < (l2.length : Int) := of_decide_eq_true (by first | (with_reducible assumption) | assumption); obtain ⟨ad1444, e1444, hx1444_0⟩ := Kd.at_int (Kd.V_reads' HO_2.out).2.2 x13_2 p1444 q1444; obtain rfl : ad1442 = ad1444 := (by injection e1444); replace p1444 := eq_true p1444; replace q1444 := eq_true q1444) | (go_at_call 116; (with_reducible refine (flyballref16_le.calls k2 (rd l2 x13_2) x12_2 true _ A129.out).mono ?_); rintro e w' ⟨rfl, ⟨nd, rfl⟩⟩; (try first | exact ⟨rfl, _, World.drewN_drewN _ _ _⟩ | exact ⟨rfl, _, Eq.trans (World.drewN_drewN _ _ _) (congrArg (World.drewN _) (Nat.add_assoc _ _ _))⟩); have p1446 : 0 ≤ (x13_2 : Int) := of_decide_eq_true (by first | (with_reducible assumption) | assumption); have q1446 : x13_2 < (l2.length : Int) := of_decide_eq_true (by first | (with_reducible assumption) | assumption); obtain ⟨ad1446, e1446, hx1446_0⟩ := Kd.at_int (Kd.V_reads' HO_2.out).2.2 x13_2 p1446 q1446; obtain rfl : ad1442 = ad1446 := (by injection e1446); replace p1446 := eq_true p1446; replace q1446 := eq_true q1446)))
         go_roundg k2
         case measure => have := HJ31.out; have := HK2.out; omega
         case rel => exact ⟨(rd l2 x13_2), (wrap64 (x13_2 + 1)), zrl, zrl, H', ⟨by have := HJ31.out; have := HK2.out; omega⟩, ⟨by (with_reducible repeat (first | apply Kd.V_alloc | apply Kd.V_drewN | apply Kd.V_drew)); exact HO_2.out⟩, ⟨zkq BK1414⟩, ⟨zkq BK1415⟩, ⟨zkq BK1416⟩, ⟨zkq BK1420⟩, ⟨zkq BK1424⟩, ⟨zkq BK1428⟩, ⟨zaB⟩⟩
        replace c130 := Bool.eq_false_iff.mpr c130
        subst c130
        replace H := zif H
        have H' := Aside0.mk H
        clear H
        obtain ⟨_, _, _, _, _, _, _, _, _, _⟩ := zs5 NB1428_1414 NB1428_1415 NB1428_1416 NB1428_1420 NB1428_1424
        obtain ⟨_, _, _, _, _, _⟩ := zq3 BK1428
        have p1442 : 0 ≤ (x13_2 : Int) := of_decide_eq_true (by first | (with_reducible assumption) | assumption)
        have q1442 : x13_2 < (l2.length : Int) := of_decide_eq_true (by first | (with_reducible assumption) | assumption)
        obtain ⟨ad1442, e1442, hx1442_0⟩ := Kd.at_int (Kd.V_reads' HO_2.out).2.2 x13_2 p1442 q1442
        cases e1442
        replace p1442 := eq_true p1442
        replace q1442 := eq_true q1442
        go_wp2_with (first | (go_at_call 116; (with_reducible refine (flyballref16_le.calls k2 t1427 (rd l2 x13_2) true _ A127.out).mono ?_); rintro e w' ⟨rfl, ⟨nd, rfl⟩⟩; (try first | exact ⟨rfl, _, World.drewN_drewN _ _ _⟩ | exact ⟨rfl, _, Eq.trans (World.drewN_drewN _ _ _) (congrArg (World.drewN _) (Nat.add_assoc _ _ _))⟩); have p1444 : 0 ≤ (x13_2 : Int) := of_decide_eq_true (by first | (with_reducible assumption) | assumption); have q1444 : x13_2 < (l2.length : Int) := of_decide_eq_true (by first | (with_reducible assumption) | assumption); obtain ⟨ad1444, e1444, hx1444_0⟩ := Kd.at_int (Kd.V_reads' HO_2.out).2.2 x13_2 p1444 q1444; obtain rfl : ad1442 = ad1444 := (by injection e1444); replace p1444 := eq_true p1444; replace q1444 := eq_true q1444) | (go_at_call 116; (with_reducible refine (flyballref16_le.calls k2 (rd l2 x13_2) x12_2 false _ A129.out).mono ?_); rintro e w' ⟨rfl, ⟨nd, rfl⟩⟩; (try first | exact ⟨rfl, _, World.drewN_drewN _ _ _⟩ | exact ⟨rfl, _, Eq.trans (World.drewN_drewN _ _ _) (congrArg (World.drewN _) (Nat.add_assoc _ _ _))⟩)))
        repeat (go_quiet (first | (go_at_call 116; (with_reducible refine (flyballref16_le.calls k2 t1427 (rd l2 x13_2) true _ A127.out).mono ?_); rintro e w' ⟨rfl, ⟨nd, rfl⟩⟩; (try first | exact ⟨rfl, _, World.drewN_drewN _ _ _⟩ | exact ⟨rfl, _, Eq.trans (World.drewN_drewN _ _ _) (congrArg (World.drewN _) (Nat.add_assoc _ _ _))⟩); have p1444 : 0 ≤ (x13_2 : Int) := of_decide_eq_true (by first | (with_reducible assumption) | assumption); have q1444 : x13_2 < (l2.length : Int) := of_decide_eq_true (by first | (with_reducible assumption) | assumption); obtain ⟨ad1444, e1444, hx1444_0⟩ := Kd.at_int (Kd.V_reads' HO_2.out).2.2 x13_2 p1444 q1444; obtain rfl : ad1442 = ad1444 := (by injection e1444); replace p1444 := eq_true p1444; replace q1444 := eq_true q1444) | (go_at_call 116; (with_reducible refine (flyballref16_le.calls k2 (rd l2 x13_2) x12_2 false _ A129.out).mono ?_); rintro e w' ⟨rfl, ⟨nd, rfl⟩⟩; (try first | exact ⟨rfl, _, World.drewN_drewN _ _ _⟩ | exact ⟨rfl, _, Eq.trans (World.drewN_drewN _ _ _) (congrArg (World.drewN _) (Nat.add_assoc _ _ _))⟩))); try go_wp2_with (first | (go_at_call 116; (with_reducible refine (flyballref16_le.calls k2 t1427 (rd l2 x13_2) true _ A127.out).mono ?_); rintro e w' ⟨rfl, ⟨nd, rfl⟩⟩; (try first | exact ⟨rfl, _, World.drewN_drewN _ _ _⟩ | exact ⟨rfl, _, Eq.trans (World.drewN_drewN _ _ _) (congrArg (World.drewN _) (Nat.add_assoc _ _ _))⟩); have p1444 : 0 ≤ (x13_2 : Int) := of_decide_eq_true (by first | (with_reducible assumption) | assumption); have q1444 : x13_2 < (l2.length : Int) := of_decide_eq_true (by first | (with_reducible assumption) | assumption); obtain ⟨ad1444, e1444, hx1444_0⟩ := Kd.at_int (Kd.V_reads' HO_2.out).2.2 x13_2 p1444 q1444; obtain rfl : ad1442 = ad1444 := (by injection e1444); replace p1444 := eq_true p1444; replace q1444 := eq_true q1444) | (go_at_call 116; (with_reducible refine (flyballref16_le.calls k2 (rd l2 x13_2) x12_2 false _ A129.out).mono ?_); rintro e w' ⟨rfl, ⟨nd, rfl⟩⟩; (try first | exact ⟨rfl, _, World.drewN_drewN _ _ _⟩ | exact ⟨rfl, _, Eq.trans (World.drewN_drewN _ _ _) (congrArg (World.drewN _) (Nat.add_assoc _ _ _))⟩))))
        go_roundg k2
        case measure => have := HJ31.out; have := HK2.out; omega
        case rel => exact ⟨(x12_2), (wrap64 (x13_2 + 1)), zrl, zrl, H', ⟨by have := HJ31.out; have := HK2.out; omega⟩, ⟨by (with_reducible repeat (first | apply Kd.V_alloc | apply Kd.V_drewN | apply Kd.V_drew)); exact HO_2.out⟩, ⟨zkq BK1414⟩, ⟨zkq BK1415⟩, ⟨zkq BK1416⟩, ⟨zkq BK1420⟩, ⟨zkq BK1424⟩, ⟨zkq BK1428⟩, ⟨zaB⟩⟩
       replace c128 := Bool.eq_false_iff.mpr c128
       subst c128
       replace H := zif H
       have H' := Aside0.mk H
       clear H
       obtain ⟨_, _, _, _, _, _, _, _, _, _⟩ := zs5 NB1428_1414 NB1428_1415 NB1428_1416 NB1428_1420 NB1428_1424
       obtain ⟨_, _, _, _, _, _⟩ := zq3 BK1428
       have p1442 : 0 ≤ (x13_2 : Int) := of_decide_eq_true (by first | (with_reducible assumption) | assumption)
       have q1442 : x13_2 < (l2.length : Int) := of_decide_eq_true (by first | (with_reducible assumption) | assumption)
       obtain ⟨ad1442, e1442, hx1442_0⟩ := Kd.at_int (Kd.V_reads' HO_2.out).2.2 x13_2 p1442 q1442
       cases e1442
       replace p1442 := eq_true p1442
       replace q1442 := eq_true q1442
       go_wp2_with (first | (go_at_call 116; (with_reducible refine (flyballref16_le.calls k2 t1427 (rd l2 x13_2) false _ A127.out).mono ?_); rintro e w' ⟨rfl, ⟨nd, rfl⟩⟩; (try first | exact ⟨rfl, _, World.drewN_drewN _ _ _⟩ | exact ⟨rfl, _, Eq.trans (World.drewN_drewN _ _ _) (congrArg (World.drewN _) (Nat.add_assoc _ _ _))⟩)))
       repeat (go_quiet (first | (go_at_call 116; (with_reducible refine (flyballref16_le.calls k2 t1427 (rd l2 x13_2) false _ A127.out).mono ?_); rintro e w' ⟨rfl, ⟨nd, rfl⟩⟩; (try first | exact ⟨rfl, _, World.drewN_drewN _ _ _⟩ | exact ⟨rfl, _, Eq.trans (World.drewN_drewN _ _ _) (congrArg (World.drewN _) (Nat.add_assoc _ _ _))⟩))); try go_wp2_with (first | (go_at_call 116; (with_reducible refine (flyballref16_le.calls k2 t1427 (rd l2 x13_2) false _ A127.out).mono ?_); rintro e w' ⟨rfl, ⟨nd, rfl⟩⟩; (try first | exact ⟨rfl, _, World.drewN_drewN _ _ _⟩ | exact ⟨rfl, _, Eq.trans (World.drewN_drewN _ _ _) (congrArg (World.drewN _) (Nat.add_assoc _ _ _))⟩))))
       go_roundg k2
       case measure => have := HJ31.out; have := HK2.out; omega
       case rel => exact ⟨(x12_2), (wrap64 (x13_2 + 1)), zrl, zrl, H', ⟨by have := HJ31.out; have := HK2.out; omega⟩, ⟨by (with_reducible repeat (first | apply Kd.V_alloc | apply Kd.V_drewN | apply Kd.V_drew)); exact HO_2.out⟩, ⟨zkq BK1414⟩, ⟨zkq BK1415⟩, ⟨zkq BK1416⟩, ⟨zkq BK1420⟩, ⟨zkq BK1424⟩, ⟨zkq BK1428⟩, ⟨zaB⟩⟩
      rw [if_neg c126] at H
      exact absurd H (by simp)
     rw [if_neg c125] at H
     have c125b0 : decide (x13_2 < (l2.length : Int)) = false := decide_eq_false c125
     clear c125
     obtain ⟨⟨t1439, t1440, t1441⟩, A149, H⟩ := zbs H
     try dsimp only at H
     simp only [Option.some.injEq, Prod.mk.injEq] at H
     obtain ⟨rfl, rfl, rfl⟩ := H
     obtain ⟨_, _, _, _, _, _, _, _, _, _⟩ := zs5 NB1428_1414 NB1428_1415 NB1428_1416 NB1428_1420 NB1428_1424
     obtain ⟨_, _, _, _, _, _⟩ := zq3 BK1428
     go_wp2_with (first | (go_at_call 49; (with_reducible refine (flyballref16_Norm.calls k2 t1425 x1429001_31 x12_2 t1439 t1440 t1441 _ A149.out).mono ?_); rintro e w156 ⟨rfl, hb⟩; replace HO_2 := Aside0.mk (Kd.V_below (by (with_reducible repeat (first | apply Kd.V_alloc | apply Kd.V_drewN | apply Kd.V_drew)); exact (Kd.V_mono (Kd.V_far (p := ⟨gb1428, 2, none⟩) (Kd.V_mono HO_2.out (fun k_ hk => (⟨hk, hk.2.2.2.2.2.2⟩ : _ ∧ k_ ≠ gb1428))) (fun _ hk => hk.2) (.int .u64 x12_2)) (fun _ h_ => h_.1))) hb); replace BK1414 := Aside0.mk (blk_below (zkf BK1414.out NB1414_1428.out _) hb); replace BK1415 := Aside0.mk (blk_below (zkf BK1415.out NB1415_1428.out _) hb); replace BK1416 := Aside0.mk (blk_below (zkf BK1416.out NB1416_1428.out _) hb); replace BK1420 := Aside0.mk (blk_below (zkf BK1420.out NB1420_1428.out _) hb); replace BK1424 := Aside0.mk (blk_below (zkf BK1424.out NB1424_1428.out _) hb); replace BK1428 := Aside0.mk (blk_below (o := .cells #[.bool t1425, .int .u64 x1429001_31, .int .u64 x12_2] 43 (0, 0)) (blk_put BK1428.out 2 _ rfl) hb); replace HB := Aside0.mk (below_step (below_set HB.out GW1428.out) hb); (try clear hb); (try clear hk); obtain ⟨_, _, _, _, _, _, _, _⟩ := zs4 NB1416_1414 NB1416_1415 NB1416_1420 NB1416_1424; obtain ⟨z161_0, z161_1, z161_2, f161_0, f161_1, f161_2⟩ := zq3 BK1416))
     repeat (go_quiet (first | (go_at_call 49; (with_reducible refine (flyballref16_Norm.calls k2 t1425 x1429001_31 x12_2 t1439 t1440 t1441 _ A149.out).mono ?_); rintro e w156 ⟨rfl, hb⟩; replace HO_2 := Aside0.mk (Kd.V_below (by (with_reducible repeat (first | apply Kd.V_alloc | apply Kd.V_drewN | apply Kd.V_drew)); exact (Kd.V_mono (Kd.V_far (p := ⟨gb1428, 2, none⟩) (Kd.V_mono HO_2.out (fun k_ hk => (⟨hk, hk.2.2.2.2.2.2⟩ : _ ∧ k_ ≠ gb1428))) (fun _ hk => hk.2) (.int .u64 x12_2)) (fun _ h_ => h_.1))) hb); replace BK1414 := Aside0.mk (blk_below (zkf BK1414.out NB1414_1428.out _) hb); replace BK1415 := Aside0.mk (blk_below (zkf BK1415.out NB1415_1428.out _) hb); replace BK1416 := Aside0.mk (blk_below (zkf BK1416.out NB1416_1428.out _) hb); replace BK1420 := Aside0.mk (blk_below (zkf BK1420.out NB1420_1428.out _) hb); replace BK1424 := Aside0.mk (blk_below (zkf BK1424.out NB1424_1428.out _) hb); replace BK1428 := Aside0.mk (blk_below (o := .cells #[.bool t1425, .int .u64 x1429001_31, .int .u64 x12_2] 43 (0, 0)) (blk_put BK1428.out 2 _ rfl) hb); replace HB := Aside0.mk (below_step (below_set HB.out GW1428.out) hb); (try clear hb); (try clear hk); obtain ⟨_, _, _, _, _, _, _, _⟩ := zs4 NB1416_1414 NB1416_1415 NB1416_1420 NB1416_1424; obtain ⟨z161_0, z161_1, z161_2, f161_0, f161_1, f161_2⟩ := zq3 BK1416)); try go_wp2_with (first | (go_at_call 49; (with_reducible refine (flyballref16_Norm.calls k2 t1425 x1429001_31 x12_2 t1439 t1440 t1441 _ A149.out).mono ?_); rintro e w156 ⟨rfl, hb⟩; replace HO_2 := Aside0.mk (Kd.V_below (by (with_reducible repeat (first | apply Kd.V_alloc | apply Kd.V_drewN | apply Kd.V_drew)); exact (Kd.V_mono (Kd.V_far (p := ⟨gb1428, 2, none⟩) (Kd.V_mono HO_2.out (fun k_ hk => (⟨hk, hk.2.2.2.2.2.2⟩ : _ ∧ k_ ≠ gb1428))) (fun _ hk => hk.2) (.int .u64 x12_2)) (fun _ h_ => h_.1))) hb); replace BK1414 := Aside0.mk (blk_below (zkf BK1414.out NB1414_1428.out _) hb); replace BK1415 := Aside0.mk (blk_below (zkf BK1415.out NB1415_1428.out _) hb); replace BK1416 := Aside0.mk (blk_below (zkf BK1416.out NB1416_1428.out _) hb); replace BK1420 := Aside0.mk (blk_below (zkf BK1420.out NB1420_1428.out _) hb); replace BK1424 := Aside0.mk (blk_below (zkf BK1424.out NB1424_1428.out _) hb); replace BK1428 := Aside0.mk (blk_below (o := .cells #[.bool t1425, .int .u64 x1429001_31, .int .u64 x12_2] 43 (0, 0)) (blk_put BK1428.out 2 _ rfl) hb); replace HB := Aside0.mk (below_step (below_set HB.out GW1428.out) hb); (try clear hb); (try clear hk); obtain ⟨_, _, _, _, _, _, _, _⟩ := zs4 NB1416_1414 NB1416_1415 NB1416_1420 NB1416_1424; obtain ⟨z161_0, z161_1, z161_2, f161_0, f161_1, f161_2⟩ := zq3 BK1416)))
     refine bodyPost_ret (results_cell_row rfl _ _ gb1416 43 #[.bool t1439, .int .u64 t1440, .int .u64 t1441] (0, 0) _ rfl (blk_put (cs := #[.bool t1439, .int .u64 t1440, .int .u64 0]) (blk_put (cs := #[.bool t1439, .int .u64 0, .int .u64 0]) (blk_put (zkq BK1416) 0 _ rfl) 1 _ rfl) 2 _ rfl) Try.underlying43 rfl (by kernel_rfl)) rfl ?_
     exact ⟨zaE, zaB⟩
end Go.Proofs.Ytmadjhmecfbcmaa.F
end
section
namespace Go.Proofs.Ytmadjhmecfbcmaa.F
open Go.RowKit Go.Proofs.YtmadjhmecfbcmaaW.PrintWords Go.Proofs.YtmadjhmecfbcmaaW.PrintLast Go.Proofs.YtmadjhmecfbcmaaW.PrintMore
attribute [local go_sem] max2_int min2_int max_two min_two max_three min_three max_four min_four
set_option linter.unusedVariables false
set_option linter.unusedSimpArgs false
set_option maxHeartbeats 8000000
set_option maxRecDepth 100000
attribute [local go_sem high] eqA43
def flyballlaw16_SpanWidens.T7 : Bool × List (List Nat × List Nat) := (true, [([], []), ([0], [0]), ([1], [1]), ([1], [1]), ([1], [1]), ([1], [1]), ([3, 4, 5, 1, 1], [1, 3, 4, 5]), ([2, 6, 1], [1, 2, 6]), ([1, 7], [1, 7]), ([8, 6], [8]), ([9], [9]), ([9], [9]), ([10, 11, 9, 9], [9, 10, 11]), ([9, 12], [9, 12]), ([13, 12], [13]), ([14], [14]), ([14], [14]), ([15, 16, 14, 14], [14, 15, 16]), ([14, 17], [14, 17]), ([18, 17, 0, 1, 2, 3, 4, 5, 6, 7, 8, 9, 10, 11, 12, 13, 14, 15, 16, 17, 18], [18])])
def flyballlaw16_SpanWidens.B7 : List Nat := [0, 1, 3, 3, 3, 3, 59, 127, 255, 511, 1023, 1023, 4095, 8191, 16383, 32767, 32767, 131071, 262143, 524287]
theorem flyballlaw16_SpanWidens.tab7 : rtab .any (opsOf Try.f13 7) = flyballlaw16_SpanWidens.T7 := by kernel_rfl
theorem flyballlaw16_SpanWidens.bits7 : waitsOk flyballlaw16_SpanWidens.T7.2 flyballlaw16_SpanWidens.B7 = true := by kernel_rfl
theorem flyballlaw16_SpanWidens.calls (k : Nat) (a0_0 : Bool) (a0_1 : Int) (a0_2 : Int) (a1_0 : Bool) (a1_1 : Int) (a1_2 : Int) (A2 : Option Addr) (c2 : Nat) (l2 : List Int) (r : Bool) (w : World) (hr2 : Kd.C (Kd.int .u64) w A2 l2.length l2) (hc2 : l2.length ≤ c2) (h : flyballlaw16_SpanWidens.f k a0_0 a0_1 a0_2 a1_0 a1_1 a1_2 l2 = some r) (hr_ : r = true) :
  Calls Try.prog 13 #[.agg #[.bool a0_0, .int .u64 a0_1, .int .u64 a0_2], .agg #[.bool a1_0, .int .u64 a1_1, .int .u64 a1_2], .slice A2 l2.length c2] w fun e w' => e = .returned (.bool r) ∧ Below w.heap.size w w' := by
 have hu43 := Try.underlying43
 have HR2 := Aside0.mk hr2
 have HC2 := Aside0.mk hc2
 clear hr2 hc2
 have HB := Aside0.mk (Below.refl w.heap.size w)
 have H : ((flyballlaw16_works.f k).bind fun t1449 => (if t1449 = true then (if (l2.length : Int) > 200 then (some t1449) else ((span_Widen.f k a0_0 a0_1 a0_2 a1_0 a1_1 a1_2 l2).bind fun bt1450 => ((flyballref16_Widen.f k a0_0 a0_1 a0_2 a1_0 a1_1 a1_2 l2).bind fun bt1454 => (if (bt1450.1 == bt1454.1 && (bt1450.2.1 == bt1454.2.1 && (bt1450.2.2 == bt1454.2.2))) = true then ((span_Inside.f k a0_0 a0_1 a0_2 bt1450.1 bt1450.2.1 bt1450.2.2).bind fun t1457 => (if t1457 = true then ((span_Inside.f k a1_0 a1_1 a1_2 bt1450.1 bt1450.2.1 bt1450.2.2).bind fun t1458 => (some t1458)) else (some false))) else (some false))))) else (some false))) = some r := h
 clear h
 obtain ⟨t1449, A4, H⟩ := zbs H
 try dsimp only at H
 by_cases c5 : t1449 = true
 ·subst c5
  replace H := zit H
  by_cases c6 : (l2.length : Int) > 200
  ·rw [if_pos c6] at H
   have c6b0 : decide (200 < (l2.length : Int)) = true := decide_eq_true c6
   have c6b1 : decide (200 < l2.length) = true := decide_eq_true (by omega)
   clear c6
   obtain rfl := Option.some.inj H
   go_enter Try.func13, Try.ntmps13
   go_wp2_with (first | ((with_reducible refine gtd 3 rfl ?_); refine zbx 3 #[.bool a0_0, .int .u64 a0_1, .int .u64 a0_2] 43 (h := ?_); intro gb1447 hg w7 hbox hb; have GW1447 := zkZ hg (zaB (p := Below w.heap.size w _)); replace HB := Aside0.mk (below_step zaB hb); have BK1447 := Aside0.mk (hbox); clear hb hbox hg) | ((with_reducible refine gtd 4 rfl ?_); refine zbx 4 #[.bool a1_0, .int .u64 a1_1, .int .u64 a1_2] 43 (h := ?_); intro gb1448 hg w8 hbox hb; have GW1448 := zkz HB hg; have NB1447_1448 := zkl BK1447 hg; have NB1448_1447 := zkr BK1447 hg; replace BK1447 := zkb BK1447 hb; replace HB := zkB HB hb; have BK1448 := Aside0.mk (hbox); clear hb hbox hg) | ((with_reducible refine gtc 36 rfl ?_); refine zgL 9 Try.func36 (flyballlaw16_works.calls k  true _ A4.out rfl) (h := ?_); rintro w9 hb; replace BK1447 := zkb BK1447 hb; replace BK1448 := zkb BK1448 hb; replace HB := zkB HB hb; (try clear hb)))
   go_ret
   exact ⟨zaE, zaB⟩
  rw [if_neg c6] at H
  have c6b0 : decide (200 < (l2.length : Int)) = false := decide_eq_false c6
  have c6b1 : decide (200 < l2.length) = false := decide_eq_false (by omega)
  clear c6
  obtain ⟨⟨t1450, t1451, t1452⟩, A10, H⟩ := zbs H
  try dsimp only at H
  obtain ⟨⟨t1454, t1455, t1456⟩, A11, H⟩ := zbs H
  try dsimp only at H
  by_cases c12 : (t1450 == t1454 && (t1451 == t1455 && (t1452 == t1456))) = true
  ·rw [if_pos c12] at H
   have c12b0 : (t1450 == t1454 && (t1451 == t1455 && (t1452 == t1456))) = true := c12
   (try (have c12b1 : decide (t1450 = t1454 && (t1451 == t1455 && (t1452 == t1456))) = true := by simpa using c12))
   (try (have c12b2 : (t1450 == t1454 && (t1451 == t1455 && (t1452 == t1456))) = true := by simpa using c12))
   clear c12
   obtain ⟨t1457, A13, H⟩ := zbs H
   try dsimp only at H
   by_cases c14 : t1457 = true
   ·subst c14
    replace H := zit H
    obtain ⟨t1458, A15, H⟩ := zbs H
    try dsimp only at H
    obtain rfl := Option.some.inj H
    go_enter Try.func13, Try.ntmps13
    try go_wp2_with (first | ((with_reducible refine gtd 3 rfl ?_); refine zbx 3 #[.bool a0_0, .int .u64 a0_1, .int .u64 a0_2] 43 (h := ?_); intro gb1447 hg w16 hbox hb; have GW1447 := zkZ hg (zaB (p := Below w.heap.size w _)); replace HB := Aside0.mk (below_step zaB hb); have BK1447 := Aside0.mk (hbox); clear hb hbox hg) | ((with_reducible refine gtd 4 rfl ?_); refine zbx 4 #[.bool a1_0, .int .u64 a1_1, .int .u64 a1_2] 43 (h := ?_); intro gb1448 hg w17 hbox hb; have GW1448 := zkz HB hg; have NB1447_1448 := zkl BK1447 hg; have NB1448_1447 := zkr BK1447 hg; replace BK1447 := zkb BK1447 hb; replace HB := zkB HB hb; have BK1448 := Aside0.mk (hbox); clear hb hbox hg) | ((with_reducible refine gtc 36 rfl ?_); refine zgL 9 Try.func36 (flyballlaw16_works.calls k  true _ A4.out rfl) (h := ?_); rintro w18 hb; replace BK1447 := zkb BK1447 hb; replace BK1448 := zkb BK1448 hb; replace HB := zkB HB hb; (try clear hb); obtain ⟨_, _⟩ := zsy NB1447_1448; obtain ⟨_, _, _, _, _, _⟩ := zq3 BK1447; obtain ⟨_, _, _, _, _, _⟩ := zq3 BK1448) | ((with_reducible refine gtc 55 rfl ?_); refine goesL_ (some 19) rfl rfl Try.func55 (by kernel_rfl) rfl #[.agg #[.bool a0_0, .int .u64 a0_1, .int .u64 a0_2], .agg #[.bool a1_0, .int .u64 a1_1, .int .u64 a1_2], .slice A2 l2.length c2] rfl (by (try simp only [List.map_toArray, List.map_cons, List.map_nil]); first | done | rfl | (simp only [List.length_drop, List.length_take]; rfl)) ?_; (with_reducible refine (span_Widen.calls k a0_0 a0_1 a0_2 a1_0 a1_1 a1_2 _ _ l2 t1450 t1451 t1452 _ ?side1 ?side2 A10.out).mono ?_); (case side1 => repeat (first | exact (Kd.C_below HR2.out HB.out) | (with_reducible refine Kd.C_alloc ?_ _) | (with_reducible refine Kd.C_drewN ?_ _) | (with_reducible refine Kd.C_drew ?_))); (case side2 => exact HC2.out); rintro e w22 ⟨rfl, hb⟩; refine ⟨_, rfl, ?_⟩; replace BK1447 := zkb BK1447 hb; replace BK1448 := zkb BK1448 hb; replace HB := zkB HB hb; (try clear hb)) | ((with_reducible refine gtd 8 rfl ?_); refine zbx 8 #[.bool false, .int .u64 0, .int .u64 0] 43 (h := ?_); intro gb1453 hg w23 hbox hb; have GW1453 := zkz HB hg; have NB1447_1453 := zkl BK1447 hg; have NB1453_1447 := zkr BK1447 hg; have NB1448_1453 := zkl BK1448 hg; have NB1453_1448 := zkr BK1448 hg; replace BK1447 := zkb BK1447 hb; replace BK1448 := zkb BK1448 hb; replace HB := zkB HB hb; have BK1453 := Aside0.mk (hbox); clear hb hbox hg; obtain ⟨_, _, _, _⟩ := zs2 NB1453_1447 NB1453_1448; obtain ⟨_, _, _, _, _, _⟩ := zq3 BK1453))
    generalize hW_ : (((w23.setCell ⟨gb1453, 0, none⟩ (.bool t1450)).setCell ⟨gb1453, 1, none⟩ (.int .u64 t1451)).setCell ⟨gb1453, 2, none⟩ (.int .u64 t1452)) = w27
    replace BK1447 := zkg hW_ (zkf (zkf (zkf BK1447.out NB1447_1453.out _) NB1447_1453.out _) NB1447_1453.out _)
    replace BK1448 := zkg hW_ (zkf (zkf (zkf BK1448.out NB1448_1453.out _) NB1448_1453.out _) NB1448_1453.out _)
    replace BK1453 := zkg hW_ (ob := .cells #[.bool t1450, .int .u64 t1451, .int .u64 t1452] 43 (0, 0)) (blk_put (cs := #[.bool t1450, .int .u64 t1451, .int .u64 0]) (blk_put (cs := #[.bool t1450, .int .u64 0, .int .u64 0]) (blk_put BK1453.out 0 _ rfl) 1 _ rfl) 2 _ rfl)
    replace HB := zkG hW_ (below_set (below_set (below_set HB.out GW1453.out) GW1453.out) GW1453.out)
    clear hW_
    replace BK1447 := Aside0.mk (blk_drew BK1447.out)
    replace BK1448 := Aside0.mk (blk_drew BK1448.out)
    replace BK1453 := Aside0.mk (blk_drew BK1453.out)
    replace HB := Aside0.mk (below_drew1 HB.out)
    refine start_ (n := 20) (S := fun w' => w'.cell? ⟨gb1453, 0, none⟩ = some (.bool t1450) ∧ w'.cell? ⟨gb1453, 1, none⟩ = some (.int .u64 t1451) ∧ w'.cell? ⟨gb1453, 2, none⟩ = some (.int .u64 t1452) ∧ w'.cell? ⟨gb1447, 0, none⟩ = some (.bool a0_0) ∧ w'.cell? ⟨gb1447, 1, none⟩ = some (.int .u64 a0_1) ∧ w'.cell? ⟨gb1447, 2, none⟩ = some (.int .u64 a0_2) ∧ w'.cell? ⟨gb1448, 0, none⟩ = some (.bool a1_0) ∧ w'.cell? ⟨gb1448, 1, none⟩ = some (.int .u64 a1_1) ∧ w'.cell? ⟨gb1448, 2, none⟩ = some (.int .u64 a1_2)) (ds := []) #[false, false, false, false, false, false, false, false, false, false, false, false, false, false, false, false, false, false, false, false] (by kernel_rfl) rfl rfl (zk3 BK1453 (zk3 BK1447 (ze3 BK1448))) (fun hHeld => ?_); refine with_tabW flyballlaw16_SpanWidens.tab7 flyballlaw16_SpanWidens.bits7 (fun HT_ HW_ => ?_)
    generalize w27.drew = w28 at BK1447 BK1448 BK1453 HB hHeld ⊢
    refine zpA 0 20 (h := ?_)
    refine zpA 1 21 (h := ?_)
    refine zpA 5 25 (h := ?_)
    refine ztA 2 22 (h := ?_)
    refine ztA 3 23 (h := ?_)
    refine ztA 4 24 (h := ?_)
    refine zoA 6 26 (h := fun K hK => ?_)
    refine goes_ Try.func56 (by kernel_rfl) rfl #[.agg #[.bool a0_0, .int .u64 a0_1, .int .u64 a0_2], .agg #[.bool a1_0, .int .u64 a1_1, .int .u64 a1_2], .slice A2 l2.length c2] (by rfl) rfl rfl (by (try simp only [List.map_toArray, List.map_cons, List.map_nil]); first | done | rfl | (simp only [List.length_drop, List.length_take]; rfl)) ?_
    with_reducible refine (flyballref16_Widen.calls k a0_0 a0_1 a0_2 a1_0 a1_1 a1_2 (fun k_ => k_ < w.heap.size) _ _ l2 t1454 t1455 t1456 _ ?side1 A11.out).mono ?_
    (case side1 => exact Kd.V_mk HC2.out (Kd.F_below (Kd.C_F (Kd.heap_int .u64) HR2.out) zaB))
    rintro e w29 ⟨rfl, hb⟩
    refine ⟨_, rfl, ?_⟩
    replace BK1447 := zkb BK1447 hb
    replace BK1448 := zkb BK1448 hb
    replace BK1453 := zkb BK1453 hb
    replace HB := zkB HB hb
    (try clear hb)
    refine hK.out _ _ (zk3 BK1453 (zk3 BK1447 (ze3 BK1448))) (fun hHeld => ?_)
    clear hK K
    refine znA 26 (h := ?_)
    refine zpA 7 27 (h := ?_)
    refine zpA 8 28 (h := ?_)
    refine zpA 9 29 (h := ?_)
    refine ztA 10 30 (h := ?_)
    refine ztA 11 31 (h := ?_)
    refine zoA 12 32 (h := fun K hK => ?_)
    refine zgA Try.func43 (span_Inside.calls k a0_0 a0_1 a0_2 t1450 t1451 t1452 true _ A13.out) (h := ?_)
    rintro w30 hb
    replace BK1447 := zkb BK1447 hb
    replace BK1448 := zkb BK1448 hb
    replace BK1453 := zkb BK1453 hb
    replace HB := zkB HB hb
    (try clear hb)
    refine hK.out _ _ (zk3 BK1453 (zk3 BK1447 (ze3 BK1448))) (fun hHeld => ?_)
    clear hK K
    refine znA 32 (h := ?_)
    refine zpA 13 33 (h := ?_)
    refine zpA 14 34 (h := ?_)
    refine ztA 15 35 (h := ?_)
    refine ztA 16 36 (h := ?_)
    refine zoA 17 37 (h := fun K hK => ?_)
    refine zgA Try.func43 (span_Inside.calls k a1_0 a1_1 a1_2 t1450 t1451 t1452 t1458 _ A15.out) (h := ?_)
    rintro w31 hb
    replace BK1447 := zkb BK1447 hb
    replace BK1448 := zkb BK1448 hb
    replace BK1453 := zkb BK1453 hb
    replace HB := zkB HB hb
    (try clear hb)
    refine hK.out _ _ (zk3 BK1453 (zk3 BK1447 (ze3 BK1448))) (fun hHeld => ?_)
    clear hK K
    refine znA 37 (h := ?_)
    refine zpA 18 38 (h := ?_)
    refine zpA 19 6 (h := ?_)
    refine done_ (done_of HT_.out (by kernel_rfl)) ?_
    try go_wp2
    go_ret
    exact ⟨zaE, zaB⟩
   replace c14 := Bool.eq_false_iff.mpr c14
   subst c14
   replace H := zif H
   subst hr_
   cases H
  rw [if_neg c12] at H
  have c12b0 : (t1450 == t1454 && (t1451 == t1455 && (t1452 == t1456))) = false := by simpa using c12
  (try (have c12b1 : decide (t1450 = t1454 && (t1451 == t1455 && (t1452 == t1456))) = false := by simpa using c12))
  (try (have c12b2 : (t1450 == t1454 && (t1451 == t1455 && (t1452 == t1456))) = false := by simpa using c12))
  (try (have c12b3 : ¬ (t1450 = t1454 && (t1451 == t1455 && (t1452 == t1456))) := by simpa using c12))
  clear c12
  subst hr_
  cases H
 replace c5 := Bool.eq_false_iff.mpr c5
 subst c5
 replace H := zif H
 subst hr_
 cases H
end Go.Proofs.Ytmadjhmecfbcmaa.F
end
section
namespace Go.Proofs.Ytmadjhmecfbcmaa.M
open Go.RowKit Go.Proofs.YtmadjhmecfbcmaaW.PrintWords Go.Proofs.YtmadjhmecfbcmaaW.PrintLast Go.Proofs.YtmadjhmecfbcmaaW.PrintMore Go.Proofs.Ytmadjhmecfbcmaa.F
def sgn (a : Nat) : Bool := a / 9223372036854775808 == 1
def ex (a : Nat) : Nat := a / 4503599627370496 % 2048
def fr (a : Nat) : Nat := a % 4503599627370496
def cls (a : Nat) : Nat := if ex a = 2047 then (if fr a = 0 then 3 else 4) else if ex a = 0 then (if fr a = 0 then 0 else 1) else 2
def spm (a : Nat) : Nat := if cls a = 2 then 4503599627370496 + fr a else if cls a = 1 then fr a else 0
def spe (a : Nat) : Int := if cls a = 2 then (ex a : Int) - 1075 else if cls a = 1 then -1074 else 0
def key (a : Nat) : Nat := a % 9223372036854775808
def U (a : Nat) : Prop := a < 18446744073709551616
theorem sgn_cast (a : Nat) : ((a : Int) / 9223372036854775808 == 1) = sgn a := by
  unfold sgn
  rw [Bool.eq_iff_iff, beq_iff_eq, beq_iff_eq]; omega
theorem ex_lt (a : Nat) : ex a < 2048 := by unfold ex; omega
theorem fr_lt (a : Nat) : fr a < 4503599627370496 := by unfold fr; omega
theorem key_lt (a : Nat) : key a < 9223372036854775808 := by unfold key; omega
theorem key_parts' (a : Nat) : key a = ex a * 4503599627370496 + fr a := by unfold key ex fr; omega
theorem a_parts (a : Nat) (h : U a) : a = sg (sgn a) + key a := by
  unfold sg sgn key U at *
  by_cases e : a / 9223372036854775808 = 1
  · rw [beq_iff_eq.2 e, if_pos rfl]; omega
  · rw [beq_eq_false_iff_ne.2 e, if_neg (by simp)]; omega
theorem Parts_ok (a : Nat) (h : U a) : pattern_Parts.f (a : Int) = some (sgn a, (ex a : Int), (fr a : Int)) := by
  unfold pattern_Parts.f U at *
  rw [sgn_cast, show (a : Int) / 4503599627370496 = ((a / 4503599627370496 : Nat) : Int) from by omega, and_2047 _ (by omega), and_52 _ h, w64 (by omega) (by omega)]
  rfl
theorem ref_Parts_ok (a : Nat) (h : U a) : flyballref04_Parts.f (a : Int) = some (sgn a, (ex a : Int), (fr a : Int)) := by
  unfold flyballref04_Parts.f U at *
  have e1 : Int.tdiv (a : Int) 9223372036854775808 = (a : Int) / 9223372036854775808 := Int.tdiv_eq_ediv_of_nonneg (by omega)
  have e2 : Int.tdiv (a : Int) 4503599627370496 = (a : Int) / 4503599627370496 := Int.tdiv_eq_ediv_of_nonneg (by omega)
  have e3 : Int.tmod (a : Int) 4503599627370496 = (a : Int) % 4503599627370496 := Int.tmod_eq_emod_of_nonneg (by omega)
  rw [e1, e2, e3, wu64 (by omega) (by omega), wu64 (by omega) (by omega), sgn_cast, Int.tmod_eq_emod_of_nonneg (by omega), w64 (by omega) (by omega)]
  unfold ex fr
  congr 3
theorem Class_ev (a : Nat) (h : U a) : Ev (fun k => pattern_Class.f k (a : Int)) (cls a : Int) := by
  refine Ev.later 2 fun k => ?_
  unfold pattern_Class.f
  rw [bind_of _ (Parts_ok a h)]
  dsimp only
  have e1 : ((fr a : Int) == 0) = decide (fr a = 0) := by rw [Bool.eq_iff_iff]; simp
  rw [e1]
  unfold cls
  by_cases c1 : ex a = 2047
  · rw [if_pos (by omega), if_pos c1]
    by_cases c2 : fr a = 0
    · simp [pattern_Class.j0, c2]
    · simp [pattern_Class.j0, c2, c1]
  · rw [if_neg (by omega), if_neg c1]
    by_cases c3 : ex a = 0
    · by_cases c2 : fr a = 0
      · simp [pattern_Class.j0, pattern_Class.j1, c2, c3]
      · simp [pattern_Class.j0, pattern_Class.j1, c2, c3]
    · have : ¬ ((ex a : Int) = 2047) := by omega
      simp [pattern_Class.j0, pattern_Class.j1, this, c3]
theorem ref_Class_ev (a : Nat) (h : U a) : Ev (fun k => flyballref04_Class.f k (a : Int)) (cls a : Int) := by
  refine Ev.later 2 fun k => ?_
  unfold flyballref04_Class.f
  rw [bind_of _ (ref_Parts_ok a h)]
  dsimp only
  have e1 : ((fr a : Int) == 0) = decide (fr a = 0) := by rw [Bool.eq_iff_iff]; simp
  rw [e1]
  unfold cls
  by_cases c1 : ex a = 2047
  · rw [if_pos (by omega), if_pos c1]
    by_cases c2 : fr a = 0
    · simp [flyballref04_Class.j0, c2]
    · simp [flyballref04_Class.j0, c2, c1]
  · rw [if_neg (by omega), if_neg c1]
    by_cases c3 : ex a = 0
    · by_cases c2 : fr a = 0
      · simp [flyballref04_Class.j0, flyballref04_Class.j1, c2, c3]
      · simp [flyballref04_Class.j0, flyballref04_Class.j1, c2, c3]
    · have : ¬ ((ex a : Int) = 2047) := by omega
      simp [flyballref04_Class.j0, flyballref04_Class.j1, this, c3]
theorem cls_le (a : Nat) : cls a ≤ 4 := by unfold cls; (repeat' split) <;> omega
theorem spm_lt (a : Nat) : spm a < 9007199254740992 := by have := fr_lt a; unfold spm; (repeat' split) <;> omega
theorem spe_bd (a : Nat) : -1074 ≤ spe a ∧ spe a ≤ 971 := by
  unfold spe
  split
  · rename_i h
    have := ex_lt a
    have : 1 ≤ ex a ∧ ex a ≠ 2047 := by unfold cls at h; (repeat' split at h) <;> first | omega | (refine ⟨by omega, by omega⟩)
    omega
  · split <;> omega
theorem split_mn (a : Nat) : (if (cls a : Int) = 2 then (some ((4503599627370496 : Int) + (fr a : Int), (ex a : Int) - 1075)) else (if (cls a : Int) = 1 then (some ((fr a : Int), (-1074 : Int))) else (some (0, 0)))) = some ((spm a : Int), spe a) := by
  unfold spm spe
  by_cases c1 : cls a = 2
  · simp only [c1, if_true]; rw [Int.natCast_add]; rfl
  · have h1 : ¬ (cls a : Int) = 2 := by omega
    by_cases c2 : cls a = 1
    · have h2 : (cls a : Int) = 1 := by omega
      rw [if_neg h1, if_pos h2, if_neg c1, if_neg c1, if_pos c2, if_pos c2]
    · have h2 : ¬ (cls a : Int) = 1 := by omega
      rw [if_neg h1, if_neg h2, if_neg c1, if_neg c1, if_neg c2, if_neg c2]; rfl
theorem Split_ev (a : Nat) (h : U a) : Ev (fun k => pattern_Split.f k (a : Int)) ((spm a : Int), spe a) := by
  unfold pattern_Split.f
  refine Ev.b _ (Ev.const (Parts_ok a h)) (Ev.b _ (Class_ev a h) (Ev.const ?_))
  dsimp only
  have h1 := fr_lt a
  have h2 := ex_lt a
  have e1 : bits .or .u64 4503599627370496 (fr a : Int) = 4503599627370496 + (fr a : Int) := by
    have := or_join 4503599627370496 (fr a) 52 (by decide) (by omega) (by decide) (by omega)
    rw [Int.natCast_add] at this; exact this
  have e2 : wrap64 ((ex a : Int) - 1075) = (ex a : Int) - 1075 := w64 (by omega) (by omega)
  refine Eq.trans ?_ (split_mn a)
  rw [e1, e2]
theorem of_ev (a : Nat) (h : U a) : Ev (fun k => soft_of.f k (a : Int)) ((a : Int), (cls a : Int), sgn a, (spm a : Int), spe a) := by
  unfold soft_of.f
  refine Ev.b _ (Split_ev a h) (Ev.b _ (Class_ev a h) (Ev.const ?_))
  rw [sgn_cast]
def mk (neg : Bool) (e f : Nat) : Nat := sg neg + (e * 4503599627370496 + f)
theorem Make_ev (neg : Bool) (e f : Nat) (he : e ≤ 2047) (hf : f < 4503599627370496) : Ev (fun k => pattern_Make.f k neg (e : Int) (f : Int)) ((mk neg e f : Int), 0) := by
  refine Ev.later 1 fun k => ?_
  unfold pattern_Make.f
  rw [if_neg (by omega), if_neg (by omega), decide_eq_false (by omega)]
  simp only [pattern_Make.j0]
  rw [if_neg (by simp), wu64 (n := (e : Int)) (by omega) (by omega), wu64 (n := (e : Int) * 4503599627370496) (by omega) (by omega)]
  rw [show (e : Int) * 4503599627370496 = ((e * 4503599627370496 : Nat) : Int) from by omega]
  rw [or_join (e * 4503599627370496) f 52 (by omega) hf (by omega) (by omega)]
  unfold mk sg
  cases neg
  · rw [if_neg (by simp)]; simp
  · rw [if_pos rfl, show (9223372036854775808 : Int) = ((9223372036854775808 : Nat) : Int) from rfl, or_join' 9223372036854775808 _ 63 (by decide) (by omega) (by decide) (by omega)]
    simp
theorem zero_ev (neg : Bool) : Ev (fun k => soft_zero.f k neg) (sg neg : Int) := by
  unfold soft_zero.f
  exact Ev.b _ (Make_ev neg 0 0 (by omega) (by omega)) (Ev.now _)
theorem Inf_ev (neg : Bool) : Ev (fun k => pattern_Inf.f k neg) ((sg neg + 9218868437227405312 : Nat) : Int) := by
  unfold pattern_Inf.f
  exact Ev.b _ (Make_ev neg 2047 0 (by omega) (by omega)) (Ev.now _)
theorem nan_ev (a : Nat) (h : U a) : Ev (fun k => pattern_nan.f k (a : Int)) (decide (cls a = 4)) := by
  unfold pattern_nan.f
  refine Ev.b _ (Class_ev a h) (Ev.const ?_)
  congr 1; rw [Bool.eq_iff_iff, beq_iff_eq, decide_eq_true_iff]; omega
theorem flip_U (a : Nat) (h : U a) : U (flip a) := by unfold U flip at *; split <;> omega
def ng (a : Nat) : Nat := if cls a = 4 then a else flip a
theorem ng_U (a : Nat) (h : U a) : U (ng a) := by unfold ng; split; exact h; exact flip_U a h
theorem Neg_ev (a : Nat) (h : U a) : Ev (fun k => pattern_Neg.f k (a : Int)) (ng a : Int) := by
  unfold pattern_Neg.f
  refine Ev.b _ (nan_ev a h) (Ev.const ?_)
  unfold ng
  by_cases c : cls a = 4
  · rw [decide_eq_true c, if_pos rfl, if_pos c]
  · rw [decide_eq_false c, if_neg (by simp), if_neg c, xor_sign a h]
end Go.Proofs.Ytmadjhmecfbcmaa.M
end
