/- Blocks of 4 to 96: how far the sums over the cosines' table lie from what they should be, row by row. -/
import Derived.Test.YtlmacbiahofmcaaMBack2
import Derived.KernelRfl
namespace Go.Proofs.Ytlmacbiahofmcaa.M
set_option linter.unusedVariables false
theorem back_4 : chk 4 = true := by kernel_rfl
theorem back_5 : chk 5 = true := by kernel_rfl
theorem back_6 : chk 6 = true := by kernel_rfl
theorem back_7 : chk 7 = true := by kernel_rfl
theorem back_8 : chk 8 = true := by kernel_rfl
theorem back_9 : chk 9 = true := by kernel_rfl
theorem back_10 : chk 10 = true := by kernel_rfl
theorem back_11 : chk 11 = true := by kernel_rfl
theorem back_12 : chk 12 = true := by kernel_rfl
theorem back_13 : chk 13 = true := by kernel_rfl
theorem back_14 : chk 14 = true := by kernel_rfl
theorem back_15 : chk 15 = true := by kernel_rfl
theorem back_16 : chk 16 = true := by kernel_rfl
theorem back_17 : chk 17 = true := by kernel_rfl
theorem back_18 : chk 18 = true := by kernel_rfl
theorem back_19 : chk 19 = true := by kernel_rfl
theorem back_20 : chk 20 = true := by kernel_rfl
theorem back_21 : chk 21 = true := by kernel_rfl
theorem back_22 : chk 22 = true := by kernel_rfl
theorem back_23 : chk 23 = true := by kernel_rfl
theorem back_24 : chk 24 = true := by kernel_rfl
theorem back_25 : chk 25 = true := by kernel_rfl
theorem back_26 : chk 26 = true := by kernel_rfl
theorem back_27 : chk 27 = true := by kernel_rfl
theorem back_28 : chk 28 = true := by kernel_rfl
theorem back_29 : chk 29 = true := by kernel_rfl
theorem back_30 : chk 30 = true := by kernel_rfl
theorem back_31 : chk 31 = true := by kernel_rfl
theorem back_32 : chk 32 = true := by kernel_rfl
theorem back_33 : chk 33 = true := by kernel_rfl
theorem back_34 : chk 34 = true := by kernel_rfl
theorem back_35 : chk 35 = true := by kernel_rfl
theorem back_36 : chk 36 = true := by kernel_rfl
theorem back_37 : chk 37 = true := by kernel_rfl
theorem back_38 : chk 38 = true := by kernel_rfl
theorem back_39 : chk 39 = true := by kernel_rfl
theorem back_40 : chk 40 = true := by kernel_rfl
theorem back_41 : chk 41 = true := by kernel_rfl
theorem back_42 : chk 42 = true := by kernel_rfl
theorem back_43 : chk 43 = true := by kernel_rfl
theorem back_44 : chk 44 = true := by kernel_rfl
theorem back_45 : chk 45 = true := by kernel_rfl
theorem back_46 : chk 46 = true := by kernel_rfl
theorem back_47 : chk 47 = true := by kernel_rfl
theorem back_48 : chk 48 = true := by kernel_rfl
theorem back_49 : chk 49 = true := by kernel_rfl
theorem back_50 : chk 50 = true := by kernel_rfl
theorem back_51 : chk 51 = true := by kernel_rfl
theorem back_52 : chk 52 = true := by kernel_rfl
theorem back_53 : chk 53 = true := by kernel_rfl
theorem back_54 : chk 54 = true := by kernel_rfl
theorem back_55 : chk 55 = true := by kernel_rfl
theorem back_56 : chk 56 = true := by kernel_rfl
theorem back_57 : chk 57 = true := by kernel_rfl
theorem back_58 : chk 58 = true := by kernel_rfl
theorem back_59 : chk 59 = true := by kernel_rfl
theorem back_60 : chk 60 = true := by kernel_rfl
theorem back_61 : chk 61 = true := by kernel_rfl
theorem back_62 : chk 62 = true := by kernel_rfl
theorem back_63 : chk 63 = true := by kernel_rfl
theorem back_64 : chk 64 = true := by kernel_rfl
theorem back_65 : chk 65 = true := by kernel_rfl
theorem back_66 : chk 66 = true := by kernel_rfl
theorem back_67 : chk 67 = true := by kernel_rfl
theorem back_68 : chk 68 = true := by kernel_rfl
theorem back_69 : chk 69 = true := by kernel_rfl
theorem back_70 : chk 70 = true := by kernel_rfl
theorem back_71 : chk 71 = true := by kernel_rfl
theorem back_72 : chk 72 = true := by kernel_rfl
theorem back_73 : chk 73 = true := by kernel_rfl
theorem back_74 : chk 74 = true := by kernel_rfl
theorem back_75 : chk 75 = true := by kernel_rfl
theorem back_76 : chk 76 = true := by kernel_rfl
theorem back_77 : chk 77 = true := by kernel_rfl
theorem back_78 : chk 78 = true := by kernel_rfl
theorem back_79 : chk 79 = true := by kernel_rfl
theorem back_80 : chk 80 = true := by kernel_rfl
theorem back_81 : chk 81 = true := by kernel_rfl
theorem back_82 : chk 82 = true := by kernel_rfl
theorem back_83 : chk 83 = true := by kernel_rfl
theorem back_84 : chk 84 = true := by kernel_rfl
theorem back_85 : chk 85 = true := by kernel_rfl
theorem back_86 : chk 86 = true := by kernel_rfl
theorem back_87 : chk 87 = true := by kernel_rfl
theorem back_88 : chk 88 = true := by kernel_rfl
theorem back_89 : chk 89 = true := by kernel_rfl
theorem back_90 : chk 90 = true := by kernel_rfl
theorem back_91 : chk 91 = true := by kernel_rfl
theorem back_92 : chk 92 = true := by kernel_rfl
theorem back_93 : chk 93 = true := by kernel_rfl
theorem back_94 : chk 94 = true := by kernel_rfl
theorem back_95 : chk 95 = true := by kernel_rfl
theorem back_96 : chk 96 = true := by kernel_rfl
theorem backs_0 (n : Nat) (h1 : 4 ≤ n) (h2 : n ≤ 96) : chk n = true := by
  by_cases c4_96 : n ≤ 50
  · by_cases c4_50 : n ≤ 27
    · by_cases c4_27 : n ≤ 15
      · by_cases c4_15 : n ≤ 9
        · by_cases c4_9 : n ≤ 6
          · by_cases c4_6 : n ≤ 5
            · by_cases c4_5 : n ≤ 4
              · obtain rfl : n = 4 := by omega
                exact back_4
              · obtain rfl : n = 5 := by omega
                exact back_5
            · obtain rfl : n = 6 := by omega
              exact back_6
          · by_cases c7_9 : n ≤ 8
            · by_cases c7_8 : n ≤ 7
              · obtain rfl : n = 7 := by omega
                exact back_7
              · obtain rfl : n = 8 := by omega
                exact back_8
            · obtain rfl : n = 9 := by omega
              exact back_9
        · by_cases c10_15 : n ≤ 12
          · by_cases c10_12 : n ≤ 11
            · by_cases c10_11 : n ≤ 10
              · obtain rfl : n = 10 := by omega
                exact back_10
              · obtain rfl : n = 11 := by omega
                exact back_11
            · obtain rfl : n = 12 := by omega
              exact back_12
          · by_cases c13_15 : n ≤ 14
            · by_cases c13_14 : n ≤ 13
              · obtain rfl : n = 13 := by omega
                exact back_13
              · obtain rfl : n = 14 := by omega
                exact back_14
            · obtain rfl : n = 15 := by omega
              exact back_15
      · by_cases c16_27 : n ≤ 21
        · by_cases c16_21 : n ≤ 18
          · by_cases c16_18 : n ≤ 17
            · by_cases c16_17 : n ≤ 16
              · obtain rfl : n = 16 := by omega
                exact back_16
              · obtain rfl : n = 17 := by omega
                exact back_17
            · obtain rfl : n = 18 := by omega
              exact back_18
          · by_cases c19_21 : n ≤ 20
            · by_cases c19_20 : n ≤ 19
              · obtain rfl : n = 19 := by omega
                exact back_19
              · obtain rfl : n = 20 := by omega
                exact back_20
            · obtain rfl : n = 21 := by omega
              exact back_21
        · by_cases c22_27 : n ≤ 24
          · by_cases c22_24 : n ≤ 23
            · by_cases c22_23 : n ≤ 22
              · obtain rfl : n = 22 := by omega
                exact back_22
              · obtain rfl : n = 23 := by omega
                exact back_23
            · obtain rfl : n = 24 := by omega
              exact back_24
          · by_cases c25_27 : n ≤ 26
            · by_cases c25_26 : n ≤ 25
              · obtain rfl : n = 25 := by omega
                exact back_25
              · obtain rfl : n = 26 := by omega
                exact back_26
            · obtain rfl : n = 27 := by omega
              exact back_27
    · by_cases c28_50 : n ≤ 39
      · by_cases c28_39 : n ≤ 33
        · by_cases c28_33 : n ≤ 30
          · by_cases c28_30 : n ≤ 29
            · by_cases c28_29 : n ≤ 28
              · obtain rfl : n = 28 := by omega
                exact back_28
              · obtain rfl : n = 29 := by omega
                exact back_29
            · obtain rfl : n = 30 := by omega
              exact back_30
          · by_cases c31_33 : n ≤ 32
            · by_cases c31_32 : n ≤ 31
              · obtain rfl : n = 31 := by omega
                exact back_31
              · obtain rfl : n = 32 := by omega
                exact back_32
            · obtain rfl : n = 33 := by omega
              exact back_33
        · by_cases c34_39 : n ≤ 36
          · by_cases c34_36 : n ≤ 35
            · by_cases c34_35 : n ≤ 34
              · obtain rfl : n = 34 := by omega
                exact back_34
              · obtain rfl : n = 35 := by omega
                exact back_35
            · obtain rfl : n = 36 := by omega
              exact back_36
          · by_cases c37_39 : n ≤ 38
            · by_cases c37_38 : n ≤ 37
              · obtain rfl : n = 37 := by omega
                exact back_37
              · obtain rfl : n = 38 := by omega
                exact back_38
            · obtain rfl : n = 39 := by omega
              exact back_39
      · by_cases c40_50 : n ≤ 45
        · by_cases c40_45 : n ≤ 42
          · by_cases c40_42 : n ≤ 41
            · by_cases c40_41 : n ≤ 40
              · obtain rfl : n = 40 := by omega
                exact back_40
              · obtain rfl : n = 41 := by omega
                exact back_41
            · obtain rfl : n = 42 := by omega
              exact back_42
          · by_cases c43_45 : n ≤ 44
            · by_cases c43_44 : n ≤ 43
              · obtain rfl : n = 43 := by omega
                exact back_43
              · obtain rfl : n = 44 := by omega
                exact back_44
            · obtain rfl : n = 45 := by omega
              exact back_45
        · by_cases c46_50 : n ≤ 48
          · by_cases c46_48 : n ≤ 47
            · by_cases c46_47 : n ≤ 46
              · obtain rfl : n = 46 := by omega
                exact back_46
              · obtain rfl : n = 47 := by omega
                exact back_47
            · obtain rfl : n = 48 := by omega
              exact back_48
          · by_cases c49_50 : n ≤ 49
            · obtain rfl : n = 49 := by omega
              exact back_49
            · obtain rfl : n = 50 := by omega
              exact back_50
  · by_cases c51_96 : n ≤ 73
    · by_cases c51_73 : n ≤ 62
      · by_cases c51_62 : n ≤ 56
        · by_cases c51_56 : n ≤ 53
          · by_cases c51_53 : n ≤ 52
            · by_cases c51_52 : n ≤ 51
              · obtain rfl : n = 51 := by omega
                exact back_51
              · obtain rfl : n = 52 := by omega
                exact back_52
            · obtain rfl : n = 53 := by omega
              exact back_53
          · by_cases c54_56 : n ≤ 55
            · by_cases c54_55 : n ≤ 54
              · obtain rfl : n = 54 := by omega
                exact back_54
              · obtain rfl : n = 55 := by omega
                exact back_55
            · obtain rfl : n = 56 := by omega
              exact back_56
        · by_cases c57_62 : n ≤ 59
          · by_cases c57_59 : n ≤ 58
            · by_cases c57_58 : n ≤ 57
              · obtain rfl : n = 57 := by omega
                exact back_57
              · obtain rfl : n = 58 := by omega
                exact back_58
            · obtain rfl : n = 59 := by omega
              exact back_59
          · by_cases c60_62 : n ≤ 61
            · by_cases c60_61 : n ≤ 60
              · obtain rfl : n = 60 := by omega
                exact back_60
              · obtain rfl : n = 61 := by omega
                exact back_61
            · obtain rfl : n = 62 := by omega
              exact back_62
      · by_cases c63_73 : n ≤ 68
        · by_cases c63_68 : n ≤ 65
          · by_cases c63_65 : n ≤ 64
            · by_cases c63_64 : n ≤ 63
              · obtain rfl : n = 63 := by omega
                exact back_63
              · obtain rfl : n = 64 := by omega
                exact back_64
            · obtain rfl : n = 65 := by omega
              exact back_65
          · by_cases c66_68 : n ≤ 67
            · by_cases c66_67 : n ≤ 66
              · obtain rfl : n = 66 := by omega
                exact back_66
              · obtain rfl : n = 67 := by omega
                exact back_67
            · obtain rfl : n = 68 := by omega
              exact back_68
        · by_cases c69_73 : n ≤ 71
          · by_cases c69_71 : n ≤ 70
            · by_cases c69_70 : n ≤ 69
              · obtain rfl : n = 69 := by omega
                exact back_69
              · obtain rfl : n = 70 := by omega
                exact back_70
            · obtain rfl : n = 71 := by omega
              exact back_71
          · by_cases c72_73 : n ≤ 72
            · obtain rfl : n = 72 := by omega
              exact back_72
            · obtain rfl : n = 73 := by omega
              exact back_73
    · by_cases c74_96 : n ≤ 85
      · by_cases c74_85 : n ≤ 79
        · by_cases c74_79 : n ≤ 76
          · by_cases c74_76 : n ≤ 75
            · by_cases c74_75 : n ≤ 74
              · obtain rfl : n = 74 := by omega
                exact back_74
              · obtain rfl : n = 75 := by omega
                exact back_75
            · obtain rfl : n = 76 := by omega
              exact back_76
          · by_cases c77_79 : n ≤ 78
            · by_cases c77_78 : n ≤ 77
              · obtain rfl : n = 77 := by omega
                exact back_77
              · obtain rfl : n = 78 := by omega
                exact back_78
            · obtain rfl : n = 79 := by omega
              exact back_79
        · by_cases c80_85 : n ≤ 82
          · by_cases c80_82 : n ≤ 81
            · by_cases c80_81 : n ≤ 80
              · obtain rfl : n = 80 := by omega
                exact back_80
              · obtain rfl : n = 81 := by omega
                exact back_81
            · obtain rfl : n = 82 := by omega
              exact back_82
          · by_cases c83_85 : n ≤ 84
            · by_cases c83_84 : n ≤ 83
              · obtain rfl : n = 83 := by omega
                exact back_83
              · obtain rfl : n = 84 := by omega
                exact back_84
            · obtain rfl : n = 85 := by omega
              exact back_85
      · by_cases c86_96 : n ≤ 91
        · by_cases c86_91 : n ≤ 88
          · by_cases c86_88 : n ≤ 87
            · by_cases c86_87 : n ≤ 86
              · obtain rfl : n = 86 := by omega
                exact back_86
              · obtain rfl : n = 87 := by omega
                exact back_87
            · obtain rfl : n = 88 := by omega
              exact back_88
          · by_cases c89_91 : n ≤ 90
            · by_cases c89_90 : n ≤ 89
              · obtain rfl : n = 89 := by omega
                exact back_89
              · obtain rfl : n = 90 := by omega
                exact back_90
            · obtain rfl : n = 91 := by omega
              exact back_91
        · by_cases c92_96 : n ≤ 94
          · by_cases c92_94 : n ≤ 93
            · by_cases c92_93 : n ≤ 92
              · obtain rfl : n = 92 := by omega
                exact back_92
              · obtain rfl : n = 93 := by omega
                exact back_93
            · obtain rfl : n = 94 := by omega
              exact back_94
          · by_cases c95_96 : n ≤ 95
            · obtain rfl : n = 95 := by omega
              exact back_95
            · obtain rfl : n = 96 := by omega
              exact back_96
end Go.Proofs.Ytlmacbiahofmcaa.M
