/- Blocks of 97 to 118: how far the sums over the cosines' table lie from what they should be, row by row. -/
import Derived.Test.YtlmacbiahofmcaaMBack2
import Derived.KernelRfl
namespace Go.Proofs.Ytlmacbiahofmcaa.M
set_option linter.unusedVariables false
theorem back_97 : chk 97 = true := by kernel_rfl
theorem back_98 : chk 98 = true := by kernel_rfl
theorem back_99 : chk 99 = true := by kernel_rfl
theorem back_100 : chk 100 = true := by kernel_rfl
theorem back_101 : chk 101 = true := by kernel_rfl
theorem back_102 : chk 102 = true := by kernel_rfl
theorem back_103 : chk 103 = true := by kernel_rfl
theorem back_104 : chk 104 = true := by kernel_rfl
theorem back_105 : chk 105 = true := by kernel_rfl
theorem back_106 : chk 106 = true := by kernel_rfl
theorem back_107 : chk 107 = true := by kernel_rfl
theorem back_108 : chk 108 = true := by kernel_rfl
theorem back_109 : chk 109 = true := by kernel_rfl
theorem back_110 : chk 110 = true := by kernel_rfl
theorem back_111 : chk 111 = true := by kernel_rfl
theorem back_112 : chk 112 = true := by kernel_rfl
theorem back_113 : chk 113 = true := by kernel_rfl
theorem back_114 : chk 114 = true := by kernel_rfl
theorem back_115 : chk 115 = true := by kernel_rfl
theorem back_116 : chk 116 = true := by kernel_rfl
theorem back_117 : chk 117 = true := by kernel_rfl
theorem back_118 : chk 118 = true := by kernel_rfl
theorem backs_1 (n : Nat) (h1 : 97 ≤ n) (h2 : n ≤ 118) : chk n = true := by
  by_cases c97_118 : n ≤ 107
  · by_cases c97_107 : n ≤ 102
    · by_cases c97_102 : n ≤ 99
      · by_cases c97_99 : n ≤ 98
        · by_cases c97_98 : n ≤ 97
          · obtain rfl : n = 97 := by omega
            exact back_97
          · obtain rfl : n = 98 := by omega
            exact back_98
        · obtain rfl : n = 99 := by omega
          exact back_99
      · by_cases c100_102 : n ≤ 101
        · by_cases c100_101 : n ≤ 100
          · obtain rfl : n = 100 := by omega
            exact back_100
          · obtain rfl : n = 101 := by omega
            exact back_101
        · obtain rfl : n = 102 := by omega
          exact back_102
    · by_cases c103_107 : n ≤ 105
      · by_cases c103_105 : n ≤ 104
        · by_cases c103_104 : n ≤ 103
          · obtain rfl : n = 103 := by omega
            exact back_103
          · obtain rfl : n = 104 := by omega
            exact back_104
        · obtain rfl : n = 105 := by omega
          exact back_105
      · by_cases c106_107 : n ≤ 106
        · obtain rfl : n = 106 := by omega
          exact back_106
        · obtain rfl : n = 107 := by omega
          exact back_107
  · by_cases c108_118 : n ≤ 113
    · by_cases c108_113 : n ≤ 110
      · by_cases c108_110 : n ≤ 109
        · by_cases c108_109 : n ≤ 108
          · obtain rfl : n = 108 := by omega
            exact back_108
          · obtain rfl : n = 109 := by omega
            exact back_109
        · obtain rfl : n = 110 := by omega
          exact back_110
      · by_cases c111_113 : n ≤ 112
        · by_cases c111_112 : n ≤ 111
          · obtain rfl : n = 111 := by omega
            exact back_111
          · obtain rfl : n = 112 := by omega
            exact back_112
        · obtain rfl : n = 113 := by omega
          exact back_113
    · by_cases c114_118 : n ≤ 116
      · by_cases c114_116 : n ≤ 115
        · by_cases c114_115 : n ≤ 114
          · obtain rfl : n = 114 := by omega
            exact back_114
          · obtain rfl : n = 115 := by omega
            exact back_115
        · obtain rfl : n = 116 := by omega
          exact back_116
      · by_cases c117_118 : n ≤ 117
        · obtain rfl : n = 117 := by omega
          exact back_117
        · obtain rfl : n = 118 := by omega
          exact back_118
end Go.Proofs.Ytlmacbiahofmcaa.M
