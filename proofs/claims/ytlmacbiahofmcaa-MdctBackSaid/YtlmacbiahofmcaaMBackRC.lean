/- Blocks of 119 to 132: how far the sums over the cosines' table lie from what they should be, row by row. -/
import Derived.Test.YtlmacbiahofmcaaMBack2
import Derived.KernelRfl
namespace Go.Proofs.Ytlmacbiahofmcaa.M
set_option linter.unusedVariables false
theorem back_119 : chk 119 = true := by kernel_rfl
theorem back_120 : chk 120 = true := by kernel_rfl
theorem back_121 : chk 121 = true := by kernel_rfl
theorem back_122 : chk 122 = true := by kernel_rfl
theorem back_123 : chk 123 = true := by kernel_rfl
theorem back_124 : chk 124 = true := by kernel_rfl
theorem back_125 : chk 125 = true := by kernel_rfl
theorem back_126 : chk 126 = true := by kernel_rfl
theorem back_127 : chk 127 = true := by kernel_rfl
theorem back_128 : chk 128 = true := by kernel_rfl
theorem back_129 : chk 129 = true := by kernel_rfl
theorem back_130 : chk 130 = true := by kernel_rfl
theorem back_131 : chk 131 = true := by kernel_rfl
theorem back_132 : chk 132 = true := by kernel_rfl
theorem backs_2 (n : Nat) (h1 : 119 ≤ n) (h2 : n ≤ 132) : chk n = true := by
  by_cases c119_132 : n ≤ 125
  · by_cases c119_125 : n ≤ 122
    · by_cases c119_122 : n ≤ 120
      · by_cases c119_120 : n ≤ 119
        · obtain rfl : n = 119 := by omega
          exact back_119
        · obtain rfl : n = 120 := by omega
          exact back_120
      · by_cases c121_122 : n ≤ 121
        · obtain rfl : n = 121 := by omega
          exact back_121
        · obtain rfl : n = 122 := by omega
          exact back_122
    · by_cases c123_125 : n ≤ 124
      · by_cases c123_124 : n ≤ 123
        · obtain rfl : n = 123 := by omega
          exact back_123
        · obtain rfl : n = 124 := by omega
          exact back_124
      · obtain rfl : n = 125 := by omega
        exact back_125
  · by_cases c126_132 : n ≤ 129
    · by_cases c126_129 : n ≤ 127
      · by_cases c126_127 : n ≤ 126
        · obtain rfl : n = 126 := by omega
          exact back_126
        · obtain rfl : n = 127 := by omega
          exact back_127
      · by_cases c128_129 : n ≤ 128
        · obtain rfl : n = 128 := by omega
          exact back_128
        · obtain rfl : n = 129 := by omega
          exact back_129
    · by_cases c130_132 : n ≤ 131
      · by_cases c130_131 : n ≤ 130
        · obtain rfl : n = 130 := by omega
          exact back_130
        · obtain rfl : n = 131 := by omega
          exact back_131
      · obtain rfl : n = 132 := by omega
        exact back_132
end Go.Proofs.Ytlmacbiahofmcaa.M
