/- Blocks of 133 to 143: how far the sums over the cosines' table lie from what they should be, row by row. -/
import Derived.Test.YtlmacbiahofmcaaMBack2
import Derived.KernelRfl
namespace Go.Proofs.Ytlmacbiahofmcaa.M
set_option linter.unusedVariables false
theorem back_133 : chk 133 = true := by kernel_rfl
theorem back_134 : chk 134 = true := by kernel_rfl
theorem back_135 : chk 135 = true := by kernel_rfl
theorem back_136 : chk 136 = true := by kernel_rfl
theorem back_137 : chk 137 = true := by kernel_rfl
theorem back_138 : chk 138 = true := by kernel_rfl
theorem back_139 : chk 139 = true := by kernel_rfl
theorem back_140 : chk 140 = true := by kernel_rfl
theorem back_141 : chk 141 = true := by kernel_rfl
theorem back_142 : chk 142 = true := by kernel_rfl
theorem back_143 : chk 143 = true := by kernel_rfl
theorem backs_3 (n : Nat) (h1 : 133 ≤ n) (h2 : n ≤ 143) : chk n = true := by
  by_cases c133_143 : n ≤ 138
  · by_cases c133_138 : n ≤ 135
    · by_cases c133_135 : n ≤ 134
      · by_cases c133_134 : n ≤ 133
        · obtain rfl : n = 133 := by omega
          exact back_133
        · obtain rfl : n = 134 := by omega
          exact back_134
      · obtain rfl : n = 135 := by omega
        exact back_135
    · by_cases c136_138 : n ≤ 137
      · by_cases c136_137 : n ≤ 136
        · obtain rfl : n = 136 := by omega
          exact back_136
        · obtain rfl : n = 137 := by omega
          exact back_137
      · obtain rfl : n = 138 := by omega
        exact back_138
  · by_cases c139_143 : n ≤ 141
    · by_cases c139_141 : n ≤ 140
      · by_cases c139_140 : n ≤ 139
        · obtain rfl : n = 139 := by omega
          exact back_139
        · obtain rfl : n = 140 := by omega
          exact back_140
      · obtain rfl : n = 141 := by omega
        exact back_141
    · by_cases c142_143 : n ≤ 142
      · obtain rfl : n = 142 := by omega
        exact back_142
      · obtain rfl : n = 143 := by omega
        exact back_143
end Go.Proofs.Ytlmacbiahofmcaa.M
