/- Blocks of 154 to 160: how far the sums over the cosines' table lie from what they should be, row by row. -/
import Derived.Test.YtlmacbiahofmcaaMBack2
import Derived.KernelRfl
namespace Go.Proofs.Ytlmacbiahofmcaa.M
set_option linter.unusedVariables false
theorem back_154 : chk 154 = true := by kernel_rfl
theorem back_155 : chk 155 = true := by kernel_rfl
theorem back_156 : chk 156 = true := by kernel_rfl
theorem back_157 : chk 157 = true := by kernel_rfl
theorem back_158 : chk 158 = true := by kernel_rfl
theorem back_159 : chk 159 = true := by kernel_rfl
theorem back_160 : chk 160 = true := by kernel_rfl
theorem backs_5 (n : Nat) (h1 : 154 ≤ n) (h2 : n ≤ 160) : chk n = true := by
  by_cases c154_160 : n ≤ 157
  · by_cases c154_157 : n ≤ 155
    · by_cases c154_155 : n ≤ 154
      · obtain rfl : n = 154 := by omega
        exact back_154
      · obtain rfl : n = 155 := by omega
        exact back_155
    · by_cases c156_157 : n ≤ 156
      · obtain rfl : n = 156 := by omega
        exact back_156
      · obtain rfl : n = 157 := by omega
        exact back_157
  · by_cases c158_160 : n ≤ 159
    · by_cases c158_159 : n ≤ 158
      · obtain rfl : n = 158 := by omega
        exact back_158
      · obtain rfl : n = 159 := by omega
        exact back_159
    · obtain rfl : n = 160 := by omega
      exact back_160
end Go.Proofs.Ytlmacbiahofmcaa.M
