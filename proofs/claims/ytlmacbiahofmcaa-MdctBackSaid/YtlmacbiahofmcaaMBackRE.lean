/- Blocks of 144 to 153: how far the sums over the cosines' table lie from what they should be, row by row. -/
import Derived.Test.YtlmacbiahofmcaaMBack2
import Derived.KernelRfl
namespace Go.Proofs.Ytlmacbiahofmcaa.M
set_option linter.unusedVariables false
theorem back_144 : chk 144 = true := by kernel_rfl
theorem back_145 : chk 145 = true := by kernel_rfl
theorem back_146 : chk 146 = true := by kernel_rfl
theorem back_147 : chk 147 = true := by kernel_rfl
theorem back_148 : chk 148 = true := by kernel_rfl
theorem back_149 : chk 149 = true := by kernel_rfl
theorem back_150 : chk 150 = true := by kernel_rfl
theorem back_151 : chk 151 = true := by kernel_rfl
theorem back_152 : chk 152 = true := by kernel_rfl
theorem back_153 : chk 153 = true := by kernel_rfl
theorem backs_4 (n : Nat) (h1 : 144 ≤ n) (h2 : n ≤ 153) : chk n = true := by
  by_cases c144_153 : n ≤ 148
  · by_cases c144_148 : n ≤ 146
    · by_cases c144_146 : n ≤ 145
      · by_cases c144_145 : n ≤ 144
        · obtain rfl : n = 144 := by omega
          exact back_144
        · obtain rfl : n = 145 := by omega
          exact back_145
      · obtain rfl : n = 146 := by omega
        exact back_146
    · by_cases c147_148 : n ≤ 147
      · obtain rfl : n = 147 := by omega
        exact back_147
      · obtain rfl : n = 148 := by omega
        exact back_148
  · by_cases c149_153 : n ≤ 151
    · by_cases c149_151 : n ≤ 150
      · by_cases c149_150 : n ≤ 149
        · obtain rfl : n = 149 := by omega
          exact back_149
        · obtain rfl : n = 150 := by omega
          exact back_150
      · obtain rfl : n = 151 := by omega
        exact back_151
    · by_cases c152_153 : n ≤ 152
      · obtain rfl : n = 152 := by omega
        exact back_152
      · obtain rfl : n = 153 := by omega
        exact back_153
end Go.Proofs.Ytlmacbiahofmcaa.M
