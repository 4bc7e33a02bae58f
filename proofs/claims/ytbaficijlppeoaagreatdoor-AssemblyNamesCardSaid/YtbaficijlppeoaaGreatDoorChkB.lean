/-
  Checks of the calls that were worked out, part 1.
-/
import Derived.Test.YtbaficijlppeoaaGreatDoorTab
set_option linter.unusedSimpArgs false
set_option linter.unusedVariables false

namespace Go.Proofs.YtbaficijlppeoaaGreatDoor
open Go Dv
theorem c1_55 : checkK (E0.upto tree 0) 100000 55 k1_55 = true := by kernel_rfl
theorem c1_59 : checkK (E0.upto tree 0) 100000 59 k1_59 = true := by kernel_rfl
theorem c1_62 : checkK (E0.upto tree 0) 100000 62 k1_62 = true := by kernel_rfl
theorem c1_73 : checkK (E0.upto tree 0) 100000 73 k1_73 = true := by kernel_rfl
theorem c1_74 : checkK (E0.upto tree 0) 100000 74 k1_74 = true := by kernel_rfl
theorem c1_141 : checkK (E0.upto tree 0) 100000 141 k1_141 = true := by kernel_rfl
theorem c1_166 : checkK (E0.upto tree 0) 100000 166 k1_166 = true := by kernel_rfl
theorem c1_191_2 : checkK (E0.upto tree 0) 100000 191 k1_191_2 = true := by kernel_rfl
theorem c1_195_0 : checkK (E0.upto tree 0) 100000 195 k1_195_0 = true := by kernel_rfl
theorem c1_195_3 : checkK (E0.upto tree 0) 100000 195 k1_195_3 = true := by kernel_rfl
theorem c1_195_5 : checkK (E0.upto tree 0) 100000 195 k1_195_5 = true := by kernel_rfl
theorem c2_55 : checkK (E0.upto tree 1) 100000 55 k2_55 = true := by kernel_rfl
theorem c2_57 : checkK (E0.upto tree 1) 100000 57 k2_57 = true := by kernel_rfl
theorem c2_65 : checkK (E0.upto tree 1) 100000 65 k2_65 = true := by kernel_rfl
theorem c2_80 : checkK (E0.upto tree 1) 100000 80 k2_80 = true := by kernel_rfl
theorem c2_145 : checkK (E0.upto tree 1) 100000 145 k2_145 = true := by kernel_rfl
theorem c2_171 : checkK (E0.upto tree 1) 100000 171 k2_171 = true := by kernel_rfl
theorem c2_196_1 : checkK (E0.upto tree 1) 100000 196 k2_196_1 = true := by kernel_rfl
theorem c2_196_4 : checkK (E0.upto tree 1) 100000 196 k2_196_4 = true := by kernel_rfl
theorem c2_196_6 : checkK (E0.upto tree 1) 100000 196 k2_196_6 = true := by kernel_rfl
theorem c4_23 : checkK (E0.upto tree 3) 100000 23 k4_23 = true := by kernel_rfl
theorem c5_18_0 : checkK (E0.upto tree 4) 100000 18 k5_18_0 = true := by kernel_rfl
theorem c5_34 : checkK (E0.upto tree 4) 100000 34 k5_34 = true := by kernel_rfl
theorem c5_40 : checkK (E0.upto tree 4) 100000 40 k5_40 = true := by kernel_rfl
theorem c5_52_1 : checkK (E0.upto tree 4) 100000 52 k5_52_1 = true := by kernel_rfl
theorem c5_114 : checkK (E0.upto tree 4) 100000 114 k5_114 = true := by kernel_rfl
theorem c6_19 : checkK (E0.upto tree 5) 100000 19 k6_19 = true := by kernel_rfl
theorem c6_21 : checkK (E0.upto tree 5) 100000 21 k6_21 = true := by kernel_rfl
theorem c6_32 : checkK (E0.upto tree 5) 100000 32 k6_32 = true := by kernel_rfl
theorem c6_106 : checkK (E0.upto tree 5) 100000 106 k6_106 = true := by kernel_rfl
theorem c6_119_2 : checkK (E0.upto tree 5) 100000 119 k6_119_2 = true := by kernel_rfl
theorem c6_138 : checkK (E0.upto tree 5) 100000 138 k6_138 = true := by kernel_rfl
theorem c7_18 : checkK (E0.upto tree 6) 100000 18 k7_18 = true := by kernel_rfl
theorem c7_40 : checkK (E0.upto tree 6) 100000 40 k7_40 = true := by kernel_rfl
theorem c7_78_1 : checkK (E0.upto tree 6) 100000 78 k7_78_1 = true := by kernel_rfl
theorem c7_114 : checkK (E0.upto tree 6) 100000 114 k7_114 = true := by kernel_rfl
theorem c7_135_0 : checkK (E0.upto tree 6) 100000 135 k7_135_0 = true := by kernel_rfl
theorem c8_42 : checkK (E0.upto tree 7) 100000 42 k8_42 = true := by kernel_rfl
theorem c8_84 : checkK (E0.upto tree 7) 100000 84 k8_84 = true := by kernel_rfl
end Go.Proofs.YtbaficijlppeoaaGreatDoor
