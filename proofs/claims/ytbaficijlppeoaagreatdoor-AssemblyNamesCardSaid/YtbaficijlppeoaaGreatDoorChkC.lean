/-
  Checks of the calls that were worked out, part 2.
-/
import Derived.Test.YtbaficijlppeoaaGreatDoorTab
set_option linter.unusedSimpArgs false
set_option linter.unusedVariables false

namespace Go.Proofs.YtbaficijlppeoaaGreatDoor
open Go Dv
theorem c1_8 : checkK (E0.upto tree 0) 100000 8 k1_8 = true := by kernel_rfl
theorem c1_14 : checkK (E0.upto tree 0) 100000 14 k1_14 = true := by kernel_rfl
theorem c1_45 : checkK (E0.upto tree 0) 100000 45 k1_45 = true := by kernel_rfl
theorem c1_54 : checkK (E0.upto tree 0) 100000 54 k1_54 = true := by kernel_rfl
theorem c1_79 : checkK (E0.upto tree 0) 100000 79 k1_79 = true := by kernel_rfl
theorem c1_157 : checkK (E0.upto tree 0) 100000 157 k1_157 = true := by kernel_rfl
theorem c1_167 : checkK (E0.upto tree 0) 100000 167 k1_167 = true := by kernel_rfl
theorem c1_191_0 : checkK (E0.upto tree 0) 100000 191 k1_191_0 = true := by kernel_rfl
theorem c1_191_1 : checkK (E0.upto tree 0) 100000 191 k1_191_1 = true := by kernel_rfl
theorem c1_195_1 : checkK (E0.upto tree 0) 100000 195 k1_195_1 = true := by kernel_rfl
theorem c1_195_4 : checkK (E0.upto tree 0) 100000 195 k1_195_4 = true := by kernel_rfl
theorem c1_204 : checkK (E0.upto tree 0) 100000 204 k1_204 = true := by kernel_rfl
theorem c2_34 : checkK (E0.upto tree 1) 100000 34 k2_34 = true := by kernel_rfl
theorem c2_38 : checkK (E0.upto tree 1) 100000 38 k2_38 = true := by kernel_rfl
theorem c2_72 : checkK (E0.upto tree 1) 100000 72 k2_72 = true := by kernel_rfl
theorem c2_159_1 : checkK (E0.upto tree 1) 100000 159 k2_159_1 = true := by kernel_rfl
theorem c2_196_3 : checkK (E0.upto tree 1) 100000 196 k2_196_3 = true := by kernel_rfl
theorem c3_37_1 : checkK (E0.upto tree 2) 100000 37 k3_37_1 = true := by kernel_rfl
theorem c3_44 : checkK (E0.upto tree 2) 100000 44 k3_44 = true := by kernel_rfl
theorem c3_131 : checkK (E0.upto tree 2) 100000 131 k3_131 = true := by kernel_rfl
theorem c3_173 : checkK (E0.upto tree 2) 100000 173 k3_173 = true := by kernel_rfl
theorem c4_62 : checkK (E0.upto tree 3) 100000 62 k4_62 = true := by kernel_rfl
theorem c4_97 : checkK (E0.upto tree 3) 100000 97 k4_97 = true := by kernel_rfl
theorem c5_18_2 : checkK (E0.upto tree 4) 100000 18 k5_18_2 = true := by kernel_rfl
theorem c5_24 : checkK (E0.upto tree 4) 100000 24 k5_24 = true := by kernel_rfl
theorem c5_71 : checkK (E0.upto tree 4) 100000 71 k5_71 = true := by kernel_rfl
theorem c5_97 : checkK (E0.upto tree 4) 100000 97 k5_97 = true := by kernel_rfl
theorem c5_100 : checkK (E0.upto tree 4) 100000 100 k5_100 = true := by kernel_rfl
theorem c6_71 : checkK (E0.upto tree 5) 100000 71 k6_71 = true := by kernel_rfl
theorem c6_84_1 : checkK (E0.upto tree 5) 100000 84 k6_84_1 = true := by kernel_rfl
theorem c6_119_0 : checkK (E0.upto tree 5) 100000 119 k6_119_0 = true := by kernel_rfl
theorem c6_119_4 : checkK (E0.upto tree 5) 100000 119 k6_119_4 = true := by kernel_rfl
theorem c6_119_5 : checkK (E0.upto tree 5) 100000 119 k6_119_5 = true := by kernel_rfl
theorem c6_131 : checkK (E0.upto tree 5) 100000 131 k6_131 = true := by kernel_rfl
theorem c7_48 : checkK (E0.upto tree 6) 100000 48 k7_48 = true := by kernel_rfl
theorem c7_78_0 : checkK (E0.upto tree 6) 100000 78 k7_78_0 = true := by kernel_rfl
theorem c9_33 : checkK (E0.upto tree 8) 100000 33 k9_33 = true := by kernel_rfl
theorem c9_78_0 : checkK (E0.upto tree 8) 100000 78 k9_78_0 = true := by kernel_rfl
theorem c13_12 : checkK (E0.upto tree 12) 100000 12 k13_12 = true := by kernel_rfl
end Go.Proofs.YtbaficijlppeoaaGreatDoor
