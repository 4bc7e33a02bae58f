/-
  Checks of the calls that were worked out, part 3.
-/
import Derived.Test.YtbaficijlppeoaaGreatDoorTab
set_option linter.unusedSimpArgs false
set_option linter.unusedVariables false

namespace Go.Proofs.YtbaficijlppeoaaGreatDoor
open Go Dv
theorem c1_25 : checkK (E0.upto tree 0) 100000 25 k1_25 = true := by kernel_rfl
theorem c1_61 : checkK (E0.upto tree 0) 100000 61 k1_61 = true := by kernel_rfl
theorem c1_64 : checkK (E0.upto tree 0) 100000 64 k1_64 = true := by kernel_rfl
theorem c1_139 : checkK (E0.upto tree 0) 100000 139 k1_139 = true := by kernel_rfl
theorem c1_195_2 : checkK (E0.upto tree 0) 100000 195 k1_195_2 = true := by kernel_rfl
theorem c1_197 : checkK (E0.upto tree 0) 100000 197 k1_197 = true := by kernel_rfl
theorem c1_206 : checkK (E0.upto tree 0) 100000 206 k1_206 = true := by kernel_rfl
theorem c1_207 : checkK (E0.upto tree 0) 100000 207 k1_207 = true := by kernel_rfl
theorem c2_43 : checkK (E0.upto tree 1) 100000 43 k2_43 = true := by kernel_rfl
theorem c2_156 : checkK (E0.upto tree 1) 100000 156 k2_156 = true := by kernel_rfl
theorem c2_165 : checkK (E0.upto tree 1) 100000 165 k2_165 = true := by kernel_rfl
theorem c2_196_0 : checkK (E0.upto tree 1) 100000 196 k2_196_0 = true := by kernel_rfl
theorem c2_196_5 : checkK (E0.upto tree 1) 100000 196 k2_196_5 = true := by kernel_rfl
theorem c3_35_0 : checkK (E0.upto tree 2) 100000 35 k3_35_0 = true := by kernel_rfl
theorem c3_35_1 : checkK (E0.upto tree 2) 100000 35 k3_35_1 = true := by kernel_rfl
theorem c3_37_0 : checkK (E0.upto tree 2) 100000 37 k3_37_0 = true := by kernel_rfl
theorem c3_49 : checkK (E0.upto tree 2) 100000 49 k3_49 = true := by kernel_rfl
theorem c3_158 : checkK (E0.upto tree 2) 100000 158 k3_158 = true := by kernel_rfl
theorem c4_17_1 : checkK (E0.upto tree 3) 100000 17 k4_17_1 = true := by kernel_rfl
theorem c4_22 : checkK (E0.upto tree 3) 100000 22 k4_22 = true := by kernel_rfl
theorem c4_112 : checkK (E0.upto tree 3) 100000 112 k4_112 = true := by kernel_rfl
theorem c4_127 : checkK (E0.upto tree 3) 100000 127 k4_127 = true := by kernel_rfl
theorem c5_18_1 : checkK (E0.upto tree 4) 100000 18 k5_18_1 = true := by kernel_rfl
theorem c5_18_3 : checkK (E0.upto tree 4) 100000 18 k5_18_3 = true := by kernel_rfl
theorem c5_38 : checkK (E0.upto tree 4) 100000 38 k5_38 = true := by kernel_rfl
theorem c5_126 : checkK (E0.upto tree 4) 100000 126 k5_126 = true := by kernel_rfl
theorem c6_23 : checkK (E0.upto tree 5) 100000 23 k6_23 = true := by kernel_rfl
theorem c6_48 : checkK (E0.upto tree 5) 100000 48 k6_48 = true := by kernel_rfl
theorem c6_109_0 : checkK (E0.upto tree 5) 100000 109 k6_109_0 = true := by kernel_rfl
theorem c6_119_3 : checkK (E0.upto tree 5) 100000 119 k6_119_3 = true := by kernel_rfl
theorem c7_52 : checkK (E0.upto tree 6) 100000 52 k7_52 = true := by kernel_rfl
theorem c7_78_2 : checkK (E0.upto tree 6) 100000 78 k7_78_2 = true := by kernel_rfl
theorem c7_83 : checkK (E0.upto tree 6) 100000 83 k7_83 = true := by kernel_rfl
theorem c7_112 : checkK (E0.upto tree 6) 100000 112 k7_112 = true := by kernel_rfl
theorem c8_19 : checkK (E0.upto tree 7) 100000 19 k8_19 = true := by kernel_rfl
theorem c8_119_1 : checkK (E0.upto tree 7) 100000 119 k8_119_1 = true := by kernel_rfl
theorem c10_92 : checkK (E0.upto tree 9) 100000 92 k10_92 = true := by kernel_rfl
theorem c12_47 : checkK (E0.upto tree 11) 100000 47 k12_47 = true := by kernel_rfl
theorem c12_50_1 : checkK (E0.upto tree 11) 100000 50 k12_50_1 = true := by kernel_rfl
end Go.Proofs.YtbaficijlppeoaaGreatDoor
