/-
  Checks of the calls that were worked out, part 0.
-/
import Derived.Test.YtbaficijlppeoaaGreatDoorTab
set_option linter.unusedSimpArgs false
set_option linter.unusedVariables false

namespace Go.Proofs.YtbaficijlppeoaaGreatDoor
open Go Dv
theorem c1_5 : checkK (E0.upto tree 0) 100000 5 k1_5 = true := by kernel_rfl
theorem c1_60 : checkK (E0.upto tree 0) 100000 60 k1_60 = true := by kernel_rfl
theorem c1_123 : checkK (E0.upto tree 0) 100000 123 k1_123 = true := by kernel_rfl
theorem c1_136 : checkK (E0.upto tree 0) 100000 136 k1_136 = true := by kernel_rfl
theorem c1_190 : checkK (E0.upto tree 0) 100000 190 k1_190 = true := by kernel_rfl
theorem c1_192_0 : checkK (E0.upto tree 0) 100000 192 k1_192_0 = true := by kernel_rfl
theorem c1_192_1 : checkK (E0.upto tree 0) 100000 192 k1_192_1 = true := by kernel_rfl
theorem c1_205 : checkK (E0.upto tree 0) 100000 205 k1_205 = true := by kernel_rfl
theorem c2_159_0 : checkK (E0.upto tree 1) 100000 159 k2_159_0 = true := by kernel_rfl
theorem c2_170 : checkK (E0.upto tree 1) 100000 170 k2_170 = true := by kernel_rfl
theorem c2_196_2 : checkK (E0.upto tree 1) 100000 196 k2_196_2 = true := by kernel_rfl
theorem c3_23 : checkK (E0.upto tree 2) 100000 23 k3_23 = true := by kernel_rfl
theorem c3_35_2 : checkK (E0.upto tree 2) 100000 35 k3_35_2 = true := by kernel_rfl
theorem c3_45 : checkK (E0.upto tree 2) 100000 45 k3_45 = true := by kernel_rfl
theorem c3_62 : checkK (E0.upto tree 2) 100000 62 k3_62 = true := by kernel_rfl
theorem c3_63 : checkK (E0.upto tree 2) 100000 63 k3_63 = true := by kernel_rfl
theorem c3_80 : checkK (E0.upto tree 2) 100000 80 k3_80 = true := by kernel_rfl
theorem c3_128 : checkK (E0.upto tree 2) 100000 128 k3_128 = true := by kernel_rfl
theorem c4_17_0 : checkK (E0.upto tree 3) 100000 17 k4_17_0 = true := by kernel_rfl
theorem c4_32 : checkK (E0.upto tree 3) 100000 32 k4_32 = true := by kernel_rfl
theorem c4_56 : checkK (E0.upto tree 3) 100000 56 k4_56 = true := by kernel_rfl
theorem c4_63 : checkK (E0.upto tree 3) 100000 63 k4_63 = true := by kernel_rfl
theorem c5_36 : checkK (E0.upto tree 4) 100000 36 k5_36 = true := by kernel_rfl
theorem c5_52_0 : checkK (E0.upto tree 4) 100000 52 k5_52_0 = true := by kernel_rfl
theorem c5_105 : checkK (E0.upto tree 4) 100000 105 k5_105 = true := by kernel_rfl
theorem c5_141 : checkK (E0.upto tree 4) 100000 141 k5_141 = true := by kernel_rfl
theorem c6_17 : checkK (E0.upto tree 5) 100000 17 k6_17 = true := by kernel_rfl
theorem c6_84_0 : checkK (E0.upto tree 5) 100000 84 k6_84_0 = true := by kernel_rfl
theorem c6_109_1 : checkK (E0.upto tree 5) 100000 109 k6_109_1 = true := by kernel_rfl
theorem c6_119_1 : checkK (E0.upto tree 5) 100000 119 k6_119_1 = true := by kernel_rfl
theorem c7_24 : checkK (E0.upto tree 6) 100000 24 k7_24 = true := by kernel_rfl
theorem c7_135_1 : checkK (E0.upto tree 6) 100000 135 k7_135_1 = true := by kernel_rfl
theorem c8_119_0 : checkK (E0.upto tree 7) 100000 119 k8_119_0 = true := by kernel_rfl
theorem c9_78_1 : checkK (E0.upto tree 8) 100000 78 k9_78_1 = true := by kernel_rfl
theorem c9_105 : checkK (E0.upto tree 8) 100000 105 k9_105 = true := by kernel_rfl
theorem c10_108 : checkK (E0.upto tree 9) 100000 108 k10_108 = true := by kernel_rfl
theorem c11_70 : checkK (E0.upto tree 10) 100000 70 k11_70 = true := by kernel_rfl
theorem c12_50_0 : checkK (E0.upto tree 11) 100000 50 k12_50_0 = true := by kernel_rfl
theorem c15_51 : checkK (E0.upto tree 14) 100000 51 k15_51 = true := by kernel_rfl
theorem c16_31 : checkK (E0.upto tree 15) 100000 31 k16_31 = true := by kernel_rfl
end Go.Proofs.YtbaficijlppeoaaGreatDoor
