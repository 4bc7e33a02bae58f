/-
  The layers of calls together.
-/
import Derived.Test.YtbaficijlppeoaaGreatDoorAxes
import Derived.Test.YtbaficijlppeoaaGreatDoorChkA
import Derived.Test.YtbaficijlppeoaaGreatDoorChkB
import Derived.Test.YtbaficijlppeoaaGreatDoorChkC
import Derived.Test.YtbaficijlppeoaaGreatDoorChkD
set_option linter.unusedSimpArgs false
set_option linter.unusedVariables false

namespace Go.Proofs.YtbaficijlppeoaaGreatDoor
open Go Dv
theorem c1_191 : checkK (E0.upto tree 0) 100000 191 k1_191 = true := by simp only [k1_191, checkK_append, Bool.and_self, c1_191_0, c1_191_1, c1_191_2]
theorem c1_192 : checkK (E0.upto tree 0) 100000 192 k1_192 = true := by simp only [k1_192, checkK_append, Bool.and_self, c1_192_0, c1_192_1]
theorem c1_195 : checkK (E0.upto tree 0) 100000 195 k1_195 = true := by simp only [k1_195, checkK_append, Bool.and_self, c1_195_0, c1_195_1, c1_195_2, c1_195_3, c1_195_4, c1_195_5]
theorem c2_159 : checkK (E0.upto tree 1) 100000 159 k2_159 = true := by simp only [k2_159, checkK_append, Bool.and_self, c2_159_0, c2_159_1]
theorem c2_196 : checkK (E0.upto tree 1) 100000 196 k2_196 = true := by simp only [k2_196, checkK_append, Bool.and_self, c2_196_0, c2_196_1, c2_196_2, c2_196_3, c2_196_4, c2_196_5, c2_196_6]
theorem c3_35 : checkK (E0.upto tree 2) 100000 35 k3_35 = true := by simp only [k3_35, checkK_append, Bool.and_self, c3_35_0, c3_35_1, c3_35_2]
theorem c3_37 : checkK (E0.upto tree 2) 100000 37 k3_37 = true := by simp only [k3_37, checkK_append, Bool.and_self, c3_37_0, c3_37_1]
theorem c4_17 : checkK (E0.upto tree 3) 100000 17 k4_17 = true := by simp only [k4_17, checkK_append, Bool.and_self, c4_17_0, c4_17_1]
theorem c5_18 : checkK (E0.upto tree 4) 100000 18 k5_18 = true := by simp only [k5_18, checkK_append, Bool.and_self, c5_18_0, c5_18_1, c5_18_2, c5_18_3]
theorem c5_52 : checkK (E0.upto tree 4) 100000 52 k5_52 = true := by simp only [k5_52, checkK_append, Bool.and_self, c5_52_0, c5_52_1]
theorem c6_84 : checkK (E0.upto tree 5) 100000 84 k6_84 = true := by simp only [k6_84, checkK_append, Bool.and_self, c6_84_0, c6_84_1]
theorem c6_109 : checkK (E0.upto tree 5) 100000 109 k6_109 = true := by simp only [k6_109, checkK_append, Bool.and_self, c6_109_0, c6_109_1]
theorem c6_119 : checkK (E0.upto tree 5) 100000 119 k6_119 = true := by simp only [k6_119, checkK_append, Bool.and_self, c6_119_0, c6_119_1, c6_119_2, c6_119_3, c6_119_4, c6_119_5]
theorem c7_78 : checkK (E0.upto tree 6) 100000 78 k7_78 = true := by simp only [k7_78, checkK_append, Bool.and_self, c7_78_0, c7_78_1, c7_78_2]
theorem c7_135 : checkK (E0.upto tree 6) 100000 135 k7_135 = true := by simp only [k7_135, checkK_append, Bool.and_self, c7_135_0, c7_135_1]
theorem c8_119 : checkK (E0.upto tree 7) 100000 119 k8_119 = true := by simp only [k8_119, checkK_append, Bool.and_self, c8_119_0, c8_119_1]
theorem c9_78 : checkK (E0.upto tree 8) 100000 78 k9_78 = true := by simp only [k9_78, checkK_append, Bool.and_self, c9_78_0, c9_78_1]
theorem c12_50 : checkK (E0.upto tree 11) 100000 50 k12_50 = true := by simp only [k12_50, checkK_append, Bool.and_self, c12_50_0, c12_50_1]
theorem g0 : AllGood E0 Tryz.prog tree 0 := AllGood.zero (by kernel_rfl)
theorem lays1 : (tree.leaves.filter fun x => x.2.1 == 1).map (fun x => (x.1, x.2.2)) = lay1 := by kernel_rfl
theorem t1 : checkT (E0.upto tree 0) 100000 lay1 = true := by simp only [lay1, checkT, List.all_cons, List.all_nil, Bool.and_self, c1_5, c1_8, c1_14, c1_25, c1_45, c1_54, c1_55, c1_59, c1_60, c1_61, c1_62, c1_64, c1_73, c1_74, c1_79, c1_123, c1_136, c1_139, c1_141, c1_157, c1_166, c1_167, c1_190, c1_191, c1_192, c1_195, c1_197, c1_204, c1_205, c1_206, c1_207]
theorem g1 : AllGood E0 Tryz.prog tree 1 := g0.layer valid0 ovok0 lays1 t1
theorem lays2 : (tree.leaves.filter fun x => x.2.1 == 2).map (fun x => (x.1, x.2.2)) = lay2 := by kernel_rfl
theorem t2 : checkT (E0.upto tree 1) 100000 lay2 = true := by simp only [lay2, checkT, List.all_cons, List.all_nil, Bool.and_self, c2_34, c2_38, c2_43, c2_55, c2_57, c2_65, c2_72, c2_80, c2_145, c2_156, c2_159, c2_165, c2_170, c2_171, c2_196]
theorem g2 : AllGood E0 Tryz.prog tree 2 := g1.layer valid0 ovok0 lays2 t2
theorem lays3 : (tree.leaves.filter fun x => x.2.1 == 3).map (fun x => (x.1, x.2.2)) = lay3 := by kernel_rfl
theorem t3 : checkT (E0.upto tree 2) 100000 lay3 = true := by simp only [lay3, checkT, List.all_cons, List.all_nil, Bool.and_self, c3_23, c3_35, c3_37, c3_44, c3_45, c3_49, c3_62, c3_63, c3_80, c3_128, c3_131, c3_158, c3_173]
theorem g3 : AllGood E0 Tryz.prog tree 3 := g2.layer valid0 ovok0 lays3 t3
theorem lays4 : (tree.leaves.filter fun x => x.2.1 == 4).map (fun x => (x.1, x.2.2)) = lay4 := by kernel_rfl
theorem t4 : checkT (E0.upto tree 3) 100000 lay4 = true := by simp only [lay4, checkT, List.all_cons, List.all_nil, Bool.and_self, c4_17, c4_22, c4_23, c4_32, c4_56, c4_62, c4_63, c4_97, c4_112, c4_127]
theorem g4 : AllGood E0 Tryz.prog tree 4 := g3.layer valid0 ovok0 lays4 t4
theorem lays5 : (tree.leaves.filter fun x => x.2.1 == 5).map (fun x => (x.1, x.2.2)) = lay5 := by kernel_rfl
theorem t5 : checkT (E0.upto tree 4) 100000 lay5 = true := by simp only [lay5, checkT, List.all_cons, List.all_nil, Bool.and_self, c5_18, c5_24, c5_34, c5_36, c5_38, c5_40, c5_52, c5_71, c5_97, c5_100, c5_105, c5_114, c5_126, c5_141]
theorem g5 : AllGood E0 Tryz.prog tree 5 := g4.layer valid0 ovok0 lays5 t5
theorem lays6 : (tree.leaves.filter fun x => x.2.1 == 6).map (fun x => (x.1, x.2.2)) = lay6 := by kernel_rfl
theorem t6 : checkT (E0.upto tree 5) 100000 lay6 = true := by simp only [lay6, checkT, List.all_cons, List.all_nil, Bool.and_self, c6_17, c6_19, c6_21, c6_23, c6_32, c6_48, c6_71, c6_84, c6_106, c6_109, c6_119, c6_131, c6_138]
theorem g6 : AllGood E0 Tryz.prog tree 6 := g5.layer valid0 ovok0 lays6 t6
theorem lays7 : (tree.leaves.filter fun x => x.2.1 == 7).map (fun x => (x.1, x.2.2)) = lay7 := by kernel_rfl
theorem t7 : checkT (E0.upto tree 6) 100000 lay7 = true := by simp only [lay7, checkT, List.all_cons, List.all_nil, Bool.and_self, c7_18, c7_24, c7_40, c7_48, c7_52, c7_78, c7_83, c7_112, c7_114, c7_135]
theorem g7 : AllGood E0 Tryz.prog tree 7 := g6.layer valid0 ovok0 lays7 t7
theorem lays8 : (tree.leaves.filter fun x => x.2.1 == 8).map (fun x => (x.1, x.2.2)) = lay8 := by kernel_rfl
theorem t8 : checkT (E0.upto tree 7) 100000 lay8 = true := by simp only [lay8, checkT, List.all_cons, List.all_nil, Bool.and_self, c8_19, c8_42, c8_84, c8_119]
theorem g8 : AllGood E0 Tryz.prog tree 8 := g7.layer valid0 ovok0 lays8 t8
theorem lays9 : (tree.leaves.filter fun x => x.2.1 == 9).map (fun x => (x.1, x.2.2)) = lay9 := by kernel_rfl
theorem t9 : checkT (E0.upto tree 8) 100000 lay9 = true := by simp only [lay9, checkT, List.all_cons, List.all_nil, Bool.and_self, c9_33, c9_78, c9_105]
theorem g9 : AllGood E0 Tryz.prog tree 9 := g8.layer valid0 ovok0 lays9 t9
theorem lays10 : (tree.leaves.filter fun x => x.2.1 == 10).map (fun x => (x.1, x.2.2)) = lay10 := by kernel_rfl
theorem t10 : checkT (E0.upto tree 9) 100000 lay10 = true := by simp only [lay10, checkT, List.all_cons, List.all_nil, Bool.and_self, c10_92, c10_108]
theorem g10 : AllGood E0 Tryz.prog tree 10 := g9.layer valid0 ovok0 lays10 t10
theorem lays11 : (tree.leaves.filter fun x => x.2.1 == 11).map (fun x => (x.1, x.2.2)) = lay11 := by kernel_rfl
theorem t11 : checkT (E0.upto tree 10) 100000 lay11 = true := by simp only [lay11, checkT, List.all_cons, List.all_nil, Bool.and_self, c11_70]
theorem g11 : AllGood E0 Tryz.prog tree 11 := g10.layer valid0 ovok0 lays11 t11
theorem lays12 : (tree.leaves.filter fun x => x.2.1 == 12).map (fun x => (x.1, x.2.2)) = lay12 := by kernel_rfl
theorem t12 : checkT (E0.upto tree 11) 100000 lay12 = true := by simp only [lay12, checkT, List.all_cons, List.all_nil, Bool.and_self, c12_47, c12_50]
theorem g12 : AllGood E0 Tryz.prog tree 12 := g11.layer valid0 ovok0 lays12 t12
theorem lays13 : (tree.leaves.filter fun x => x.2.1 == 13).map (fun x => (x.1, x.2.2)) = lay13 := by kernel_rfl
theorem t13 : checkT (E0.upto tree 12) 100000 lay13 = true := by simp only [lay13, checkT, List.all_cons, List.all_nil, Bool.and_self, c13_12]
theorem g13 : AllGood E0 Tryz.prog tree 13 := g12.layer valid0 ovok0 lays13 t13
theorem lays14 : (tree.leaves.filter fun x => x.2.1 == 14).map (fun x => (x.1, x.2.2)) = lay14 := by kernel_rfl
theorem g14 : AllGood E0 Tryz.prog tree 14 := g13.other lays14 (axes_layer (N := 100000) valid0 ovok0 g13 (by kernel_rfl))
theorem lays15 : (tree.leaves.filter fun x => x.2.1 == 15).map (fun x => (x.1, x.2.2)) = lay15 := by kernel_rfl
theorem t15 : checkT (E0.upto tree 14) 100000 lay15 = true := by simp only [lay15, checkT, List.all_cons, List.all_nil, Bool.and_self, c15_51]
theorem g15 : AllGood E0 Tryz.prog tree 15 := g14.layer valid0 ovok0 lays15 t15
theorem lays16 : (tree.leaves.filter fun x => x.2.1 == 16).map (fun x => (x.1, x.2.2)) = lay16 := by kernel_rfl
theorem t16 : checkT (E0.upto tree 15) 100000 lay16 = true := by simp only [lay16, checkT, List.all_cons, List.all_nil, Bool.and_self, c16_31]
theorem g16 : AllGood E0 Tryz.prog tree 16 := g15.layer valid0 ovok0 lays16 t16
end Go.Proofs.YtbaficijlppeoaaGreatDoor
