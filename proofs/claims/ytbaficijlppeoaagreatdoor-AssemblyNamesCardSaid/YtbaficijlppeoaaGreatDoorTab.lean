/-
  Calls that were worked out before: data only.
-/
import Derived.Test.YtbaficijlppeoaaGreatDoorEnv
import Derived.Test.YtbaficijlppeoaaGreatDoorEvE
set_option linter.unusedSimpArgs false
set_option linter.unusedVariables false

namespace Go.Proofs.YtbaficijlppeoaaGreatDoor
open Go Dv
def a0 : AV := .vslice [.int .i64 0, .int .i64 0, .int .i64 0, .int .i64 0, .int .i64 0, .int .i64 1, .int .i64 0, .int .i64 1, .int .i64 0, .int .i64 0, .int .i64 1, .int .i64 1, .int .i64 1, .int .i64 0, .int .i64 0, .int .i64 1, .int .i64 0, .int .i64 1, .int .i64 1, .int .i64 1, .int .i64 0, .int .i64 1, .int .i64 1, .int .i64 1] 8
def a1 : AV := .vslice [.str [99, 117, 98, 101], .int .i64 1, .vslice [a0] 1] 1
def a2 : AV := .agg [a1, .vslice [.str [97], .str [99, 117, 98, 101], .int .i64 1, .int .i64 0, .int .i64 0, .int .i64 0, .str [48], .str [48], .str [48], .str [98], .str [99, 117, 98, 101], .int .i64 1, .int .i64 0, .int .i64 0, .int .i64 0, .str [49, 47, 50], .str [48], .str [48]] 2]
def a3 : AV := .vslice [.str [97], .str [99, 117, 98, 101], .int .i64 1, .int .i64 0, .int .i64 0, .int .i64 0, .str [48], .str [48], .str [48], .str [98], .str [99, 117, 98, 101], .int .i64 1, .int .i64 0, .int .i64 0, .int .i64 0, .str [51], .str [48], .str [48]] 2
def a4 : AV := .agg [a1, .vslice [.str [97], .str [99, 117, 98, 101], .int .i64 1, .int .i64 0, .int .i64 0, .int .i64 0, .str [48], .str [48], .str [48], .str [98], .str [99, 117, 98, 101], .int .i64 1, .int .i64 0, .int .i64 0, .int .i64 0, .str [49], .str [48], .str [48]] 2]
def a5 : AV := .vslice [.bool false, .eslice, .bool false, .nilslice, .bool false, .eslice, .bool false, .nilslice, .bool false, .eslice, .bool false, .nilslice, .bool false, .eslice, .bool false, .nilslice, .bool false, .eslice, .bool false, .nilslice, .bool false, .vslice [.int .u32 1] 1, .bool false, .nilslice, .bool false, .eslice, .bool false, .nilslice, .bool false, .vslice [.int .u32 1] 1, .bool false, .nilslice, .bool false, .eslice, .bool false, .nilslice, .bool false, .eslice, .bool false, .nilslice, .bool false, .vslice [.int .u32 1] 1, .bool false, .nilslice, .bool false, .vslice [.int .u32 1] 1, .bool false, .nilslice, .bool false, .vslice [.int .u32 1] 1, .bool false, .nilslice, .bool false, .eslice, .bool false, .nilslice, .bool false, .eslice, .bool false, .nilslice, .bool false, .vslice [.int .u32 1] 1, .bool false, .nilslice, .bool false, .eslice, .bool false, .nilslice, .bool false, .vslice [.int .u32 1] 1, .bool false, .nilslice, .bool false, .vslice [.int .u32 1] 1, .bool false, .nilslice, .bool false, .vslice [.int .u32 1] 1, .bool false, .nilslice, .bool false, .eslice, .bool false, .nilslice, .bool false, .vslice [.int .u32 1] 1, .bool false, .nilslice, .bool false, .vslice [.int .u32 1] 1, .bool false, .nilslice, .bool false, .vslice [.int .u32 1] 1, .bool false, .nilslice] 8
def a6 : AV := .vslice [.int .i64 0, .int .i64 1, .int .i64 3, .int .i64 2] 4
def a7 : AV := .vslice [.int .i64 0, .int .i64 2, .int .i64 6, .int .i64 4] 4
def a8 : AV := .vslice [.int .i64 0, .int .i64 4, .int .i64 5, .int .i64 1] 4
def a9 : AV := .vslice [.int .i64 1, .int .i64 5, .int .i64 7, .int .i64 3] 4
def a10 : AV := .vslice [.int .i64 2, .int .i64 3, .int .i64 7, .int .i64 6] 4
def a11 : AV := .vslice [.int .i64 4, .int .i64 6, .int .i64 7, .int .i64 5] 4
def a12 : AV := .vslice [.bool true, .vslice [.int .u32 1] 1, .bool false, .nilslice, .bool false, .eslice, .bool false, .nilslice, .bool false, .eslice, .bool false, .nilslice, .bool false, .eslice, .bool false, .nilslice, a6, .bool false, .eslice, .bool false, .nilslice, .bool false, .eslice, .bool false, .nilslice, .bool true, .vslice [.int .u32 1] 1, .bool false, .nilslice, .bool false, .eslice, .bool false, .nilslice, a7, .bool false, .eslice, .bool false, .nilslice, .bool true, .vslice [.int .u32 1] 1, .bool false, .nilslice, .bool false, .eslice, .bool false, .nilslice, .bool false, .eslice, .bool false, .nilslice, a8, .bool false, .eslice, .bool false, .nilslice, .bool false, .eslice, .bool false, .nilslice, .bool false, .vslice [.int .u32 1] 1, .bool false, .nilslice, .bool false, .vslice [.int .u32 1] 1, .bool false, .nilslice, a9, .bool false, .eslice, .bool false, .nilslice, .bool false, .vslice [.int .u32 1] 1, .bool false, .nilslice, .bool false, .eslice, .bool false, .nilslice, .bool false, .vslice [.int .u32 1] 1, .bool false, .nilslice, a10, .bool false, .vslice [.int .u32 1] 1, .bool false, .nilslice, .bool false, .eslice, .bool false, .nilslice, .bool false, .eslice, .bool false, .nilslice, .bool false, .vslice [.int .u32 1] 1, .bool false, .nilslice, a11] 6
def a13 : AV := .vslice [.int .i64 0, .int .i64 1, .int .i64 0, .int .i64 2, .int .i64 0, .int .i64 2, .int .i64 0, .int .i64 1, .int .i64 0, .int .i64 4, .int .i64 1, .int .i64 2, .int .i64 1, .int .i64 3, .int .i64 0, .int .i64 3, .int .i64 1, .int .i64 5, .int .i64 2, .int .i64 3, .int .i64 2, .int .i64 3, .int .i64 0, .int .i64 4, .int .i64 2, .int .i64 6, .int .i64 1, .int .i64 4, .int .i64 3, .int .i64 7, .int .i64 3, .int .i64 4, .int .i64 4, .int .i64 5, .int .i64 2, .int .i64 5, .int .i64 4, .int .i64 6, .int .i64 1, .int .i64 5, .int .i64 5, .int .i64 7, .int .i64 3, .int .i64 5, .int .i64 6, .int .i64 7, .int .i64 4, .int .i64 5] 12
def a14 : AV := .vslice [.bool false, .vslice [.int .u32 1] 1, .bool false, .nilslice, .bool false, .eslice, .bool false, .nilslice, .bool false, .eslice, .bool false, .nilslice, .bool false, .vslice [.int .u32 1] 1, .bool false, .nilslice, .bool false, .eslice, .bool false, .nilslice, .bool false, .vslice [.int .u32 1] 1, .bool false, .nilslice, .bool false, .vslice [.int .u32 1] 1, .bool false, .nilslice, .bool false, .vslice [.int .u32 1] 1, .bool false, .nilslice, .bool false, .eslice, .bool false, .nilslice, .bool false, .vslice [.int .u32 1] 1, .bool false, .nilslice, .bool false, .vslice [.int .u32 1] 1, .bool false, .nilslice, .bool false, .vslice [.int .u32 1] 1, .bool false, .nilslice, .bool false, .vslice [.int .u32 2] 1, .bool false, .nilslice, .bool false, .eslice, .bool false, .nilslice, .bool false, .eslice, .bool false, .nilslice, .bool false, .vslice [.int .u32 2] 1, .bool false, .nilslice, .bool false, .eslice, .bool false, .nilslice, .bool false, .vslice [.int .u32 1] 1, .bool false, .nilslice, .bool false, .vslice [.int .u32 2] 1, .bool false, .nilslice, .bool false, .vslice [.int .u32 1] 1, .bool false, .nilslice, .bool false, .eslice, .bool false, .nilslice, .bool false, .vslice [.int .u32 2] 1, .bool false, .nilslice, .bool false, .vslice [.int .u32 1] 1, .bool false, .nilslice, .bool false, .vslice [.int .u32 1] 1, .bool false, .nilslice] 8
def a15 : AV := .vslice [.bool true, .vslice [.int .u32 1] 1, .bool false, .nilslice, .bool false, .eslice, .bool false, .nilslice, .bool false, .eslice, .bool false, .nilslice, .bool true, .vslice [.int .u32 1] 1, .bool false, .nilslice, a6, .bool false, .eslice, .bool false, .nilslice, .bool false, .eslice, .bool false, .nilslice, .bool true, .vslice [.int .u32 1] 1, .bool false, .nilslice, .bool false, .eslice, .bool false, .nilslice, a7, .bool false, .eslice, .bool false, .nilslice, .bool true, .vslice [.int .u32 1] 1, .bool false, .nilslice, .bool false, .eslice, .bool false, .nilslice, .bool false, .eslice, .bool false, .nilslice, a8, .bool false, .eslice, .bool false, .nilslice, .bool false, .eslice, .bool false, .nilslice, .bool false, .vslice [.int .u32 1] 1, .bool false, .nilslice, .bool false, .vslice [.int .u32 1] 1, .bool false, .nilslice, a9, .bool false, .eslice, .bool false, .nilslice, .bool false, .vslice [.int .u32 1] 1, .bool false, .nilslice, .bool false, .eslice, .bool false, .nilslice, .bool false, .vslice [.int .u32 1] 1, .bool false, .nilslice, a10, .bool false, .vslice [.int .u32 1] 1, .bool false, .nilslice, .bool false, .eslice, .bool false, .nilslice, .bool false, .eslice, .bool false, .nilslice, .bool false, .vslice [.int .u32 2] 1, .bool false, .nilslice, a11] 6
def a16 : AV := .vslice [a14, a15, a13] 1
def a17 : AV := .vslice [.int .i64 1, .vslice [a5, a12, a13] 1, .int .i64 1, a16] 2
def a18 : AV := .vslice [.bool false, .vslice [.int .u32 1] 1, .bool false, .vslice [.int .u32 2] 1, .bool false, .eslice, .bool false, .nilslice, .bool false, .eslice, .bool false, .nilslice, .bool false, .vslice [.int .u32 1] 1, .bool false, .vslice [.int .u32 2] 1, .bool false, .eslice, .bool false, .nilslice, .bool false, .vslice [.int .u32 1] 1, .bool false, .nilslice, .bool false, .vslice [.int .u32 1] 1, .bool false, .vslice [.int .u32 2] 1, .bool false, .vslice [.int .u32 1] 1, .bool false, .nilslice, .bool false, .eslice, .bool false, .nilslice, .bool false, .vslice [.int .u32 1] 1, .bool false, .vslice [.int .u32 2] 1, .bool false, .vslice [.int .u32 1] 1, .bool false, .nilslice, .bool false, .vslice [.int .u32 1] 1, .bool false, .nilslice, .bool false, .vslice [.int .u32 3] 1, .bool false, .vslice [.int .u32 2] 1, .bool false, .eslice, .bool false, .nilslice, .bool false, .eslice, .bool false, .nilslice, .bool false, .vslice [.int .u32 3] 1, .bool false, .vslice [.int .u32 2] 1, .bool false, .eslice, .bool false, .nilslice, .bool false, .vslice [.int .u32 1] 1, .bool false, .nilslice, .bool false, .vslice [.int .u32 3] 1, .bool false, .vslice [.int .u32 2] 1, .bool false, .vslice [.int .u32 1] 1, .bool false, .nilslice, .bool false, .eslice, .bool false, .nilslice, .bool false, .vslice [.int .u32 3] 1, .bool false, .vslice [.int .u32 2] 1, .bool false, .vslice [.int .u32 1] 1, .bool false, .nilslice, .bool false, .vslice [.int .u32 1] 1, .bool false, .nilslice] 8
def a19 : AV := .vslice [.bool true, .vslice [.int .u32 1] 1, .bool false, .nilslice, .bool false, .eslice, .bool false, .nilslice, .bool false, .eslice, .bool false, .nilslice, .bool true, .vslice [.int .u32 1] 1, .bool false, .vslice [.int .u32 2] 1, a6, .bool false, .eslice, .bool false, .nilslice, .bool false, .eslice, .bool false, .nilslice, .bool true, .vslice [.int .u32 1] 1, .bool false, .nilslice, .bool false, .eslice, .bool false, .nilslice, a7, .bool false, .eslice, .bool false, .nilslice, .bool true, .vslice [.int .u32 1] 1, .bool false, .nilslice, .bool false, .eslice, .bool false, .nilslice, .bool false, .eslice, .bool false, .nilslice, a8, .bool false, .eslice, .bool false, .nilslice, .bool false, .eslice, .bool false, .nilslice, .bool false, .vslice [.int .u32 1] 1, .bool false, .nilslice, .bool false, .vslice [.int .u32 1] 1, .bool false, .nilslice, a9, .bool false, .eslice, .bool false, .nilslice, .bool false, .vslice [.int .u32 1] 1, .bool false, .nilslice, .bool false, .eslice, .bool false, .nilslice, .bool false, .vslice [.int .u32 1] 1, .bool false, .nilslice, a10, .bool false, .vslice [.int .u32 1] 1, .bool false, .nilslice, .bool false, .eslice, .bool false, .nilslice, .bool false, .eslice, .bool false, .nilslice, .bool false, .vslice [.int .u32 3] 1, .bool false, .vslice [.int .u32 2] 1, a11] 6
def a20 : AV := .vslice [a18, a19, a13] 1
def a21 : AV := .vslice [.int .i64 1, .vslice [a5, a12, a13] 1, .int .i64 1, a20] 2
def a22 : AV := .vslice [.bool false, .vslice [.int .u32 3] 1, .bool false, .nilslice, .bool false, .eslice, .bool false, .nilslice, .bool false, .eslice, .bool false, .nilslice, .bool false, .vslice [.int .u32 3] 1, .bool false, .nilslice, .bool false, .eslice, .bool false, .nilslice, .bool false, .vslice [.int .u32 1] 1, .bool false, .nilslice, .bool false, .vslice [.int .u32 3] 1, .bool false, .nilslice, .bool false, .vslice [.int .u32 1] 1, .bool false, .nilslice, .bool false, .eslice, .bool false, .nilslice, .bool false, .vslice [.int .u32 3] 1, .bool false, .nilslice, .bool false, .vslice [.int .u32 1] 1, .bool false, .nilslice, .bool false, .vslice [.int .u32 1] 1, .bool false, .nilslice, .bool false, .vslice [.int .u32 4] 1, .bool false, .nilslice, .bool false, .eslice, .bool false, .nilslice, .bool false, .eslice, .bool false, .nilslice, .bool false, .vslice [.int .u32 4] 1, .bool false, .nilslice, .bool false, .eslice, .bool false, .nilslice, .bool false, .vslice [.int .u32 1] 1, .bool false, .nilslice, .bool false, .vslice [.int .u32 4] 1, .bool false, .nilslice, .bool false, .vslice [.int .u32 1] 1, .bool false, .nilslice, .bool false, .eslice, .bool false, .nilslice, .bool false, .vslice [.int .u32 4] 1, .bool false, .nilslice, .bool false, .vslice [.int .u32 1] 1, .bool false, .nilslice, .bool false, .vslice [.int .u32 1] 1, .bool false, .nilslice] 8
def a23 : AV := .vslice [.bool true, .vslice [.int .u32 1] 1, .bool false, .nilslice, .bool false, .eslice, .bool false, .nilslice, .bool false, .eslice, .bool false, .nilslice, .bool true, .vslice [.int .u32 3] 1, .bool false, .nilslice, a6, .bool false, .eslice, .bool false, .nilslice, .bool false, .eslice, .bool false, .nilslice, .bool true, .vslice [.int .u32 1] 1, .bool false, .nilslice, .bool false, .eslice, .bool false, .nilslice, a7, .bool false, .eslice, .bool false, .nilslice, .bool true, .vslice [.int .u32 1] 1, .bool false, .nilslice, .bool false, .eslice, .bool false, .nilslice, .bool false, .eslice, .bool false, .nilslice, a8, .bool false, .eslice, .bool false, .nilslice, .bool false, .eslice, .bool false, .nilslice, .bool false, .vslice [.int .u32 1] 1, .bool false, .nilslice, .bool false, .vslice [.int .u32 1] 1, .bool false, .nilslice, a9, .bool false, .eslice, .bool false, .nilslice, .bool false, .vslice [.int .u32 1] 1, .bool false, .nilslice, .bool false, .eslice, .bool false, .nilslice, .bool false, .vslice [.int .u32 1] 1, .bool false, .nilslice, a10, .bool false, .vslice [.int .u32 1] 1, .bool false, .nilslice, .bool false, .eslice, .bool false, .nilslice, .bool false, .eslice, .bool false, .nilslice, .bool false, .vslice [.int .u32 4] 1, .bool false, .nilslice, a11] 6
def a24 : AV := .vslice [a22, a23, a13] 1
def a25 : AV := .vslice [.int .i64 1, .vslice [a5, a12, a13] 1, .int .i64 1, a24] 2
def a26 : AV := .agg [.bool false, .eslice]
def a27 : AV := .agg [.bool false, .nilslice]
def a28 : AV := .agg [.bool false, .vslice [.int .u32 1] 1]
def a29 : AV := .agg [.bool false, .vslice [.int .u32 2] 1]
def a30 : AV := .agg [.bool true, .vslice [.int .u32 2] 1]
def a31 : AV := .agg [.bool false, .vslice [.int .u32 4] 1]
def a32 : AV := .agg [.bool false, .vslice [.int .u32 12] 1]
def a33 : AV := .agg [.bool true, .vslice [.int .u32 4] 1]
def a34 : AV := .agg [.bool true, .vslice [.int .u32 3] 1]
def a35 : AV := .agg [.bool false, .vslice [.int .u32 6] 1]
def a36 : AV := .agg [.bool false, .vslice [.int .u32 24] 1]
def a37 : AV := .agg [.bool true, .vslice [.int .u32 1] 1]
def a38 : AV := .agg [.bool false, .vslice [] 0]
def a39 : AV := .agg [.bool false, .vslice [.int .u32 3] 1]
def a40 : AV := .agg [.str [99, 117, 98, 101], .int .i64 1, .vslice [a0] 1]
def a41 : AV := .vptr [.str [99, 117, 98, 101]] 0
def a42 : AV := .vslice [.int .u32 1, .int .u32 0] 2
def a43 : AV := .vslice [.int .u32 10, .int .u32 0] 2
def a44 : AV := .vslice [.int .u32 69, .int .u32 0] 2
def a45 : AV := .vslice [.int .u32 2, .int .u32 0] 2
def a46 : AV := .vslice [.int .u32 7, .int .u32 0] 2
def a47 : AV := .vslice [.int .u32 24, .int .u32 0] 2
def a48 : AV := .vslice [.int .u32 6, .int .u32 0] 2
def a49 : AV := .vslice [.int .u32 54, .int .u32 0] 2
def a50 : AV := .vslice [.int .u32 8, .int .u32 0] 2
def a51 : AV := .vslice [.int .u32 84, .int .u32 0] 2
def a52 : AV := .vslice [.int .u32 14, .int .u32 0] 2
def a53 : AV := .vslice [.int .u32 9, .int .u32 0] 2
def a54 : AV := .vslice [.int .u32 40, .int .u32 0] 2
def a55 : AV := .vslice [.int .u32 11, .int .u32 0] 2
def a56 : AV := .vslice [.int .u32 4, .int .u32 0] 2
def a57 : AV := .vslice [.int .u32 16, .int .u32 0] 2
def a58 : AV := .vslice [.int .u32 15, .int .u32 0] 2
def a59 : AV := .vslice [.int .u32 12, .int .u32 0] 2
def a60 : AV := .vslice [.int .u32 27, .int .u32 0] 2
def a61 : AV := .vslice [.int .u32 13, .int .u32 0] 2
def a62 : AV := .vslice [.int .u32 3, .int .u32 0] 2
def a63 : AV := .vslice [.int .u32 5, .int .u32 0] 2
def a64 : AV := .vslice [.int .u32 0, .int .u32 0] 2
def a65 : AV := .agg [.bool false, .eslice, .bool false, .nilslice]
def a66 : AV := .agg [.bool false, .vslice [.int .u32 1] 1, .bool false, .nilslice]
def a67 : AV := .agg [.bool true, .vslice [.int .u32 1] 1, .bool false, .nilslice]
def a68 : AV := .agg [.bool false, .eslice, .bool false, .nilslice, .bool false, .eslice, .bool false, .nilslice, .bool false, .vslice [.int .u32 1] 1, .bool false, .nilslice]
def a69 : AV := .agg [.int .i64 0, .int .i64 0, .int .i64 (-1)]
def a70 : AV := .agg [.int .i64 0, .int .i64 1, .int .i64 (-1)]
def a71 : AV := .agg [.int .i64 1, .int .i64 0, .int .i64 0]
def a72 : AV := .agg [.int .i64 0, .int .i64 0, .int .i64 1]
def a73 : AV := .agg [.int .i64 0, .int .i64 1, .int .i64 0]
def a74 : AV := .agg [.int .i64 (-1), .int .i64 0, .int .i64 1]
def a75 : AV := .agg [.int .i64 (-1), .int .i64 (-1), .int .i64 0]
def a76 : AV := .agg [.int .i64 0, .int .i64 (-1), .int .i64 0]
def a77 : AV := .agg [.int .i64 (-1), .int .i64 1, .int .i64 (-1)]
def a78 : AV := .agg [.int .i64 1, .int .i64 1, .int .i64 0]
def a79 : AV := .agg [.int .i64 (-1), .int .i64 0, .int .i64 (-1)]
def a80 : AV := .agg [.int .i64 (-1), .int .i64 1, .int .i64 0]
def a81 : AV := .agg [.int .i64 (-1), .int .i64 (-1), .int .i64 1]
def a82 : AV := .agg [.int .i64 (-1), .int .i64 (-1), .int .i64 (-1)]
def a83 : AV := .agg [.int .i64 1, .int .i64 0, .int .i64 (-1)]
def a84 : AV := .agg [.int .i64 (-1), .int .i64 0, .int .i64 0]
def a85 : AV := .agg [.int .i64 0, .int .i64 (-1), .int .i64 (-1)]
def a86 : AV := .agg [.int .i64 0, .int .i64 (-1), .int .i64 1]
def a87 : AV := .agg [.int .i64 1, .int .i64 0, .int .i64 1]
def a88 : AV := .agg [.int .i64 (-1), .int .i64 1, .int .i64 1]
def a89 : AV := .agg [.int .i64 0, .int .i64 1, .int .i64 1]
def a90 : AV := .agg [.int .i64 1, .int .i64 1, .int .i64 (-1)]
def a91 : AV := .agg [.int .i64 1, .int .i64 (-1), .int .i64 0]
def a92 : AV := .agg [.int .i64 1, .int .i64 (-1), .int .i64 (-1)]
def a93 : AV := .agg [.int .i64 1, .int .i64 (-1), .int .i64 1]
def a94 : AV := .agg [.int .i64 1, .int .i64 1, .int .i64 1]
def a95 : AV := .agg [.int .i64 0, .int .i64 0, .int .i64 0]
def a96 : AV := .agg [.bool false, .vslice [.int .u32 69] 1, .bool false, .nilslice]
def a97 : AV := .agg [.bool false, .vslice [.int .u32 9] 1, .bool false, .nilslice]
def a98 : AV := .agg [.bool true, .vslice [.int .u32 2] 1, .bool false, .nilslice]
def a99 : AV := .agg [.bool false, .vslice [.int .u32 8] 1, .bool false, .nilslice]
def a100 : AV := .agg [.bool false, .vslice [.int .u32 7] 1, .bool false, .nilslice]
def a101 : AV := .agg [.bool false, .vslice [.int .u32 3] 1, .bool false, .nilslice]
def a102 : AV := .agg [.bool false, .vslice [.int .u32 54] 1, .bool false, .nilslice]
def a103 : AV := .agg [.bool false, .vslice [] 0, .bool false, .nilslice]
def a104 : AV := .agg [.bool false, .vslice [.int .u32 14] 1, .bool false, .nilslice]
def a105 : AV := .agg [.bool true, .vslice [.int .u32 4] 1, .bool false, .nilslice]
def a106 : AV := .agg [.bool false, .vslice [.int .u32 6] 1, .bool false, .nilslice]
def a107 : AV := .agg [.bool false, .vslice [.int .u32 40] 1, .bool false, .nilslice]
def a108 : AV := .agg [.bool false, .nilslice, .bool false, .nilslice]
def a109 : AV := .agg [.bool false, .vslice [.int .u32 10] 1, .bool false, .nilslice]
def a110 : AV := .agg [.bool false, .vslice [.int .u32 4] 1, .bool false, .nilslice]
def a111 : AV := .agg [.bool false, .vslice [.int .u32 12] 1, .bool false, .nilslice]
def a112 : AV := .agg [.bool false, .vslice [.int .u32 5] 1, .bool false, .nilslice]
def a113 : AV := .agg [.bool false, .vslice [.int .u32 2] 1, .bool false, .nilslice]
def a114 : AV := .agg [.bool false, .vslice [.int .u32 27] 1, .bool false, .nilslice]
def a115 : AV := .agg [.bool false, .vslice [.int .u32 15] 1, .bool false, .nilslice]
def a116 : AV := .agg [.bool false, .vslice [.int .u32 13] 1, .bool false, .nilslice]
def a117 : AV := .agg [.bool false, .vslice [.int .u32 11] 1, .bool false, .nilslice]
def a118 : AV := .agg [.bool true, .vslice [.int .u32 3] 1, .bool false, .nilslice]
def a119 : AV := .agg [.bool false, .vslice [.int .u32 3] 1, .bool false, .vslice [.int .u32 2] 1]
def a120 : AV := .agg [.bool false, .vslice [.int .u32 1] 1, .bool false, .vslice [.int .u32 1] 1]
def a121 : AV := .agg [.bool false, .vslice [.int .u32 1] 1, .bool false, .vslice [.int .u32 24] 1]
def a122 : AV := .agg [.bool true, .vslice [.int .u32 1] 1, .bool false, .vslice [.int .u32 2] 1]
def a123 : AV := .agg [.bool false, .vslice [.int .u32 7] 1, .bool false, .vslice [.int .u32 2] 1]
def a124 : AV := .agg [.bool true, .vslice [.int .u32 3] 1, .bool false, .vslice [.int .u32 2] 1]
def a125 : AV := .agg [.bool false, .vslice [.int .u32 4] 1, .bool false, .vslice [.int .u32 1] 1]
def a126 : AV := .agg [.bool false, .nilslice, .bool false, .vslice [.int .u32 1] 1]
def a127 : AV := .agg [.bool false, .vslice [.int .u32 1] 1, .bool false, .vslice [.int .u32 2] 1]
def a128 : AV := .agg [.bool false, .vslice [.int .u32 24] 1, .bool false, .nilslice]
def a129 : AV := .agg [.bool true, .vslice [.int .u32 6] 1]
def a130 : AV := .agg [.bool false, .vslice [.int .u32 8] 1]
def a131 : AV := .agg [.bool false, .vslice [.int .u32 40] 1]
def a132 : AV := .agg [.bool false, .vslice [.int .u32 16] 1]
def a133 : AV := .agg [.bool false, .vslice [.int .u32 69] 1]
def a134 : AV := .agg [.bool false, .vslice [.int .u32 14] 1]
def a135 : AV := .agg [.bool false, .vslice [.int .u32 27] 1]
def a136 : AV := .agg [.bool false, .vslice [.int .u32 5] 1]
def a137 : AV := .agg [.bool false, .vslice [.int .u32 11] 1]
def a138 : AV := .agg [.bool false, .vslice [.int .u32 10] 1]
def a139 : AV := .agg [.bool false, .vslice [.int .u32 84] 1]
def a140 : AV := .agg [.bool false, .vslice [.int .u32 7] 1]
def a141 : AV := .agg [.bool false, .vslice [.int .u32 13] 1]
def a142 : AV := .agg [.bool false, .vslice [.int .u32 54] 1]
def a143 : AV := .agg [.bool false, .vslice [.int .u32 15] 1]
def a144 : AV := .agg [.bool false, .vslice [.int .u32 9] 1]
def a145 : AV := .tuple [.vslice [.int .u32 2] 1, .int .u32 0]
def a146 : AV := .tuple [.vslice [.int .u32 1] 1, .int .u32 0]
def a147 : AV := .tuple [.nilslice, .vslice [.int .u32 1] 1]
def a148 : AV := .tuple [.nilslice, .eslice]
def a149 : AV := .agg [.int .i64 0, .int .i64 1, .int .i64 0, .int .u64 204]
def a150 : AV := .agg [.int .i64 0, .int .i64 0, .int .i64 (-1), .int .u64 85]
def a151 : AV := .agg [.int .i64 (-1), .int .i64 0, .int .i64 0, .int .u64 15]
def a152 : AV := .agg [.int .i64 0, .int .i64 (-1), .int .i64 0, .int .u64 51]
def a153 : AV := .agg [.int .i64 1, .int .i64 0, .int .i64 0, .int .u64 240]
def a154 : AV := .agg [.int .i64 0, .int .i64 0, .int .i64 1, .int .u64 170]
def a155 : AV := .agg [.int .i64 1, .int .i64 5, .int .i64 2, .int .i64 3]
def a156 : AV := .agg [.int .i64 2, .int .i64 3, .int .i64 0, .int .i64 4]
def a157 : AV := .agg [.int .i64 1, .int .i64 3, .int .i64 0, .int .i64 3]
def a158 : AV := .agg [.int .i64 0, .int .i64 1, .int .i64 0, .int .i64 2]
def a159 : AV := .agg [.int .i64 0, .int .i64 4, .int .i64 1, .int .i64 2]
def a160 : AV := .agg [.int .i64 4, .int .i64 6, .int .i64 1, .int .i64 5]
def a161 : AV := .agg [.int .i64 0, .int .i64 2, .int .i64 0, .int .i64 1]
def a162 : AV := .agg [.int .i64 4, .int .i64 5, .int .i64 2, .int .i64 5]
def a163 : AV := .agg [.int .i64 3, .int .i64 7, .int .i64 3, .int .i64 4]
def a164 : AV := .agg [.int .i64 5, .int .i64 7, .int .i64 3, .int .i64 5]
def a165 : AV := .agg [.int .i64 2, .int .i64 6, .int .i64 1, .int .i64 4]
def a166 : AV := .tuple [a150, .bool true]
def a167 : AV := .tuple [a149, .bool true]
def a168 : AV := .tuple [a152, .bool true]
def a169 : AV := .tuple [a151, .bool true]
def a170 : AV := .tuple [a154, .bool true]
def a171 : AV := .tuple [a153, .bool true]
def a172 : AV := .tuple [.agg [.int .i64 1, .int .i64 0, .int .i64 (-1), .int .u64 165], .bool false]
def a173 : AV := .tuple [.agg [.int .i64 0, .int .i64 (-1), .int .i64 (-1), .int .u64 102], .bool false]
def a174 : AV := .tuple [.agg [.int .i64 1, .int .i64 1, .int .i64 0, .int .u64 60], .bool false]
def a175 : AV := .tuple [.agg [.int .i64 (-1), .int .i64 (-1), .int .i64 0, .int .u64 60], .bool false]
def a176 : AV := .tuple [.agg [.int .i64 1, .int .i64 (-1), .int .i64 0, .int .u64 195], .bool false]
def a177 : AV := .tuple [.agg [.int .i64 1, .int .i64 0, .int .i64 1, .int .u64 90], .bool false]
def a178 : AV := .tuple [.agg [.int .i64 (-1), .int .i64 1, .int .i64 0, .int .u64 195], .bool false]
def a179 : AV := .tuple [.agg [.int .i64 0, .int .i64 (-1), .int .i64 1, .int .u64 153], .bool false]
def a180 : AV := .tuple [.agg [.int .i64 (-1), .int .i64 0, .int .i64 (-1), .int .u64 90], .bool false]
def a181 : AV := .tuple [.agg [.int .i64 0, .int .i64 1, .int .i64 (-1), .int .u64 153], .bool false]
def a182 : AV := .tuple [.agg [.int .i64 (-1), .int .i64 0, .int .i64 1, .int .u64 165], .bool false]
def a183 : AV := .tuple [.agg [.int .i64 0, .int .i64 1, .int .i64 1, .int .u64 102], .bool false]
def a184 : AV := .tuple [a27, a26, .int .i64 0]
def a185 : AV := .tuple [.vslice [.int .u32 1] 1, .eslice]
def a186 : AV := .tuple [.vslice [.int .u32 2] 1, .eslice]
def a187 : AV := .agg [.bool false, .vslice [.int .u32 84] 1, .bool false, .nilslice]
def a188 : AV := .tuple [a28, a26, .int .i64 0]
def a189 : AV := .tuple [a29, a26, .int .i64 0]
def a190 : AV := .agg [.bool false, .eslice, .bool false, .nilslice, .bool true, .vslice [.int .u32 1] 1, .bool false, .nilslice, .bool false, .eslice, .bool false, .nilslice]
def a191 : AV := .agg [.bool false, .vslice [.int .u32 1] 1, .bool false, .nilslice, .bool false, .eslice, .bool false, .nilslice, .bool false, .eslice, .bool false, .nilslice]
def a192 : AV := .agg [.bool false, .eslice, .bool false, .nilslice, .bool false, .eslice, .bool false, .nilslice, .bool true, .vslice [.int .u32 1] 1, .bool false, .nilslice]
def a193 : AV := .agg [.bool true, .vslice [.int .u32 1] 1, .bool false, .nilslice, .bool false, .eslice, .bool false, .nilslice, .bool false, .eslice, .bool false, .nilslice]
def a194 : AV := .agg [.bool false, .nilslice, .bool false, .nilslice, .bool false, .nilslice, .bool false, .nilslice, .bool false, .nilslice, .bool false, .nilslice]
def a195 : AV := .agg [.bool false, .eslice, .bool false, .nilslice, .bool false, .vslice [.int .u32 1] 1, .bool false, .nilslice, .bool false, .eslice, .bool false, .nilslice]
def a196 : AV := .agg [.bool false, .eslice, .bool false, .nilslice, .bool false, .eslice, .bool false, .nilslice, .bool false, .eslice, .bool false, .nilslice]
def a197 : AV := .agg [.bool false, .vslice [.int .u32 3] 1, .bool false, .nilslice, .bool false, .eslice, .bool false, .nilslice, .bool false, .vslice [.int .u32 1] 1, .bool false, .nilslice]
def a198 : AV := .agg [.bool false, .vslice [.int .u32 4] 1, .bool false, .nilslice, .bool false, .eslice, .bool false, .nilslice, .bool false, .vslice [.int .u32 1] 1, .bool false, .nilslice]
def a199 : AV := .agg [.bool false, .vslice [.int .u32 7] 1, .bool false, .nilslice, .bool false, .eslice, .bool false, .nilslice, .bool false, .vslice [.int .u32 2] 1, .bool false, .nilslice]
def a200 : AV := .agg [.bool false, .vslice [.int .u32 4] 1, .bool false, .nilslice, .bool false, .vslice [.int .u32 1] 1, .bool false, .nilslice, .bool false, .vslice [.int .u32 1] 1, .bool false, .nilslice]
def a201 : AV := .agg [.bool false, .vslice [.int .u32 3] 1, .bool false, .nilslice, .bool false, .eslice, .bool false, .nilslice, .bool false, .eslice, .bool false, .nilslice]
def a202 : AV := .agg [.bool false, .vslice [.int .u32 7] 1, .bool false, .nilslice, .bool false, .vslice [.int .u32 1] 1, .bool false, .nilslice, .bool false, .vslice [.int .u32 1] 1, .bool false, .nilslice]
def a203 : AV := .agg [.bool false, .eslice, .bool false, .nilslice, .bool false, .vslice [.int .u32 1] 1, .bool false, .nilslice, .bool false, .vslice [.int .u32 1] 1, .bool false, .nilslice]
def a204 : AV := .agg [.bool false, .vslice [.int .u32 3] 1, .bool false, .nilslice, .bool false, .vslice [.int .u32 1] 1, .bool false, .nilslice, .bool false, .vslice [.int .u32 1] 1, .bool false, .nilslice]
def a205 : AV := .agg [.bool false, .vslice [.int .u32 3] 1, .bool false, .nilslice, .bool false, .vslice [.int .u32 1] 1, .bool false, .nilslice, .bool false, .eslice, .bool false, .nilslice]
def a206 : AV := .agg [.bool false, .vslice [.int .u32 1] 1, .bool false, .nilslice, .bool false, .eslice, .bool false, .nilslice, .bool false, .vslice [.int .u32 2] 1, .bool false, .nilslice]
def a207 : AV := .agg [.bool false, .vslice [.int .u32 1] 1, .bool false, .nilslice, .bool false, .vslice [.int .u32 1] 1, .bool false, .nilslice, .bool false, .vslice [.int .u32 1] 1, .bool false, .nilslice]
def a208 : AV := .agg [.bool false, .vslice [.int .u32 2] 1, .bool false, .nilslice, .bool false, .vslice [.int .u32 1] 1, .bool false, .nilslice, .bool false, .vslice [.int .u32 3] 1, .bool false, .nilslice]
def a209 : AV := .agg [.bool false, .vslice [.int .u32 7] 1, .bool false, .nilslice, .bool false, .vslice [.int .u32 2] 1, .bool false, .nilslice, .bool false, .vslice [.int .u32 1] 1, .bool false, .nilslice]
def a210 : AV := .agg [.bool false, .vslice [.int .u32 1] 1, .bool false, .nilslice, .bool false, .eslice, .bool false, .nilslice, .bool false, .vslice [.int .u32 1] 1, .bool false, .nilslice]
def a211 : AV := .agg [.bool false, .vslice [.int .u32 6] 1, .bool false, .nilslice, .bool false, .vslice [.int .u32 2] 1, .bool false, .nilslice, .bool false, .vslice [.int .u32 1] 1, .bool false, .nilslice]
def a212 : AV := .agg [.bool false, .vslice [.int .u32 54] 1, .bool false, .nilslice, .bool false, .vslice [.int .u32 9] 1, .bool false, .nilslice, .bool false, .vslice [.int .u32 9] 1, .bool false, .nilslice]
def a213 : AV := .agg [.bool false, .vslice [.int .u32 15] 1, .bool false, .nilslice, .bool false, .vslice [.int .u32 2] 1, .bool false, .nilslice, .bool false, .vslice [.int .u32 1] 1, .bool false, .nilslice]
def a214 : AV := .agg [.bool false, .vslice [.int .u32 69] 1, .bool false, .nilslice, .bool false, .vslice [.int .u32 11] 1, .bool false, .nilslice, .bool false, .vslice [.int .u32 10] 1, .bool false, .nilslice]
def a215 : AV := .agg [.bool false, .vslice [.int .u32 2] 1, .bool false, .nilslice, .bool false, .eslice, .bool false, .nilslice, .bool false, .vslice [.int .u32 1] 1, .bool false, .nilslice]
def a216 : AV := .agg [.bool false, .vslice [.int .u32 4] 1, .bool false, .nilslice, .bool false, .eslice, .bool false, .nilslice, .bool false, .eslice, .bool false, .nilslice]
def a217 : AV := .agg [.bool false, .vslice [.int .u32 9] 1, .bool false, .nilslice, .bool false, .vslice [.int .u32 11] 1, .bool false, .nilslice, .bool false, .vslice [.int .u32 10] 1, .bool false, .nilslice]
def a218 : AV := .agg [.bool false, .vslice [.int .u32 3] 1, .bool false, .nilslice, .bool false, .vslice [.int .u32 1] 1, .bool false, .nilslice, .bool false, .vslice [.int .u32 2] 1, .bool false, .nilslice]
def a219 : AV := .agg [.bool false, .vslice [.int .u32 12] 1, .bool false, .nilslice, .bool false, .vslice [.int .u32 12] 1, .bool false, .nilslice, .bool false, .vslice [.int .u32 12] 1, .bool false, .nilslice]
def a220 : AV := .agg [.bool false, .vslice [.int .u32 14] 1, .bool false, .nilslice, .bool false, .vslice [.int .u32 1] 1, .bool false, .nilslice, .bool false, .vslice [.int .u32 3] 1, .bool false, .nilslice]
def a221 : AV := .agg [.bool false, .vslice [.int .u32 2] 1, .bool false, .nilslice, .bool false, .vslice [.int .u32 1] 1, .bool false, .nilslice, .bool false, .vslice [.int .u32 1] 1, .bool false, .nilslice]
def a222 : AV := .agg [.bool false, .eslice, .bool false, .nilslice, .bool false, .vslice [.int .u32 1] 1, .bool false, .nilslice, .bool false, .vslice [.int .u32 2] 1, .bool false, .nilslice]
def a223 : AV := .agg [.bool false, .vslice [.int .u32 2] 1, .bool false, .nilslice, .bool false, .vslice [.int .u32 1] 1, .bool false, .nilslice, .bool false, .eslice, .bool false, .nilslice]
def a224 : AV := .agg [.bool false, .vslice [.int .u32 3] 1, .bool false, .nilslice, .bool false, .vslice [.int .u32 2] 1, .bool false, .nilslice, .bool false, .vslice [.int .u32 1] 1, .bool false, .nilslice]
def a225 : AV := .agg [.bool false, .vslice [.int .u32 7] 1, .bool false, .nilslice, .bool false, .vslice [.int .u32 1] 1, .bool false, .nilslice, .bool false, .eslice, .bool false, .nilslice]
def a226 : AV := .agg [.bool false, .vslice [.int .u32 7] 1, .bool false, .nilslice, .bool false, .eslice, .bool false, .nilslice, .bool false, .eslice, .bool false, .nilslice]
def a227 : AV := .agg [.bool false, .vslice [.int .u32 14] 1, .bool false, .nilslice, .bool false, .vslice [.int .u32 1] 1, .bool false, .nilslice, .bool false, .eslice, .bool false, .nilslice]
def a228 : AV := .agg [.bool false, .eslice, .bool false, .nilslice, .bool false, .eslice, .bool false, .nilslice, .bool false, .vslice [] 0, .bool false, .nilslice]
def a229 : AV := .agg [.bool false, .vslice [.int .u32 1] 1, .bool false, .nilslice, .bool false, .vslice [.int .u32 1] 1, .bool false, .nilslice, .bool false, .vslice [.int .u32 2] 1, .bool false, .nilslice]
def a230 : AV := .agg [.bool false, .vslice [.int .u32 1] 1, .bool false, .nilslice, .bool false, .vslice [.int .u32 2] 1, .bool false, .nilslice, .bool false, .vslice [.int .u32 3] 1, .bool false, .nilslice]
def a231 : AV := .agg [.bool false, .vslice [.int .u32 2] 1, .bool false, .nilslice, .bool false, .eslice, .bool false, .nilslice, .bool false, .eslice, .bool false, .nilslice]
def a232 : AV := .agg [.bool false, .vslice [.int .u32 40] 1, .bool false, .nilslice, .bool false, .vslice [.int .u32 6] 1, .bool false, .nilslice, .bool false, .vslice [.int .u32 8] 1, .bool false, .nilslice]
def a233 : AV := .agg [.bool false, .vslice [.int .u32 14] 1, .bool false, .nilslice, .bool false, .vslice [.int .u32 3] 1, .bool false, .nilslice, .bool false, .vslice [.int .u32 1] 1, .bool false, .nilslice]
def a234 : AV := .agg [.bool false, .vslice [.int .u32 6] 1, .bool false, .nilslice, .bool false, .vslice [.int .u32 1] 1, .bool false, .nilslice, .bool false, .vslice [.int .u32 1] 1, .bool false, .nilslice]
def a235 : AV := .agg [.bool false, .vslice [.int .u32 8] 1, .bool false, .nilslice, .bool false, .vslice [.int .u32 1] 1, .bool false, .nilslice, .bool false, .vslice [.int .u32 1] 1, .bool false, .nilslice]
def a236 : AV := .agg [.bool false, .eslice, .bool false, .nilslice, .bool false, .vslice [.int .u32 2] 1, .bool false, .nilslice, .bool false, .vslice [.int .u32 1] 1, .bool false, .nilslice]
def a237 : AV := .agg [.bool false, .vslice [.int .u32 4] 1, .bool false, .nilslice, .bool false, .vslice [.int .u32 1] 1, .bool false, .nilslice, .bool false, .eslice, .bool false, .nilslice]
def a238 : AV := .agg [.bool false, .vslice [.int .u32 1] 1, .bool false, .nilslice, .bool false, .vslice [.int .u32 1] 1, .bool false, .nilslice, .bool false, .eslice, .bool false, .nilslice]
def a239 : AV := .agg [.bool false, .vslice [.int .u32 8] 1, .bool false, .nilslice, .bool false, .vslice [.int .u32 1] 1, .bool false, .nilslice, .bool false, .eslice, .bool false, .nilslice]
def a240 : AV := .agg [.bool false, .vslice [] 0, .bool false, .nilslice, .bool false, .eslice, .bool false, .nilslice, .bool false, .eslice, .bool false, .nilslice]
def a241 : AV := .agg [.bool false, .vslice [.int .u32 7] 1, .bool false, .nilslice, .bool false, .vslice [.int .u32 1] 1, .bool false, .nilslice, .bool false, .vslice [.int .u32 2] 1, .bool false, .nilslice]
def a242 : AV := .agg [.bool false, .vslice [.int .u32 1] 1, .bool false, .nilslice, .bool false, .vslice [.int .u32 3] 1, .bool false, .nilslice, .bool false, .vslice [.int .u32 2] 1, .bool false, .nilslice]
def a243 : AV := .agg [.bool false, .vslice [.int .u32 15] 1, .bool false, .nilslice, .bool false, .vslice [.int .u32 1] 1, .bool false, .nilslice, .bool false, .vslice [.int .u32 2] 1, .bool false, .nilslice]
def a244 : AV := .agg [.bool false, .vslice [.int .u32 84] 1, .bool false, .nilslice, .bool false, .vslice [.int .u32 12] 1, .bool false, .nilslice, .bool false, .vslice [.int .u32 12] 1, .bool false, .nilslice]
def a245 : AV := .agg [.bool false, .vslice [.int .u32 7] 1, .bool false, .nilslice, .bool false, .eslice, .bool false, .nilslice, .bool false, .vslice [.int .u32 1] 1, .bool false, .nilslice]
def a246 : AV := .agg [.bool false, .vslice [.int .u32 3] 1, .bool false, .nilslice, .bool false, .vslice [.int .u32 3] 1, .bool false, .nilslice, .bool false, .vslice [.int .u32 6] 1, .bool false, .nilslice]
def a247 : AV := .agg [.bool false, .vslice [.int .u32 1] 1, .bool false, .nilslice, .bool false, .vslice [.int .u32 2] 1, .bool false, .nilslice, .bool false, .vslice [.int .u32 1] 1, .bool false, .nilslice]
def a248 : AV := .agg [.bool false, .vslice [.int .u32 2] 1, .bool false, .nilslice, .bool false, .vslice [.int .u32 3] 1, .bool false, .nilslice, .bool false, .vslice [.int .u32 1] 1, .bool false, .nilslice]
def a249 : AV := .agg [.bool false, .vslice [.int .u32 6] 1, .bool false, .nilslice, .bool false, .eslice, .bool false, .nilslice, .bool false, .vslice [.int .u32 1] 1, .bool false, .nilslice]
def a250 : AV := .agg [.bool false, .vslice [.int .u32 13] 1, .bool false, .nilslice, .bool false, .eslice, .bool false, .nilslice, .bool false, .vslice [.int .u32 2] 1, .bool false, .nilslice]
def a251 : AV := .agg [.bool false, .vslice [.int .u32 13] 1, .bool false, .nilslice, .bool false, .vslice [.int .u32 3] 1, .bool false, .nilslice, .bool false, .vslice [.int .u32 2] 1, .bool false, .nilslice]
def a252 : AV := .agg [.bool false, .vslice [.int .u32 6] 1, .bool false, .nilslice, .bool false, .vslice [.int .u32 1] 1, .bool false, .nilslice, .bool false, .eslice, .bool false, .nilslice]
def a253 : AV := .agg [.bool false, .vslice [.int .u32 12] 1, .bool false, .nilslice, .bool false, .vslice [.int .u32 2] 1, .bool false, .nilslice, .bool false, .vslice [.int .u32 1] 1, .bool false, .nilslice]
def a254 : AV := .agg [.bool false, .vslice [.int .u32 13] 1, .bool false, .nilslice, .bool false, .vslice [.int .u32 2] 1, .bool false, .nilslice, .bool false, .vslice [.int .u32 3] 1, .bool false, .nilslice]
def a255 : AV := .agg [.bool false, .eslice, .bool false, .nilslice, .bool false, .vslice [] 0, .bool false, .nilslice, .bool false, .eslice, .bool false, .nilslice]
def a256 : AV := .agg [.bool false, .vslice [.int .u32 4] 1, .bool false, .nilslice, .bool false, .vslice [.int .u32 6] 1, .bool false, .nilslice, .bool false, .vslice [.int .u32 8] 1, .bool false, .nilslice]
def a257 : AV := .agg [.bool false, .vslice [.int .u32 6] 1, .bool false, .nilslice, .bool false, .vslice [.int .u32 9] 1, .bool false, .nilslice, .bool false, .vslice [.int .u32 9] 1, .bool false, .nilslice]
def a258 : AV := .agg [.bool false, .vslice [.int .u32 14] 1, .bool false, .nilslice, .bool false, .eslice, .bool false, .nilslice, .bool false, .vslice [.int .u32 1] 1, .bool false, .nilslice]
def a259 : AV := .agg [.bool false, .vslice [.int .u32 27] 1, .bool false, .nilslice, .bool false, .vslice [.int .u32 3] 1, .bool false, .nilslice, .bool false, .vslice [.int .u32 6] 1, .bool false, .nilslice]
def a260 : AV := .agg [.bool false, .vslice [.int .u32 1] 1, .bool false, .nilslice, .bool false, .vslice [.int .u32 2] 1, .bool false, .nilslice, .bool false, .eslice, .bool false, .nilslice]
def a261 : AV := .agg [.bool false, .vslice [.int .u32 13] 1, .bool false, .nilslice, .bool false, .vslice [.int .u32 2] 1, .bool false, .nilslice, .bool false, .eslice, .bool false, .nilslice]
def a262 : AV := .agg [.bool false, .vslice [.int .u32 12] 1, .bool false, .nilslice, .bool false, .vslice [.int .u32 1] 1, .bool false, .nilslice, .bool false, .vslice [.int .u32 2] 1, .bool false, .nilslice]
def a263 : AV := .agg [.str [49], .str [48], .str [48]]
def a264 : AV := .agg [.bool false, .vslice [.int .u32 2] 1, .bool false, .vslice [.int .u32 1] 1]
def a265 : AV := .vptr [.bool false, .vslice [.int .u32 1] 1, .bool false, .nilslice] 0
def a266 : AV := .vptr [.bool false, .eslice, .bool false, .nilslice] 0
def a267 : AV := .tuple [a191, .int .i64 0]
def a268 : AV := .tuple [a127, .int .i64 0]
def a269 : AV := .vslice [.bool false, .eslice, .bool false, .nilslice, .bool false, .eslice, .bool false, .nilslice, .bool false, .vslice [.int .u32 1] 1, .bool false, .nilslice, .bool false, .eslice, .bool false, .nilslice, .bool false, .vslice [.int .u32 1] 1, .bool false, .nilslice, .bool false, .eslice, .bool false, .nilslice, .bool false, .vslice [.int .u32 1] 1, .bool false, .nilslice, .bool false, .eslice, .bool false, .nilslice, .bool false, .eslice, .bool false, .nilslice] 3
def a270 : AV := .tuple [a120, .int .i64 0]
def a271 : AV := .agg [.int .i64 1, .int .i64 0, .int .i64 0, .int .i64 0, .str [51], .str [48], .str [48]]
def a272 : AV := .agg [.int .i64 1, .int .i64 0, .int .i64 0, .int .i64 0, .str [48], .str [48], .str [48]]
def a273 : AV := .agg [.int .i64 1, .int .i64 0, .int .i64 0, .int .i64 0, .str [49], .str [48], .str [48]]
def a274 : AV := .agg [.bool false, .vslice [.int .u32 1] 1, .bool false, .vslice [.int .u32 2] 1, .bool false, .eslice, .bool false, .nilslice, .bool false, .eslice, .bool false, .nilslice]
def a275 : AV := .agg [.bool true, .vslice [.int .u32 1] 1, .bool false, .nilslice, .bool false, .eslice, .bool false, .nilslice, .bool false, .vslice [.int .u32 1] 1, .bool false, .nilslice]
def a276 : AV := .agg [.bool false, .eslice, .bool false, .nilslice, .bool false, .vslice [.int .u32 1] 1, .bool false, .nilslice, .bool true, .vslice [.int .u32 1] 1, .bool false, .nilslice]
def a277 : AV := .agg [.bool false, .vslice [.int .u32 1] 1, .bool false, .nilslice, .bool true, .vslice [.int .u32 1] 1, .bool false, .nilslice, .bool false, .eslice, .bool false, .nilslice]
def a278 : AV := .agg [.bool false, .eslice, .bool false, .nilslice, .bool true, .vslice [.int .u32 1] 1, .bool false, .nilslice, .bool false, .vslice [.int .u32 1] 1, .bool false, .nilslice]
def a279 : AV := .agg [.bool true, .vslice [.int .u32 1] 1, .bool false, .nilslice, .bool false, .vslice [.int .u32 1] 1, .bool false, .nilslice, .bool false, .eslice, .bool false, .nilslice]
def a280 : AV := .agg [.bool false, .vslice [.int .u32 1] 1, .bool false, .nilslice, .bool false, .eslice, .bool false, .nilslice, .bool true, .vslice [.int .u32 1] 1, .bool false, .nilslice]
def a281 : AV := .agg [.bool false, .vslice [.int .u32 1] 1, .bool false, .vslice [.int .u32 2] 1, .bool false, .vslice [.int .u32 1] 1, .bool false, .vslice [.int .u32 2] 1, .bool false, .vslice [.int .u32 1] 1, .bool false, .vslice [.int .u32 2] 1]
def a282 : AV := .agg [.bool false, .vslice [.int .u32 3] 1, .bool false, .vslice [.int .u32 2] 1, .bool false, .vslice [.int .u32 1] 1, .bool false, .nilslice, .bool false, .vslice [.int .u32 1] 1, .bool false, .nilslice]
def a283 : AV := .agg [.bool false, .vslice [.int .u32 3] 1, .bool false, .vslice [.int .u32 2] 1, .bool false, .vslice [.int .u32 1] 1, .bool false, .nilslice, .bool false, .eslice, .bool false, .nilslice]
def a284 : AV := .agg [.bool false, .vslice [.int .u32 7] 1, .bool false, .vslice [.int .u32 2] 1, .bool false, .vslice [.int .u32 1] 1, .bool false, .vslice [.int .u32 2] 1, .bool false, .vslice [.int .u32 1] 1, .bool false, .vslice [.int .u32 2] 1]
def a285 : AV := .agg [.bool false, .vslice [.int .u32 4] 1, .bool false, .vslice [.int .u32 1] 1, .bool false, .vslice [.int .u32 1] 1, .bool false, .vslice [.int .u32 1] 1, .bool false, .vslice [.int .u32 1] 1, .bool false, .vslice [.int .u32 1] 1]
def a286 : AV := .agg [.bool false, .vslice [.int .u32 1] 1, .bool false, .vslice [.int .u32 2] 1, .bool false, .eslice, .bool false, .nilslice, .bool false, .vslice [.int .u32 1] 1, .bool false, .nilslice]
def a287 : AV := .agg [.bool false, .vslice [.int .u32 1] 1, .bool false, .vslice [.int .u32 2] 1, .bool false, .vslice [.int .u32 1] 1, .bool false, .nilslice, .bool false, .eslice, .bool false, .nilslice]
def a288 : AV := .agg [.bool false, .vslice [.int .u32 3] 1, .bool false, .vslice [.int .u32 2] 1, .bool false, .eslice, .bool false, .nilslice, .bool false, .eslice, .bool false, .nilslice]
def a289 : AV := .agg [.bool false, .vslice [.int .u32 3] 1, .bool false, .vslice [.int .u32 2] 1, .bool false, .eslice, .bool false, .nilslice, .bool false, .vslice [.int .u32 1] 1, .bool false, .nilslice]
def a290 : AV := .agg [.bool false, .vslice [.int .u32 1] 1, .bool false, .vslice [.int .u32 2] 1, .bool false, .vslice [.int .u32 1] 1, .bool false, .nilslice, .bool false, .vslice [.int .u32 1] 1, .bool false, .nilslice]
def a291 : AV := .agg [.bool false, .vslice [.int .u32 2] 1, .bool false, .vslice [.int .u32 1] 1, .bool false, .vslice [.int .u32 1] 1, .bool false, .vslice [.int .u32 2] 1, .bool false, .vslice [.int .u32 1] 1, .bool false, .vslice [.int .u32 2] 1]
def a292 : AV := .vptr [.bool false, .vslice [.int .u32 1] 1, .bool false, .vslice [.int .u32 1] 1] 0
def a293 : AV := .vptr [.bool false, .vslice [.int .u32 1] 1, .bool false, .vslice [.int .u32 24] 1] 0
def a294 : AV := .vptr [.bool false, .vslice [.int .u32 1] 1, .bool false, .vslice [.int .u32 2] 1] 0
def a295 : AV := .agg [.int .i64 1, .int .i64 0, .int .i64 0, .int .i64 0, .str [49, 47, 50], .str [48], .str [48]]
def a296 : AV := .agg [.bool false, .vslice [.int .u32 1] 1, .bool false, .vslice [.int .u32 1] 1, .bool false, .eslice, .bool false, .nilslice, .bool false, .eslice, .bool false, .nilslice]
def a297 : AV := .agg [.bool false, .nilslice, .bool false, .vslice [.int .u32 1] 1, .bool false, .vslice [.int .u32 1] 1, .bool false, .nilslice, .bool false, .eslice, .bool false, .nilslice]
def a298 : AV := .agg [.bool false, .nilslice, .bool false, .vslice [.int .u32 1] 1, .bool false, .eslice, .bool false, .nilslice, .bool false, .vslice [.int .u32 1] 1, .bool false, .nilslice]
def a299 : AV := .agg [.bool false, .vslice [.int .u32 1] 1, .bool false, .nilslice, .bool false, .eslice, .bool false, .nilslice, .bool false, .eslice, .bool false, .nilslice, .bool false, .eslice, .bool false, .nilslice, .bool false, .vslice [.int .u32 1] 1, .bool false, .nilslice, .bool false, .eslice, .bool false, .nilslice, .bool false, .eslice, .bool false, .nilslice, .bool false, .eslice, .bool false, .nilslice, .bool false, .vslice [.int .u32 1] 1, .bool false, .nilslice, .bool false, .vslice [.int .u32 1] 1, .bool false, .vslice [.int .u32 2] 1, .bool false, .eslice, .bool false, .nilslice, .bool false, .eslice, .bool false, .nilslice]
def a300 : AV := .agg [.bool false, .vslice [.int .u32 1] 1, .bool false, .nilslice, .bool false, .eslice, .bool false, .nilslice, .bool false, .eslice, .bool false, .nilslice, .bool false, .eslice, .bool false, .nilslice, .bool false, .vslice [.int .u32 1] 1, .bool false, .nilslice, .bool false, .eslice, .bool false, .nilslice, .bool false, .eslice, .bool false, .nilslice, .bool false, .eslice, .bool false, .nilslice, .bool false, .vslice [.int .u32 1] 1, .bool false, .nilslice, .bool false, .vslice [.int .u32 1] 1, .bool false, .nilslice, .bool false, .eslice, .bool false, .nilslice, .bool false, .eslice, .bool false, .nilslice]
def a301 : AV := .agg [.bool false, .vslice [.int .u32 1] 1, .bool false, .nilslice, .bool false, .eslice, .bool false, .nilslice, .bool false, .eslice, .bool false, .nilslice, .bool false, .eslice, .bool false, .nilslice, .bool false, .vslice [.int .u32 1] 1, .bool false, .nilslice, .bool false, .eslice, .bool false, .nilslice, .bool false, .eslice, .bool false, .nilslice, .bool false, .eslice, .bool false, .nilslice, .bool false, .vslice [.int .u32 1] 1, .bool false, .nilslice, .bool false, .vslice [.int .u32 3] 1, .bool false, .nilslice, .bool false, .eslice, .bool false, .nilslice, .bool false, .eslice, .bool false, .nilslice]
def a302 : AV := .agg [.bool false, .vslice [.int .u32 1] 1, .bool false, .nilslice, .bool false, .eslice, .bool false, .nilslice, .bool false, .eslice, .bool false, .nilslice, .bool false, .eslice, .bool false, .nilslice, .bool false, .vslice [.int .u32 1] 1, .bool false, .nilslice, .bool false, .eslice, .bool false, .nilslice, .bool false, .eslice, .bool false, .nilslice, .bool false, .eslice, .bool false, .nilslice, .bool false, .vslice [.int .u32 1] 1, .bool false, .nilslice, .bool false, .eslice, .bool false, .nilslice, .bool false, .eslice, .bool false, .nilslice, .bool false, .eslice, .bool false, .nilslice]
def a303 : AV := .agg [.int .i64 1, .vslice [a5, a12, a13] 1]
def a304 : AV := .tuple [a68, .int .i64 0]
def a305 : AV := .tuple [a195, .int .i64 0]
def a306 : AV := .vslice [.bool true, .vslice [.int .u32 1] 1, .bool false, .nilslice, .bool false, .eslice, .bool false, .nilslice, .bool false, .eslice, .bool false, .nilslice, .bool false, .eslice, .bool false, .nilslice, .bool true, .vslice [.int .u32 1] 1, .bool false, .nilslice, .bool false, .eslice, .bool false, .nilslice, .bool false, .eslice, .bool false, .nilslice, .bool false, .eslice, .bool false, .nilslice, .bool true, .vslice [.int .u32 1] 1, .bool false, .nilslice, .bool false, .eslice, .bool false, .nilslice, .bool false, .eslice, .bool false, .nilslice, .bool false, .vslice [.int .u32 1] 1, .bool false, .nilslice, .bool false, .eslice, .bool false, .nilslice, .bool false, .vslice [.int .u32 1] 1, .bool false, .nilslice, .bool false, .eslice, .bool false, .nilslice, .bool false, .vslice [.int .u32 1] 1, .bool false, .nilslice, .bool false, .eslice, .bool false, .nilslice, .bool false, .eslice, .bool false, .nilslice] 6
def k1_5 : Known := [
([.str [97]], .bool true),
([.str [98]], .bool true),
([.str [97, 45, 49]], .bool true),
([.str [99, 117, 98, 101]], .bool true)]
def k1_8 : Known := [
([.str [49, 47, 50]], a2),
([.str [51]], .agg [a1, a3]),
([.str [49]], a4)]
def k1_14 : Known := [
([a17], .func 30 [] [.vptr [a17] 0]),
([a21], .func 30 [] [.vptr [a21] 0]),
([a25], .func 30 [] [.vptr [a25] 0])]
def k1_25 : Known := [
([a3, .func 26 [] [.vptr [.str [98]] 0]], .int .i64 1)]
def k1_45 : Known := [
([a26], .str [48])]
def k1_54 : Known := [
([a26], .int .i64 0),
([a27], .int .i64 0),
([a28], .int .i64 1),
([a29], .int .i64 1),
([a30], .int .i64 (-1)),
([a31], .int .i64 1),
([a32], .int .i64 1),
([a33], .int .i64 (-1)),
([a34], .int .i64 (-1)),
([a35], .int .i64 1),
([a36], .int .i64 1),
([a37], .int .i64 (-1))]
def k1_55 : Known := [
([a37, a26], .int .i64 (-1)),
([a28, a37], .int .i64 1),
([a37, a27], .int .i64 (-1)),
([a26, a37], .int .i64 1)]
def k1_59 : Known := [
([.eslice, .vslice [.int .u32 4] 1], .int .i64 (-1)),
([.eslice, .vslice [.int .u32 3] 1], .int .i64 (-1)),
([.vslice [.int .u32 1] 1, .vslice [] 0], .int .i64 1),
([.eslice, .vslice [.int .u32 1] 1], .int .i64 (-1)),
([.vslice [.int .u32 3] 1, .eslice], .int .i64 1),
([.eslice, .vslice [.int .u32 2] 1], .int .i64 (-1)),
([.nilslice, .vslice [.int .u32 4] 1], .int .i64 (-1)),
([.nilslice, .vslice [.int .u32 3] 1], .int .i64 (-1)),
([.vslice [] 0, .vslice [.int .u32 1] 1], .int .i64 (-1)),
([.vslice [.int .u32 3] 1, .vslice [] 0], .int .i64 1),
([.vslice [.int .u32 2] 1, .vslice [] 0], .int .i64 1),
([.vslice [.int .u32 2] 1, .eslice], .int .i64 1),
([.vslice [.int .u32 1] 1, .eslice], .int .i64 1),
([.nilslice, .vslice [.int .u32 1] 1], .int .i64 (-1)),
([.vslice [.int .u32 4] 1, .vslice [] 0], .int .i64 1),
([.vslice [.int .u32 1] 1, .nilslice], .int .i64 1),
([.vslice [.int .u32 4] 1, .eslice], .int .i64 1),
([.nilslice, .vslice [.int .u32 2] 1], .int .i64 (-1)),
([.eslice, .eslice], .int .i64 0),
([.eslice, .nilslice], .int .i64 0),
([.nilslice, .nilslice], .int .i64 0),
([.vslice [.int .u32 2] 1, .vslice [.int .u32 2] 1], .int .i64 0),
([.vslice [.int .u32 3] 1, .vslice [.int .u32 3] 1], .int .i64 0),
([.vslice [.int .u32 6] 1, .vslice [.int .u32 6] 1], .int .i64 0),
([.vslice [.int .u32 1] 1, .vslice [.int .u32 1] 1], .int .i64 0),
([.vslice [.int .u32 4] 1, .vslice [.int .u32 4] 1], .int .i64 0),
([.vslice [.int .u32 12] 1, .vslice [.int .u32 12] 1], .int .i64 0),
([.vslice [.int .u32 4] 1, .vslice [.int .u32 3] 1], .int .i64 1),
([.vslice [.int .u32 24] 1, .vslice [.int .u32 1] 1], .int .i64 1),
([.vslice [.int .u32 2] 1, .vslice [.int .u32 1] 1], .int .i64 1),
([.vslice [.int .u32 6] 1, .vslice [.int .u32 1] 1], .int .i64 1),
([.vslice [.int .u32 6] 1, .vslice [.int .u32 2] 1], .int .i64 1),
([.vslice [.int .u32 84] 1, .vslice [.int .u32 12] 1], .int .i64 1),
([.vslice [.int .u32 1] 1, .vslice [.int .u32 2] 1], .int .i64 (-1)),
([.vslice [.int .u32 1] 1, .vslice [.int .u32 24] 1], .int .i64 (-1)),
([.vslice [.int .u32 2] 1, .vslice [.int .u32 6] 1], .int .i64 (-1)),
([.vslice [.int .u32 24] 1, .vslice [.int .u32 12] 1], .int .i64 1),
([.vslice [.int .u32 16] 1, .vslice [.int .u32 4] 1], .int .i64 1),
([.vslice [.int .u32 7] 1, .vslice [.int .u32 2] 1], .int .i64 1),
([.vslice [.int .u32 4] 1, .vslice [.int .u32 2] 1], .int .i64 1),
([.vslice [.int .u32 12] 1, .vslice [.int .u32 1] 1], .int .i64 1),
([.vslice [.int .u32 3] 1, .vslice [.int .u32 2] 1], .int .i64 1),
([.vslice [.int .u32 3] 1, .vslice [.int .u32 1] 1], .int .i64 1),
([.vslice [.int .u32 4] 1, .vslice [.int .u32 1] 1], .int .i64 1),
([.vslice [.int .u32 84] 1, .vslice [.int .u32 24] 1], .int .i64 1),
([.vslice [.int .u32 12] 1, .vslice [.int .u32 24] 1], .int .i64 (-1)),
([.vslice [.int .u32 3] 1, .vslice [.int .u32 4] 1], .int .i64 (-1))]
def k1_60 : Known := [
([.vslice [.int .u32 1] 1, .vslice [] 0], .vslice [.int .u32 1] 1),
([.vslice [.int .u32 3] 1, .eslice], .vslice [.int .u32 3] 1),
([.vslice [.int .u32 2] 1, .nilslice], .vslice [.int .u32 2] 1),
([.vslice [.int .u32 4] 1, .vslice [] 0], .vslice [.int .u32 4] 1),
([.vslice [.int .u32 1] 1, .nilslice], .vslice [.int .u32 1] 1),
([.vslice [.int .u32 4] 1, .nilslice], .vslice [.int .u32 4] 1),
([.vslice [.int .u32 4] 1, .eslice], .vslice [.int .u32 4] 1),
([.vslice [.int .u32 3] 1, .vslice [] 0], .vslice [.int .u32 3] 1),
([.vslice [.int .u32 1] 1, .eslice], .vslice [.int .u32 1] 1),
([.vslice [.int .u32 3] 1, .nilslice], .vslice [.int .u32 3] 1),
([.vslice [.int .u32 2] 1, .vslice [] 0], .vslice [.int .u32 2] 1),
([.vslice [.int .u32 2] 1, .eslice], .vslice [.int .u32 2] 1),
([.vslice [.int .u32 6] 1, .vslice [.int .u32 2] 1], .vslice [.int .u32 4] 1),
([.vslice [.int .u32 2] 1, .vslice [.int .u32 2] 1], .vslice [.int .u32 0] 1),
([.vslice [.int .u32 1] 1, .vslice [.int .u32 1] 1], .vslice [.int .u32 0] 1),
([.vslice [.int .u32 6] 1, .vslice [.int .u32 6] 1], .vslice [.int .u32 0] 1),
([.vslice [.int .u32 4] 1, .vslice [.int .u32 4] 1], .vslice [.int .u32 0] 1),
([.vslice [.int .u32 3] 1, .vslice [.int .u32 3] 1], .vslice [.int .u32 0] 1),
([.vslice [.int .u32 4] 1, .vslice [.int .u32 3] 1], .vslice [.int .u32 1] 1),
([.vslice [.int .u32 3] 1, .vslice [.int .u32 1] 1], .vslice [.int .u32 2] 1),
([.vslice [.int .u32 2] 1, .vslice [.int .u32 1] 1], .vslice [.int .u32 1] 1)]
def k1_61 : Known := [
([a38], a38),
([a26], a26),
([a29], a30),
([a39], a34),
([a28], a37),
([a31], a33),
([a37], a28)]
def k1_62 : Known := [
([a27, a26], a27),
([a28, a26], a28)]
def k1_64 : Known := [
([.agg [a5, a12, a13]], .func 82 [] [.vptr [a5, a12, a13] 0]),
([.agg [a22, a23, a13]], .func 82 [] [.vptr [a22, a23, a13] 0])]
def k1_73 : Known := [
([a40, a41], .bool true)]
def k1_74 : Known := [
([a40], a40)]
def k1_79 : Known := [
([.vslice [.int .u32 1] 1], .vslice [.int .u32 1] 1),
([.vslice [.int .u32 12] 1], .vslice [.int .u32 12] 1),
([.eslice], .eslice),
([.vslice [.int .u32 4] 1], .vslice [.int .u32 4] 1),
([.vslice [.int .u32 24] 1], .vslice [.int .u32 24] 1),
([.vslice [.int .u32 2] 1], .vslice [.int .u32 2] 1),
([.vslice [] 0], .vslice [] 0),
([.vslice [.int .u32 3] 1], .vslice [.int .u32 3] 1),
([.vslice [.int .u32 7] 1], .vslice [.int .u32 7] 1),
([.nilslice], .nilslice),
([a42], .vslice [.int .u32 1] 1),
([a43], .vslice [.int .u32 10] 1),
([a44], .vslice [.int .u32 69] 1),
([.vslice [.int .u32 0] 1], .eslice),
([a45], .vslice [.int .u32 2] 1),
([a46], .vslice [.int .u32 7] 1),
([a47], .vslice [.int .u32 24] 1),
([a48], .vslice [.int .u32 6] 1),
([a49], .vslice [.int .u32 54] 1),
([a50], .vslice [.int .u32 8] 1),
([a51], .vslice [.int .u32 84] 1),
([a52], .vslice [.int .u32 14] 1),
([a53], .vslice [.int .u32 9] 1),
([a54], .vslice [.int .u32 40] 1),
([a55], .vslice [.int .u32 11] 1),
([a56], .vslice [.int .u32 4] 1),
([a57], .vslice [.int .u32 16] 1),
([a58], .vslice [.int .u32 15] 1),
([a59], .vslice [.int .u32 12] 1),
([a60], .vslice [.int .u32 27] 1),
([a61], .vslice [.int .u32 13] 1),
([a62], .vslice [.int .u32 3] 1),
([a63], .vslice [.int .u32 5] 1),
([a64], .eslice)]
def k1_123 : Known := [
([.str [48], .str [45]], .bool false),
([.str [50], .str [45]], .bool false),
([.str [51], .str [45]], .bool false),
([.str [49], .str [45]], .bool false)]
def k1_136 : Known := [
([a6], a6),
([a8], a8),
([a7], a7),
([a10], a10),
([a11], a11),
([a9], a9)]
def k1_139 : Known := [
([a65], a26),
([a66], a28),
([a67], a37)]
def k1_141 : Known := [
([.nilslice, a68, .func 112 [] []], .tuple [.int .i64 0, .bool false])]
def k1_157 : Known := [
([.int .u64 255], .int .i64 8)]
def k1_166 : Known := [
([.vslice [.int .i64 (-1), .int .i64 0] 2], .int .i64 (-1)),
([.vslice [.int .i64 (-1), .int .i64 (-1)] 2], .int .i64 (-1)),
([.vslice [.int .i64 1, .int .i64 0] 2], .int .i64 1),
([.vslice [.int .i64 1, .int .i64 (-1)] 2], .int .i64 1),
([.vslice [.int .i64 (-1), .int .i64 1] 2], .int .i64 (-1)),
([.vslice [.int .i64 1, .int .i64 1] 2], .int .i64 1),
([.vslice [.int .i64 0, .int .i64 (-1)] 2], .int .i64 (-1)),
([.vslice [.int .i64 0, .int .i64 1] 2], .int .i64 1)]
def k1_167 : Known := [
([.int .i64 5, .int .i64 6], .int .i64 (-1)),
([.int .i64 0, .int .i64 4], .int .i64 (-1)),
([.int .i64 2, .int .i64 4], .int .i64 (-1)),
([.int .i64 1, .int .i64 4], .int .i64 (-1)),
([.int .i64 4, .int .i64 6], .int .i64 (-1)),
([.int .i64 0, .int .i64 1], .int .i64 (-1)),
([.int .i64 1, .int .i64 2], .int .i64 (-1)),
([.int .i64 3, .int .i64 5], .int .i64 (-1)),
([.int .i64 2, .int .i64 3], .int .i64 (-1)),
([.int .i64 0, .int .i64 2], .int .i64 (-1)),
([.int .i64 3, .int .i64 4], .int .i64 (-1)),
([.int .i64 1, .int .i64 1], .int .i64 0),
([.int .i64 2, .int .i64 2], .int .i64 0),
([.int .i64 0, .int .i64 0], .int .i64 0),
([.int .i64 5, .int .i64 4], .int .i64 1),
([.int .i64 5, .int .i64 5], .int .i64 0),
([.int .i64 4, .int .i64 2], .int .i64 1),
([.int .i64 3, .int .i64 1], .int .i64 1),
([.int .i64 4, .int .i64 3], .int .i64 1),
([.int .i64 6, .int .i64 3], .int .i64 1),
([.int .i64 7, .int .i64 5], .int .i64 1),
([.int .i64 2, .int .i64 1], .int .i64 1),
([.int .i64 5, .int .i64 3], .int .i64 1),
([.int .i64 4, .int .i64 4], .int .i64 0),
([.int .i64 7, .int .i64 7], .int .i64 0),
([.int .i64 7, .int .i64 6], .int .i64 1),
([.int .i64 3, .int .i64 3], .int .i64 0),
([.int .i64 6, .int .i64 5], .int .i64 1),
([.int .i64 1, .int .i64 0], .int .i64 1),
([.int .i64 4, .int .i64 1], .int .i64 1),
([.int .i64 6, .int .i64 6], .int .i64 0),
([.int .i64 3, .int .i64 2], .int .i64 1)]
def k1_190 : Known := [
([.int .i64 0], .bool false),
([.int .i64 1], .bool false)]
def k1_191_0 : Known := [
([a69, a70], a71),
([a72, a71], a73),
([a74, a72], a73),
([a75, a76], a72),
([a69, a77], a78),
([a77, a79], a74),
([a80, a79], a81),
([a79, a82], a74),
([a76, a81], a79),
([a76, a79], a83),
([a80, a73], a69),
([a69, a76], a84),
([a85, a82], a70),
([a84, a72], a73),
([a86, a72], a84),
([a84, a69], a76),
([a84, a82], a86),
([a71, a87], a76),
([a88, a84], a86),
([a74, a84], a76),
([a72, a87], a73),
([a70, a73], a71),
([a83, a71], a76),
([a69, a82], a80),
([a72, a73], a84),
([a79, a69], a76),
([a86, a84], a85),
([a86, a74], a82),
([a76, a84], a69),
([a76, a75], a69),
([a84, a80], a69),
([a79, a75], a88),
([a73, a89], a71),
([a76, a74], a79),
([a77, a84], a89),
([a84, a76], a72)]
def k1_191_1 : Known := [
([a69, a85], a84),
([a75, a84], a69),
([a72, a89], a84),
([a69, a80], a78),
([a84, a73], a69),
([a69, a73], a71),
([a88, a74], a87),
([a85, a69], a71),
([a85, a79], a90),
([a84, a75], a72),
([a80, a77], a75),
([a85, a75], a77),
([a79, a84], a73),
([a86, a81], a85),
([a81, a75], a91),
([a69, a83], a76),
([a69, a79], a73),
([a76, a69], a71),
([a84, a81], a89),
([a85, a76], a84),
([a84, a79], a76),
([a76, a82], a83),
([a84, a74], a73),
([a76, a91], a72),
([a86, a75], a92),
([a76, a85], a71),
([a69, a71], a76),
([a69, a84], a73),
([a74, a75], a93),
([a86, a76], a71),
([a88, a80], a75),
([a73, a78], a69),
([a76, a71], a72),
([a75, a82], a91),
([a73, a71], a69),
([a71, a78], a72)]
def k1_191_2 : Known := [
([a80, a74], a94),
([a91, a71], a72),
([a85, a84], a70),
([a80, a84], a72),
([a69, a75], a80),
([a74, a81], a87),
([a76, a72], a84),
([a76, a86], a84)]
def k1_191 : Known := k1_191_0 ++ (k1_191_1 ++ (k1_191_2))
def k1_192_0 : Known := [
([a94, a73], a87),
([a95, a89], a85),
([a94, a89], a71),
([a87, a72], a71),
([a72, a71], a74),
([a73, a87], a77),
([a78, a89], a83),
([a95, a90], a81),
([a95, a75], a78),
([a95, a83], a74),
([a89, a72], a73),
([a71, a72], a83),
([a94, a71], a89),
([a95, a92], a88),
([a95, a82], a94),
([a71, a71], a95),
([a94, a87], a73),
([a73, a72], a70),
([a89, a71], a88),
([a95, a73], a76),
([a89, a73], a72),
([a87, a78], a86),
([a71, a78], a76),
([a72, a95], a72),
([a71, a94], a85),
([a95, a71], a84),
([a95, a69], a72),
([a95, a77], a93),
([a78, a78], a95),
([a73, a89], a69),
([a95, a80], a91),
([a71, a73], a91),
([a73, a94], a79),
([a71, a95], a71),
([a78, a71], a73),
([a71, a87], a69),
([a78, a94], a69),
([a73, a71], a80),
([a95, a70], a86),
([a95, a81], a90),
([a95, a88], a92),
([a95, a84], a71),
([a95, a79], a87),
([a72, a78], a81),
([a72, a94], a75),
([a94, a94], a95),
([a95, a86], a70),
([a78, a95], a78),
([a89, a87], a80),
([a94, a78], a72)]
def k1_192_1 : Known := [
([a95, a94], a82),
([a89, a94], a84),
([a87, a94], a76),
([a87, a87], a95),
([a95, a85], a89),
([a95, a78], a75),
([a78, a73], a71),
([a95, a87], a79),
([a89, a78], a74),
([a72, a87], a84),
([a94, a72], a78),
([a89, a95], a89),
([a89, a89], a95),
([a73, a78], a84),
([a87, a73], a93),
([a73, a95], a73),
([a73, a73], a95),
([a87, a95], a87),
([a78, a87], a70),
([a87, a89], a91),
([a95, a74], a83),
([a71, a89], a92),
([a95, a91], a80),
([a95, a93], a77),
([a95, a76], a73),
([a72, a73], a86),
([a72, a89], a76),
([a87, a71], a72),
([a95, a72], a69)]
def k1_192 : Known := k1_192_0 ++ (k1_192_1)
def k1_195_0 : Known := [
([a84, a82], .int .i64 1),
([a71, a95], .int .i64 0),
([a69, a86], .int .i64 (-1)),
([a94, a95], .int .i64 0),
([a89, a76], .int .i64 (-1)),
([a89, a81], .int .i64 0),
([a74, a69], .int .i64 (-1)),
([a77, a95], .int .i64 0),
([a92, a81], .int .i64 (-1)),
([a76, a76], .int .i64 1),
([a70, a85], .int .i64 0),
([a87, a74], .int .i64 0),
([a69, a81], .int .i64 (-1)),
([a71, a85], .int .i64 0),
([a74, a84], .int .i64 1),
([a86, a69], .int .i64 (-1)),
([a89, a77], .int .i64 0),
([a84, a69], .int .i64 0),
([a82, a76], .int .i64 1),
([a82, a72], .int .i64 (-1)),
([a79, a95], .int .i64 0),
([a91, a84], .int .i64 (-1)),
([a82, a74], .int .i64 0),
([a77, a82], .int .i64 1),
([a74, a76], .int .i64 0),
([a74, a82], .int .i64 0),
([a72, a77], .int .i64 (-1)),
([a70, a69], .int .i64 1),
([a92, a76], .int .i64 1),
([a77, a85], .int .i64 0),
([a94, a74], .int .i64 0),
([a74, a75], .int .i64 1),
([a92, a95], .int .i64 0),
([a74, a79], .int .i64 0),
([a87, a76], .int .i64 0),
([a69, a76], .int .i64 0),
([a90, a82], .int .i64 (-1)),
([a72, a76], .int .i64 0),
([a75, a79], .int .i64 1),
([a91, a81], .int .i64 0),
([a77, a76], .int .i64 (-1)),
([a94, a84], .int .i64 (-1)),
([a78, a69], .int .i64 0),
([a82, a81], .int .i64 1),
([a71, a83], .int .i64 1),
([a89, a75], .int .i64 (-1)),
([a91, a82], .int .i64 0),
([a88, a85], .int .i64 (-2)),
([a73, a76], .int .i64 (-1))]
def k1_195_1 : Known := [
([a69, a69], .int .i64 1),
([a76, a81], .int .i64 1),
([a86, a82], .int .i64 0),
([a73, a70], .int .i64 1),
([a70, a82], .int .i64 0),
([a81, a84], .int .i64 1),
([a86, a76], .int .i64 1),
([a75, a72], .int .i64 0),
([a71, a93], .int .i64 1),
([a78, a84], .int .i64 (-1)),
([a85, a81], .int .i64 0),
([a84, a79], .int .i64 1),
([a76, a69], .int .i64 0),
([a92, a84], .int .i64 (-1)),
([a94, a73], .int .i64 1),
([a75, a88], .int .i64 0),
([a86, a73], .int .i64 (-1)),
([a73, a75], .int .i64 (-1)),
([a75, a89], .int .i64 (-1)),
([a78, a80], .int .i64 0),
([a69, a72], .int .i64 (-1)),
([a92, a75], .int .i64 0),
([a83, a82], .int .i64 0),
([a76, a80], .int .i64 (-1)),
([a90, a84], .int .i64 (-1)),
([a76, a86], .int .i64 1),
([a69, a75], .int .i64 0),
([a72, a81], .int .i64 1),
([a84, a71], .int .i64 (-1)),
([a89, a84], .int .i64 0),
([a72, a89], .int .i64 1),
([a71, a74], .int .i64 (-1)),
([a80, a79], .int .i64 1),
([a93, a75], .int .i64 0),
([a86, a85], .int .i64 0),
([a88, a69], .int .i64 (-1)),
([a69, a84], .int .i64 0),
([a89, a86], .int .i64 0),
([a90, a76], .int .i64 (-1)),
([a72, a95], .int .i64 0),
([a71, a72], .int .i64 0),
([a90, a95], .int .i64 0),
([a87, a75], .int .i64 (-1)),
([a76, a75], .int .i64 1),
([a86, a72], .int .i64 1),
([a75, a73], .int .i64 (-1)),
([a91, a86], .int .i64 1),
([a79, a76], .int .i64 0),
([a72, a84], .int .i64 0)]
def k1_195_2 : Known := [
([a71, a91], .int .i64 1),
([a82, a95], .int .i64 0),
([a71, a76], .int .i64 0),
([a91, a95], .int .i64 0),
([a81, a70], .int .i64 (-2)),
([a85, a76], .int .i64 1),
([a70, a79], .int .i64 1),
([a94, a72], .int .i64 1),
([a91, a72], .int .i64 0),
([a80, a85], .int .i64 (-1)),
([a69, a95], .int .i64 0),
([a75, a84], .int .i64 1),
([a86, a74], .int .i64 1),
([a82, a86], .int .i64 0),
([a76, a73], .int .i64 (-1)),
([a74, a80], .int .i64 1),
([a77, a69], .int .i64 1),
([a71, a92], .int .i64 1),
([a87, a73], .int .i64 0),
([a79, a81], .int .i64 0),
([a74, a77], .int .i64 0),
([a89, a72], .int .i64 1),
([a75, a80], .int .i64 0),
([a79, a86], .int .i64 (-1)),
([a78, a95], .int .i64 0),
([a85, a86], .int .i64 0),
([a84, a84], .int .i64 1),
([a80, a82], .int .i64 0),
([a72, a74], .int .i64 1),
([a70, a84], .int .i64 0),
([a77, a79], .int .i64 2),
([a88, a79], .int .i64 0),
([a83, a95], .int .i64 0),
([a73, a77], .int .i64 1),
([a72, a88], .int .i64 1),
([a76, a77], .int .i64 (-1)),
([a78, a70], .int .i64 1),
([a78, a79], .int .i64 (-1)),
([a72, a70], .int .i64 (-1)),
([a90, a69], .int .i64 1),
([a83, a84], .int .i64 (-1)),
([a92, a72], .int .i64 (-1)),
([a75, a95], .int .i64 0),
([a80, a69], .int .i64 0),
([a76, a88], .int .i64 (-1)),
([a76, a70], .int .i64 (-1)),
([a82, a75], .int .i64 2),
([a89, a95], .int .i64 0),
([a88, a95], .int .i64 0)]
def k1_195_3 : Known := [
([a72, a85], .int .i64 (-1)),
([a84, a83], .int .i64 (-1)),
([a72, a75], .int .i64 0),
([a73, a73], .int .i64 1),
([a76, a72], .int .i64 0),
([a75, a77], .int .i64 0),
([a80, a75], .int .i64 0),
([a92, a74], .int .i64 (-2)),
([a76, a79], .int .i64 0),
([a87, a88], .int .i64 0),
([a84, a76], .int .i64 0),
([a88, a82], .int .i64 (-1)),
([a87, a95], .int .i64 0),
([a93, a95], .int .i64 0),
([a87, a86], .int .i64 1),
([a93, a86], .int .i64 2),
([a81, a80], .int .i64 0),
([a80, a76], .int .i64 (-1)),
([a76, a84], .int .i64 0),
([a81, a73], .int .i64 (-1)),
([a89, a79], .int .i64 (-1)),
([a76, a82], .int .i64 1),
([a73, a69], .int .i64 0),
([a89, a73], .int .i64 1),
([a77, a75], .int .i64 0),
([a71, a86], .int .i64 0),
([a74, a73], .int .i64 0),
([a83, a76], .int .i64 0),
([a87, a80], .int .i64 (-1)),
([a76, a95], .int .i64 0),
([a93, a72], .int .i64 1),
([a80, a95], .int .i64 0),
([a89, a80], .int .i64 1),
([a70, a75], .int .i64 (-1)),
([a91, a69], .int .i64 0),
([a93, a84], .int .i64 (-1)),
([a94, a80], .int .i64 0),
([a73, a85], .int .i64 (-1)),
([a90, a85], .int .i64 0),
([a78, a73], .int .i64 1),
([a85, a72], .int .i64 (-1)),
([a88, a84], .int .i64 1),
([a92, a86], .int .i64 0),
([a71, a82], .int .i64 (-1)),
([a93, a76], .int .i64 1),
([a74, a70], .int .i64 (-1)),
([a69, a82], .int .i64 1),
([a93, a81], .int .i64 1),
([a73, a80], .int .i64 1)]
def k1_195_4 : Known := [
([a81, a79], .int .i64 0),
([a86, a80], .int .i64 (-1)),
([a88, a76], .int .i64 (-1)),
([a72, a86], .int .i64 1),
([a76, a85], .int .i64 1),
([a89, a69], .int .i64 (-1)),
([a79, a84], .int .i64 1),
([a74, a85], .int .i64 (-1)),
([a79, a75], .int .i64 1),
([a85, a74], .int .i64 (-1)),
([a81, a69], .int .i64 (-1)),
([a71, a81], .int .i64 (-1)),
([a81, a95], .int .i64 0),
([a91, a75], .int .i64 0),
([a73, a95], .int .i64 0),
([a91, a76], .int .i64 1),
([a90, a75], .int .i64 (-2)),
([a76, a89], .int .i64 (-1)),
([a90, a79], .int .i64 0),
([a84, a92], .int .i64 (-1)),
([a94, a88], .int .i64 1),
([a80, a84], .int .i64 1),
([a75, a74], .int .i64 1),
([a76, a74], .int .i64 0),
([a84, a75], .int .i64 1),
([a87, a72], .int .i64 1),
([a86, a75], .int .i64 1),
([a89, a70], .int .i64 0),
([a89, a74], .int .i64 1),
([a88, a75], .int .i64 0),
([a71, a84], .int .i64 (-1)),
([a72, a80], .int .i64 0),
([a86, a88], .int .i64 0),
([a71, a87], .int .i64 1),
([a83, a69], .int .i64 1),
([a75, a70], .int .i64 (-1)),
([a84, a95], .int .i64 0),
([a73, a82], .int .i64 (-1)),
([a71, a71], .int .i64 1),
([a72, a69], .int .i64 (-1)),
([a84, a85], .int .i64 0),
([a75, a69], .int .i64 0),
([a85, a75], .int .i64 1),
([a82, a84], .int .i64 1),
([a71, a75], .int .i64 (-1)),
([a83, a75], .int .i64 (-1)),
([a83, a85], .int .i64 1),
([a87, a84], .int .i64 (-1)),
([a81, a77], .int .i64 (-1))]
def k1_195_5 : Known := [
([a84, a91], .int .i64 (-1)),
([a87, a89], .int .i64 1),
([a87, a81], .int .i64 0),
([a74, a95], .int .i64 0),
([a71, a79], .int .i64 (-1)),
([a72, a72], .int .i64 1),
([a79, a74], .int .i64 0),
([a70, a76], .int .i64 (-1)),
([a86, a84], .int .i64 0),
([a72, a82], .int .i64 (-1)),
([a73, a79], .int .i64 0),
([a91, a79], .int .i64 (-1)),
([a79, a72], .int .i64 (-1)),
([a72, a79], .int .i64 (-1)),
([a85, a84], .int .i64 0),
([a83, a79], .int .i64 0),
([a72, a73], .int .i64 0),
([a70, a95], .int .i64 0),
([a86, a89], .int .i64 0),
([a91, a85], .int .i64 1),
([a69, a85], .int .i64 1),
([a71, a69], .int .i64 0),
([a93, a74], .int .i64 0),
([a91, a74], .int .i64 (-1)),
([a85, a95], .int .i64 0),
([a69, a79], .int .i64 1),
([a94, a89], .int .i64 2),
([a86, a95], .int .i64 0),
([a69, a74], .int .i64 (-1)),
([a86, a79], .int .i64 (-1)),
([a77, a84], .int .i64 1),
([a78, a77], .int .i64 0),
([a73, a84], .int .i64 0)]
def k1_195 : Known := k1_195_0 ++ (k1_195_1 ++ (k1_195_2 ++ (k1_195_3 ++ (k1_195_4 ++ (k1_195_5)))))
def k1_197 : Known := [
([.int .u64 85], .int .i64 0),
([.int .u64 80], .int .i64 4),
([.int .u64 168], .int .i64 3),
([.int .u64 84], .int .i64 2),
([.int .u64 204], .int .i64 2),
([.int .u64 160], .int .i64 5),
([.int .u64 170], .int .i64 1),
([.int .u64 51], .int .i64 0),
([.int .u64 64], .int .i64 6),
([.int .u64 224], .int .i64 5),
([.int .u64 15], .int .i64 0),
([.int .u64 48], .int .i64 4),
([.int .u64 32], .int .i64 5),
([.int .u64 14], .int .i64 1),
([.int .u64 8], .int .i64 3),
([.int .u64 12], .int .i64 2),
([.int .u64 200], .int .i64 3),
([.int .u64 128], .int .i64 7),
([.int .u64 240], .int .i64 4),
([.int .u64 50], .int .i64 1),
([.int .u64 192], .int .i64 6)]
def k1_204 : Known := [
([.str [50], .int .u8 48], .str [50])]
def k1_205 : Known := [
([.str [50], .int .u8 48], .str [50])]
def k1_206 : Known := [
([.str [48, 49, 50, 51, 52, 53, 54, 55, 56, 57]], .tuple [.agg [.bool false, .bool false, .bool false, .bool false, .bool false, .bool false, .bool false, .bool false, .bool false, .bool false, .bool false, .bool false, .bool false, .bool false, .bool false, .bool false, .bool false, .bool false, .bool false, .bool false, .bool false, .bool false, .bool false, .bool false, .bool false, .bool false, .bool false, .bool false, .bool false, .bool false, .bool false, .bool false, .bool false, .bool false, .bool false, .bool false, .bool false, .bool false, .bool false, .bool false, .bool false, .bool false, .bool false, .bool false, .bool false, .bool false, .bool false, .bool false, .bool true, .bool true, .bool true, .bool true, .bool true, .bool true, .bool true, .bool true, .bool true, .bool true, .bool false, .bool false, .bool false, .bool false, .bool false, .bool false, .bool false, .bool false, .bool false, .bool false, .bool false, .bool false, .bool false, .bool false, .bool false, .bool false, .bool false, .bool false, .bool false, .bool false, .bool false, .bool false, .bool false, .bool false, .bool false, .bool false, .bool false, .bool false, .bool false, .bool false, .bool false, .bool false, .bool false, .bool false, .bool false, .bool false, .bool false, .bool false, .bool false, .bool false, .bool false, .bool false, .bool false, .bool false, .bool false, .bool false, .bool false, .bool false, .bool false, .bool false, .bool false, .bool false, .bool false, .bool false, .bool false, .bool false, .bool false, .bool false, .bool false, .bool false, .bool false, .bool false, .bool false, .bool false, .bool false, .bool false, .bool false, .bool false, .bool false, .bool false, .bool false, .bool false, .bool false, .bool false, .bool false, .bool false, .bool false, .bool false, .bool false, .bool false, .bool false, .bool false, .bool false, .bool false, .bool false, .bool false, .bool false, .bool false, .bool false, .bool false, .bool false, .bool false, .bool false, .bool false, .bool false, .bool false, .bool false, .bool false, .bool false, .bool false, .bool false, .bool false, .bool false, .bool false, .bool false, .bool false, .bool false, .bool false, .bool false, .bool false, .bool false, .bool false, .bool false, .bool false, .bool false, .bool false, .bool false, .bool false, .bool false, .bool false, .bool false, .bool false, .bool false, .bool false, .bool false, .bool false, .bool false, .bool false, .bool false, .bool false, .bool false, .bool false, .bool false, .bool false, .bool false, .bool false, .bool false, .bool false, .bool false, .bool false, .bool false, .bool false, .bool false, .bool false, .bool false, .bool false, .bool false, .bool false, .bool false, .bool false, .bool false, .bool false, .bool false, .bool false, .bool false, .bool false, .bool false, .bool false, .bool false, .bool false, .bool false, .bool false, .bool false, .bool false, .bool false, .bool false, .bool false, .bool false, .bool false, .bool false, .bool false, .bool false, .bool false, .bool false, .bool false, .bool false, .bool false, .bool false, .bool false, .bool false, .bool false, .bool false, .bool false, .bool false, .bool false, .bool false, .bool false, .bool false, .bool false, .bool false, .bool false, .bool false, .bool false, .bool false, .bool false, .bool false, .bool false, .bool false], .bool true])]
def k1_207 : Known := [
([.str [], .vptr [.bool false, .bool false, .bool false, .bool false, .bool false, .bool false, .bool false, .bool false, .bool false, .bool false, .bool false, .bool false, .bool false, .bool false, .bool false, .bool false, .bool false, .bool false, .bool false, .bool false, .bool false, .bool false, .bool false, .bool false, .bool false, .bool false, .bool false, .bool false, .bool false, .bool false, .bool false, .bool false, .bool false, .bool false, .bool false, .bool false, .bool false, .bool false, .bool false, .bool false, .bool false, .bool false, .bool false, .bool false, .bool false, .bool false, .bool false, .bool false, .bool true, .bool true, .bool true, .bool true, .bool true, .bool true, .bool true, .bool true, .bool true, .bool true, .bool false, .bool false, .bool false, .bool false, .bool false, .bool false, .bool false, .bool false, .bool false, .bool false, .bool false, .bool false, .bool false, .bool false, .bool false, .bool false, .bool false, .bool false, .bool false, .bool false, .bool false, .bool false, .bool false, .bool false, .bool false, .bool false, .bool false, .bool false, .bool false, .bool false, .bool false, .bool false, .bool false, .bool false, .bool false, .bool false, .bool false, .bool false, .bool false, .bool false, .bool false, .bool false, .bool false, .bool false, .bool false, .bool false, .bool false, .bool false, .bool false, .bool false, .bool false, .bool false, .bool false, .bool false, .bool false, .bool false, .bool false, .bool false, .bool false, .bool false, .bool false, .bool false, .bool false, .bool false, .bool false, .bool false, .bool false, .bool false, .bool false, .bool false, .bool false, .bool false, .bool false, .bool false, .bool false, .bool false, .bool false, .bool false, .bool false, .bool false, .bool false, .bool false, .bool false, .bool false, .bool false, .bool false, .bool false, .bool false, .bool false, .bool false, .bool false, .bool false, .bool false, .bool false, .bool false, .bool false, .bool false, .bool false, .bool false, .bool false, .bool false, .bool false, .bool false, .bool false, .bool false, .bool false, .bool false, .bool false, .bool false, .bool false, .bool false, .bool false, .bool false, .bool false, .bool false, .bool false, .bool false, .bool false, .bool false, .bool false, .bool false, .bool false, .bool false, .bool false, .bool false, .bool false, .bool false, .bool false, .bool false, .bool false, .bool false, .bool false, .bool false, .bool false, .bool false, .bool false, .bool false, .bool false, .bool false, .bool false, .bool false, .bool false, .bool false, .bool false, .bool false, .bool false, .bool false, .bool false, .bool false, .bool false, .bool false, .bool false, .bool false, .bool false, .bool false, .bool false, .bool false, .bool false, .bool false, .bool false, .bool false, .bool false, .bool false, .bool false, .bool false, .bool false, .bool false, .bool false, .bool false, .bool false, .bool false, .bool false, .bool false, .bool false, .bool false, .bool false, .bool false, .bool false, .bool false, .bool false, .bool false, .bool false, .bool false, .bool false, .bool false, .bool false, .bool false, .bool false, .bool false, .bool false, .bool false, .bool false, .bool false, .bool false, .bool false, .bool false, .bool false, .bool false] 0], .str [])]
def k2_34 : Known := [
([a96], .bool true),
([a97], .bool true),
([a98], .bool true),
([a99], .bool true),
([a100], .bool true),
([a101], .bool true),
([a102], .bool true),
([a103], .bool true),
([a104], .bool true),
([a105], .bool true),
([a67], .bool true),
([a106], .bool true),
([a66], .bool true),
([a107], .bool true),
([a108], .bool true),
([a109], .bool true),
([a110], .bool true),
([a111], .bool true),
([a112], .bool true),
([a113], .bool true),
([a114], .bool true),
([a65], .bool true),
([a115], .bool true),
([a116], .bool true),
([a117], .bool true),
([a118], .bool true)]
def k2_38 : Known := [
([a119], a29),
([a120], a28),
([a121], a36),
([a122], a29),
([a123], a29),
([a124], a29),
([a125], a28),
([a126], a28),
([a127], a29)]
def k2_43 : Known := [
([a65], .int .i64 0),
([a124], .int .i64 (-1)),
([a66], .int .i64 1),
([a122], .int .i64 (-1)),
([a113], .int .i64 1),
([a106], .int .i64 1),
([a128], .int .i64 1),
([a105], .int .i64 (-1)),
([a98], .int .i64 (-1)),
([a67], .int .i64 (-1))]
def k2_55 : Known := [
([a31, a39], .int .i64 1),
([a37, a37], .int .i64 0),
([a31, a31], .int .i64 0),
([a29, a28], .int .i64 1),
([a33, a33], .int .i64 0),
([a33, a34], .int .i64 (-1)),
([a31, a28], .int .i64 1),
([a28, a27], .int .i64 1),
([a26, a27], .int .i64 0),
([a129, a30], .int .i64 (-1)),
([a34, a34], .int .i64 0),
([a129, a129], .int .i64 0),
([a32, a28], .int .i64 1),
([a27, a27], .int .i64 0),
([a26, a28], .int .i64 (-1)),
([a35, a28], .int .i64 1),
([a36, a28], .int .i64 1),
([a28, a26], .int .i64 1),
([a28, a28], .int .i64 0),
([a35, a35], .int .i64 0),
([a35, a29], .int .i64 1),
([a39, a39], .int .i64 0),
([a30, a37], .int .i64 (-1)),
([a30, a30], .int .i64 0),
([a26, a26], .int .i64 0),
([a29, a29], .int .i64 0)]
def k2_57 : Known := [
([.bool true, .vslice [.int .u32 1] 1], a37),
([.bool false, a50], a130),
([.bool false, a54], a131),
([.bool false, a57], a132),
([.bool false, .vslice [.int .u32 4] 1], a31),
([.bool true, a45], a30),
([.bool false, a56], a31),
([.bool false, a42], a28),
([.bool true, a62], a34),
([.bool false, a47], a36),
([.bool false, .vslice [.int .u32 1] 1], a28),
([.bool false, a45], a29),
([.bool false, a44], a133),
([.bool false, .nilslice], a27),
([.bool false, a52], a134),
([.bool true, a42], a37),
([.bool false, .eslice], a26),
([.bool false, a60], a135),
([.bool true, .vslice [.int .u32 0] 1], a26),
([.bool false, a63], a136),
([.bool false, a55], a137),
([.bool true, .vslice [.int .u32 4] 1], a33),
([.bool false, .vslice [.int .u32 2] 1], a29),
([.bool false, a43], a138),
([.bool false, a48], a35),
([.bool true, .vslice [.int .u32 3] 1], a34),
([.bool false, .vslice [.int .u32 0] 1], a26),
([.bool false, a51], a139),
([.bool false, a46], a140),
([.bool false, .vslice [.int .u32 7] 1], a140),
([.bool false, a61], a141),
([.bool false, a49], a142),
([.bool true, a48], a129),
([.bool false, .vslice [.int .u32 3] 1], a39),
([.bool false, a59], a32),
([.bool false, a58], a143),
([.bool true, a56], a33),
([.bool false, a64], a26),
([.bool false, a62], a39),
([.bool false, .vslice [] 0], a38),
([.bool false, a53], a144),
([.bool true, .vslice [.int .u32 2] 1], a30)]
def k2_65 : Known := [
([.vslice [.int .u32 2] 1, .int .u32 1], a145),
([.vslice [.int .u32 3] 1, .int .u32 2], .tuple [.vslice [.int .u32 1] 1, .int .u32 1]),
([.vslice [.int .u32 16] 1, .int .u32 4], .tuple [.vslice [.int .u32 4] 1, .int .u32 0]),
([.vslice [.int .u32 24] 1, .int .u32 1], .tuple [.vslice [.int .u32 24] 1, .int .u32 0]),
([.vslice [.int .u32 84] 1, .int .u32 12], .tuple [.vslice [.int .u32 7] 1, .int .u32 0]),
([.vslice [.int .u32 84] 1, .int .u32 24], .tuple [.vslice [.int .u32 3] 1, .int .u32 12]),
([.vslice [.int .u32 7] 1, .int .u32 2], .tuple [.vslice [.int .u32 3] 1, .int .u32 1]),
([.vslice [.int .u32 1] 1, .int .u32 1], a146),
([.vslice [.int .u32 4] 1, .int .u32 2], a145),
([.vslice [.int .u32 2] 1, .int .u32 1000000000], .tuple [.eslice, .int .u32 2]),
([.vslice [.int .u32 2] 1, .int .u32 2], a146),
([.vslice [.int .u32 24] 1, .int .u32 12], a145),
([.vslice [.int .u32 4] 1, .int .u32 4], a146),
([.vslice [.int .u32 6] 1, .int .u32 6], a146),
([.vslice [.int .u32 12] 1, .int .u32 12], a146),
([.vslice [.int .u32 1] 1, .int .u32 1000000000], .tuple [.eslice, .int .u32 1])]
def k2_72 : Known := [
([a1, .func 73 [] [a41]], .int .i64 0)]
def k2_80 : Known := [
([.vslice [.int .u32 1] 1, .vslice [.int .u32 2] 1], a147),
([.vslice [.int .u32 1] 1, .vslice [.int .u32 24] 1], a147),
([.eslice, .vslice [.int .u32 4] 1], a148),
([.nilslice, .vslice [.int .u32 1] 1], .tuple [.nilslice, .nilslice]),
([.vslice [.int .u32 12] 1, .vslice [.int .u32 24] 1], .tuple [.nilslice, .vslice [.int .u32 12] 1]),
([.eslice, .vslice [.int .u32 2] 1], a148)]
def k2_145 : Known := [
([a67], a66),
([a65], a65),
([a113], a98),
([a110], a105),
([a101], a118),
([a127], a122),
([a66], a67),
([a119], a124),
([a103], a103)]
def k2_156 : Known := [
([a0], .bool false)]
def k2_159_0 : Known := [
([a0, a149], a10),
([a0, a150], a7),
([a0, a151], a6)]
def k2_159_1 : Known := [
([a0, a152], a8),
([a0, a153], a11),
([a0, a154], a9)]
def k2_159 : Known := k2_159_0 ++ (k2_159_1)
def k2_165 : Known := [
([a155, a156], .int .i64 (-1)),
([a157, a158], .int .i64 1),
([a159, a160], .int .i64 (-1)),
([a159, a161], .int .i64 1),
([a155, a162], .int .i64 (-1)),
([a161, a156], .int .i64 (-1)),
([a163, a164], .int .i64 (-1)),
([a161, a157], .int .i64 (-1)),
([a160, a165], .int .i64 1),
([a163, a160], .int .i64 (-1)),
([a163, a165], .int .i64 1),
([a159, a165], .int .i64 (-1)),
([a165, a156], .int .i64 1),
([a164, a160], .int .i64 1),
([a155, a165], .int .i64 (-1)),
([a162, a165], .int .i64 1),
([a159, a156], .int .i64 (-1)),
([a159, a157], .int .i64 (-1)),
([a155, a157], .int .i64 1),
([a156, a157], .int .i64 1),
([.agg [.int .i64 6, .int .i64 7, .int .i64 4, .int .i64 5], a164], .int .i64 1),
([a155, a160], .int .i64 (-1)),
([a162, a160], .int .i64 (-1)),
([a161, a158], .int .i64 1),
([a163, a162], .int .i64 (-1))]
def k2_170 : Known := [
([.str [50]], .bool true),
([.str [49]], .bool true),
([.str [48]], .bool true),
([.str [51]], .bool true)]
def k2_171 : Known := [
([.str [49], .str [45]], .str [49]),
([.str [48], .str [45]], .str [48]),
([.str [51], .str [45]], .str [51])]
def k2_196_0 : Known := [
([a0, .int .i64 7, .int .i64 2, .int .i64 1], .tuple [.agg [.int .i64 1, .int .i64 (-1), .int .i64 (-1), .int .u64 134], .bool false]),
([a0, .int .i64 6, .int .i64 5, .int .i64 0], .tuple [.agg [.int .i64 (-1), .int .i64 1, .int .i64 1, .int .u64 97], .bool false]),
([a0, .int .i64 5, .int .i64 3, .int .i64 0], .tuple [.agg [.int .i64 1, .int .i64 1, .int .i64 (-1), .int .u64 41], .bool false]),
([a0, .int .i64 7, .int .i64 4, .int .i64 2], .tuple [.agg [.int .i64 (-1), .int .i64 (-1), .int .i64 1, .int .u64 148], .bool false]),
([a0, .int .i64 6, .int .i64 4, .int .i64 0], a166),
([a0, .int .i64 7, .int .i64 6, .int .i64 3], a167),
([a0, .int .i64 4, .int .i64 1, .int .i64 0], a168),
([a0, .int .i64 3, .int .i64 2, .int .i64 0], a169)]
def k2_196_1 : Known := [
([a0, .int .i64 5, .int .i64 3, .int .i64 1], a170),
([a0, .int .i64 6, .int .i64 4, .int .i64 2], a166),
([a0, .int .i64 5, .int .i64 1, .int .i64 0], a168),
([a0, .int .i64 6, .int .i64 5, .int .i64 4], a171),
([a0, .int .i64 7, .int .i64 5, .int .i64 4], a171),
([a0, .int .i64 7, .int .i64 3, .int .i64 1], a170),
([a0, .int .i64 7, .int .i64 6, .int .i64 2], a167),
([a0, .int .i64 3, .int .i64 2, .int .i64 1], a169)]
def k2_196_2 : Known := [
([a0, .int .i64 4, .int .i64 2, .int .i64 1], .tuple [.agg [.int .i64 (-1), .int .i64 (-1), .int .i64 (-1), .int .u64 22], .bool false]),
([a0, .int .i64 6, .int .i64 5, .int .i64 3], .tuple [.agg [.int .i64 1, .int .i64 1, .int .i64 1, .int .u64 104], .bool false]),
([a0, .int .i64 7, .int .i64 4, .int .i64 1], .tuple [.agg [.int .i64 1, .int .i64 (-1), .int .i64 1, .int .u64 146], .bool false]),
([a0, .int .i64 6, .int .i64 3, .int .i64 0], .tuple [.agg [.int .i64 (-1), .int .i64 1, .int .i64 (-1), .int .u64 73], .bool false]),
([a0, .int .i64 5, .int .i64 2, .int .i64 0], a172),
([a0, .int .i64 5, .int .i64 2, .int .i64 1], a173),
([a0, .int .i64 4, .int .i64 3, .int .i64 2], a174),
([a0, .int .i64 7, .int .i64 2, .int .i64 0], a172)]
def k2_196_3 : Known := [
([a0, .int .i64 5, .int .i64 4, .int .i64 3], a175),
([a0, .int .i64 7, .int .i64 6, .int .i64 0], a176),
([a0, .int .i64 6, .int .i64 4, .int .i64 3], a177),
([a0, .int .i64 6, .int .i64 1, .int .i64 0], a178),
([a0, .int .i64 7, .int .i64 4, .int .i64 3], a179),
([a0, .int .i64 4, .int .i64 3, .int .i64 1], a180),
([a0, .int .i64 4, .int .i64 3, .int .i64 0], a181),
([a0, .int .i64 7, .int .i64 4, .int .i64 0], a179)]
def k2_196_4 : Known := [
([a0, .int .i64 7, .int .i64 5, .int .i64 2], a182),
([a0, .int .i64 5, .int .i64 4, .int .i64 2], a175),
([a0, .int .i64 7, .int .i64 1, .int .i64 0], a178),
([a0, .int .i64 6, .int .i64 3, .int .i64 1], a180),
([a0, .int .i64 6, .int .i64 5, .int .i64 2], a183),
([a0, .int .i64 5, .int .i64 3, .int .i64 2], a174),
([a0, .int .i64 7, .int .i64 6, .int .i64 1], a176),
([a0, .int .i64 6, .int .i64 2, .int .i64 1], a173)]
def k2_196_5 : Known := [
([a0, .int .i64 7, .int .i64 3, .int .i64 0], a181),
([a0, .int .i64 6, .int .i64 5, .int .i64 1], a183),
([a0, .int .i64 6, .int .i64 4, .int .i64 1], a177),
([a0, .int .i64 7, .int .i64 5, .int .i64 0], a182),
([a0, .int .i64 5, .int .i64 4, .int .i64 1], a168),
([a0, .int .i64 7, .int .i64 3, .int .i64 2], a167),
([a0, .int .i64 7, .int .i64 6, .int .i64 5], a171),
([a0, .int .i64 7, .int .i64 5, .int .i64 3], a170)]
def k2_196_6 : Known := [
([a0, .int .i64 7, .int .i64 5, .int .i64 1], a170),
([a0, .int .i64 2, .int .i64 1, .int .i64 0], a169),
([a0, .int .i64 4, .int .i64 2, .int .i64 0], a166),
([a0, .int .i64 6, .int .i64 2, .int .i64 0], a166),
([a0, .int .i64 6, .int .i64 3, .int .i64 2], a167),
([a0, .int .i64 7, .int .i64 6, .int .i64 4], a171),
([a0, .int .i64 3, .int .i64 1, .int .i64 0], a169),
([a0, .int .i64 5, .int .i64 4, .int .i64 0], a168)]
def k2_196 : Known := k2_196_0 ++ (k2_196_1 ++ (k2_196_2 ++ (k2_196_3 ++ (k2_196_4 ++ (k2_196_5 ++ (k2_196_6))))))
def k3_23 : Known := [
([a65], .str [48])]
def k3_35_0 : Known := [
([a39, a37], a29),
([a28, a30], a37),
([a29, a37], a28),
([a30, a26], a30),
([a30, a38], a30),
([a27, a30], a30),
([a33, a38], a33),
([a27, a33], a33),
([a26, a37], a37),
([a37, a26], a37),
([a31, a34], a28),
([a39, a34], a26),
([a33, a26], a33),
([a29, a30], a26),
([a37, a38], a37),
([a38, a37], a37),
([a26, a34], a34),
([a34, a26], a34),
([a27, a37], a37),
([a28, a37], a26),
([a35, a129], a26),
([a27, a34], a34),
([a31, a33], a26),
([a34, a38], a34),
([a35, a30], a31),
([a27, a38], a26),
([a38, a38], a26),
([a38, a26], a26),
([a27, a27], a26),
([a26, a38], a26),
([a26, a26], a26),
([a27, a26], a26),
([a28, a38], a28),
([a31, a38], a31),
([a31, a26], a31),
([a39, a26], a39),
([a29, a38], a29),
([a28, a26], a28)]
def k3_35_1 : Known := [
([a29, a26], a29),
([a39, a38], a39),
([a26, a140], a140),
([a27, a39], a39),
([a27, a29], a29),
([a26, a39], a39),
([a26, a29], a29),
([a27, a28], a28),
([a26, a28], a28),
([a26, a134], a134),
([a27, a31], a31),
([a28, a28], a29),
([a31, a39], a140),
([a135, a141], a131),
([a39, a39], a35),
([a31, a28], a136),
([a35, a29], a130),
([a28, a29], a39),
([a140, a35], a141),
([a35, a140], a141),
([a31, a29], a35),
([a29, a29], a31),
([a31, a31], a130)]
def k3_35_2 : Known := [
([a35, a39], a144),
([a29, a134], a132),
([a142, a143], a133),
([a29, a28], a39),
([a130, a28], a144),
([a144, a28], a138),
([a138, a29], a32),
([a144, a29], a137),
([a134, a141], a135),
([a137, a28], a32),
([a136, a28], a35),
([a144, a39], a32),
([a39, a28], a31),
([a131, a134], a142),
([a133, a143], a139),
([a39, a31], a140),
([a140, a140], a134),
([a35, a35], a32),
([a130, a140], a143),
([a28, a39], a31)]
def k3_35 : Known := k3_35_0 ++ (k3_35_1 ++ (k3_35_2))
def k3_37_0 : Known := [
([a26, a141], a26),
([a26, a28], a26),
([a26, a29], a26),
([a26, a31], a26),
([a26, a32], a26),
([a26, a39], a26),
([a26, a26], a38),
([a27, a29], a26),
([a38, a29], a26),
([a26, a134], a26),
([a26, a37], a26),
([a37, a26], a26),
([a28, a27], a26),
([a28, a26], a26),
([a28, a37], a37),
([a28, a140], a140),
([a140, a28], a140),
([a140, a29], a134),
([a31, a35], a36),
([a28, a39], a39),
([a37, a29], a30),
([a29, a29], a31),
([a28, a134], a134),
([a28, a139], a139),
([a37, a28], a37),
([a39, a29], a35),
([a28, a32], a32),
([a36, a28], a36)]
def k3_37_1 : Known := [
([a34, a29], a129),
([a28, a141], a141),
([a28, a35], a35),
([a28, a143], a143),
([a29, a28], a29),
([a37, a39], a34),
([a28, a29], a29),
([a39, a28], a39),
([a28, a36], a36),
([a37, a31], a33),
([a28, a28], a28),
([a35, a28], a35),
([a28, a31], a31),
([a34, a28], a34)]
def k3_37 : Known := k3_37_0 ++ (k3_37_1)
def k3_44 : Known := [
([.int .i64 4], a31),
([.int .i64 1], a28),
([.int .i64 6], a35),
([.int .i64 0], a26),
([.int .i64 (-1)], a37)]
def k3_45 : Known := [
([a28], .str [49]),
([a29], .str [50]),
([a37], .str [45, 49])]
def k3_49 : Known := [
([a2, .str [99, 117, 98, 101]], .tuple [a40, .bool true]),
([.agg [a1, a3], .str [99, 117, 98, 101]], .tuple [a40, .bool true]),
([a4, .str [99, 117, 98, 101]], .tuple [a40, .bool true])]
def k3_62 : Known := [
([a27, a28], a28),
([a26, a29], a29),
([a26, a31], a31),
([a27, a37], a28)]
def k3_63 : Known := [
([a26, a31], a184),
([a26, a29], a184)]
def k3_80 : Known := [
([.vslice [.int .u32 16] 1, .vslice [.int .u32 4] 1], .tuple [.vslice [.int .u32 4] 1, .eslice]),
([.vslice [.int .u32 84] 1, .vslice [.int .u32 12] 1], .tuple [.vslice [.int .u32 7] 1, .eslice]),
([.vslice [.int .u32 2] 1, .vslice [.int .u32 2] 1], a185),
([.vslice [.int .u32 7] 1, .vslice [.int .u32 2] 1], .tuple [.vslice [.int .u32 3] 1, .vslice [.int .u32 1] 1]),
([.vslice [.int .u32 24] 1, .vslice [.int .u32 12] 1], a186),
([.vslice [.int .u32 1] 1, .vslice [.int .u32 1] 1], a185),
([.vslice [.int .u32 4] 1, .vslice [.int .u32 4] 1], a185),
([.vslice [.int .u32 4] 1, .vslice [.int .u32 2] 1], a186),
([.vslice [.int .u32 12] 1, .vslice [.int .u32 12] 1], a185),
([.vslice [.int .u32 6] 1, .vslice [.int .u32 6] 1], a185),
([.vslice [.int .u32 3] 1, .vslice [.int .u32 2] 1], .tuple [.vslice [.int .u32 1] 1, .vslice [.int .u32 1] 1]),
([.vslice [.int .u32 84] 1, .vslice [.int .u32 24] 1], .tuple [.vslice [.int .u32 3] 1, .vslice [.int .u32 12] 1]),
([.vslice [.int .u32 2] 1, .vslice [.int .u32 1] 1], a186),
([.vslice [.int .u32 24] 1, .vslice [.int .u32 1] 1], .tuple [.vslice [.int .u32 24] 1, .eslice])]
def k3_128 : Known := [
([a12], a13)]
def k3_131 : Known := [
([a66, a108], .int .i64 1),
([a105, a118], .int .i64 (-1)),
([a98, a67], .int .i64 (-1)),
([a98, a98], .int .i64 0),
([a67, a108], .int .i64 (-1)),
([a66, a67], .int .i64 1),
([a66, a66], .int .i64 0),
([a110, a110], .int .i64 0),
([a65, a66], .int .i64 (-1)),
([a65, a108], .int .i64 0),
([a66, a65], .int .i64 1),
([a118, a118], .int .i64 0),
([a113, a66], .int .i64 1),
([a65, a65], .int .i64 0),
([a110, a101], .int .i64 1),
([a67, a65], .int .i64 (-1)),
([a67, a67], .int .i64 0),
([a113, a113], .int .i64 0),
([a105, a105], .int .i64 0),
([a65, a67], .int .i64 1),
([a101, a101], .int .i64 0)]
def k3_158 : Known := [
([a0], .vslice [.int .i64 (-1), .int .i64 0, .int .i64 0, .int .u64 15, .int .i64 0, .int .i64 (-1), .int .i64 0, .int .u64 51, .int .i64 0, .int .i64 0, .int .i64 (-1), .int .u64 85, .int .i64 0, .int .i64 0, .int .i64 1, .int .u64 170, .int .i64 0, .int .i64 1, .int .i64 0, .int .u64 204, .int .i64 1, .int .i64 0, .int .i64 0, .int .u64 240] 6)]
def k3_173 : Known := [
([.str [51]], .tuple [a39, .int .i64 0]),
([.str [48]], .tuple [a26, .int .i64 0]),
([.str [49]], .tuple [a28, .int .i64 0]),
([.str [50]], .tuple [a29, .int .i64 0])]
def k4_17_0 : Known := [
([a108, a113], a113),
([a106, a106], a111),
([a106, a100], a116),
([a110, a101], a100),
([a66, a103], a66),
([a65, a67], a67),
([a108, a98], a98),
([a101, a118], a65),
([a98, a65], a98),
([a105, a65], a105),
([a99, a100], a115),
([a99, a66], a97),
([a101, a65], a101),
([a103, a65], a65),
([a110, a65], a110),
([a108, a110], a110),
([a113, a67], a66),
([a108, a101], a101),
([a67, a103], a67),
([a110, a105], a65),
([a66, a66], a113),
([a65, a104], a104),
([a100, a100], a104),
([a103, a67], a67),
([a101, a101], a106),
([a117, a66], a111),
([a118, a103], a118),
([a101, a66], a110),
([a110, a110], a99),
([a66, a67], a65),
([a66, a65], a66),
([a101, a103], a101),
([a104, a116], a114),
([a113, a66], a101),
([a97, a113], a117),
([a108, a103], a65),
([a108, a67], a67),
([a102, a115], a96),
([a100, a106], a116),
([a103, a103], a65),
([a110, a118], a66),
([a110, a103], a110),
([a110, a113], a106),
([a107, a104], a102),
([a65, a103], a65),
([a108, a118], a118),
([a101, a67], a113),
([a108, a65], a65),
([a96, a115], a187),
([a105, a103], a105),
([a112, a66], a106),
([a65, a66], a66),
([a106, a113], a99),
([a108, a66], a66)]
def k4_17_1 : Known := [
([a97, a66], a109),
([a65, a101], a101),
([a101, a110], a100),
([a65, a113], a113),
([a108, a105], a105),
([a66, a113], a101),
([a118, a65], a118),
([a66, a101], a110),
([a109, a113], a111),
([a110, a66], a112),
([a114, a116], a107),
([a113, a65], a113),
([a67, a65], a67),
([a106, a101], a97),
([a113, a103], a113),
([a97, a101], a111),
([a98, a103], a98),
([a113, a98], a65),
([a65, a65], a65)]
def k4_17 : Known := k4_17_0 ++ (k4_17_1)
def k4_22 : Known := [
([.int .i64 (-1)], a67),
([.int .i64 1], a66),
([.int .i64 0], a65),
([.int .i64 6], a106),
([.int .i64 4], a110)]
def k4_23 : Known := [
([a113], .str [50]),
([a67], .str [45, 49]),
([a66], .str [49])]
def k4_32 : Known := [
([a65, a111], a65),
([a66, a65], a65),
([a66, a104], a104),
([a65, a65], a103),
([a67, a65], a65),
([a110, a106], a128),
([a66, a101], a101),
([a65, a67], a65),
([a67, a66], a67),
([a66, a67], a67),
([a65, a104], a65),
([a65, a116], a65),
([a67, a101], a118),
([a65, a110], a65),
([a65, a101], a65),
([a65, a113], a65),
([a66, a110], a110),
([a67, a110], a105),
([a65, a66], a65),
([a66, a116], a116),
([a66, a115], a115),
([a66, a113], a113),
([a66, a66], a66),
([a67, a113], a98)]
def k4_56 : Known := [
([], a28)]
def k4_62 : Known := [
([a31, a31], a31),
([a28, a28], a28),
([a35, a35], a35),
([a31, a29], a29),
([a132, a31], a31),
([a34, a29], a28),
([a139, a36], a32),
([a140, a29], a28),
([a28, a36], a28),
([a39, a29], a28),
([a28, a29], a28),
([a37, a29], a28),
([a32, a36], a32)]
def k4_63 : Known := [
([a29, a29], a188),
([a35, a35], a188),
([a132, a31], .tuple [a31, a26, .int .i64 0]),
([a31, a31], a188),
([a31, a29], a189),
([a139, a32], .tuple [a140, a26, .int .i64 0]),
([a36, a32], a189),
([a28, a28], a188),
([a32, a32], a188)]
def k4_97 : Known := [
([.str [48]], .tuple [a65, .int .i64 0]),
([.str [49]], .tuple [a66, .int .i64 0]),
([.str [51]], .tuple [a101, .int .i64 0])]
def k4_112 : Known := [
([a190, a191], .int .i64 (-1)),
([a68, a191], .int .i64 (-1)),
([a192, a191], .int .i64 (-1)),
([a193, a194], .int .i64 (-1)),
([a191, a194], .int .i64 1),
([a191, a193], .int .i64 1),
([a192, a193], .int .i64 1),
([a195, a191], .int .i64 (-1)),
([a190, a193], .int .i64 1),
([a68, a195], .int .i64 (-1)),
([a190, a194], .int .i64 (-1)),
([a190, a68], .int .i64 (-1)),
([a195, a68], .int .i64 1),
([a195, a194], .int .i64 1),
([a190, a192], .int .i64 (-1)),
([a68, a192], .int .i64 1),
([a192, a194], .int .i64 (-1)),
([a68, a194], .int .i64 1),
([a68, a68], .int .i64 0),
([a196, a194], .int .i64 0),
([a191, a191], .int .i64 0),
([a195, a195], .int .i64 0)]
def k4_127 : Known := [
([a0], .tuple [.vslice [.int .i64 (-1), .int .i64 0, .int .i64 0, .int .u64 15, .int .i64 0, .int .i64 0, .int .i64 (-1), .int .u64 85, .int .i64 0, .int .i64 (-1), .int .i64 0, .int .u64 51, .int .i64 0, .int .i64 0, .int .i64 1, .int .u64 170, .int .i64 0, .int .i64 1, .int .i64 0, .int .u64 204, .int .i64 1, .int .i64 0, .int .i64 0, .int .u64 240] 6, .vslice [a6, a7, a8, a9, a10, a11] 6, .int .u64 255])]
def k5_18_0 : Known := [
([a197, a198], a199),
([a200, a201], a202),
([a68, a196], a68),
([a203, a201], a204),
([a195, a201], a205),
([a206, a207], a208),
([a205, a200], a209),
([a196, a210], a210),
([a205, a204], a211),
([a196, a191], a191),
([a212, a213], a214),
([a210, a191], a215),
([a191, a201], a216),
([a217, a218], a219),
([a199, a202], a220),
([a191, a207], a221),
([a68, a203], a222),
([a223, a207], a224),
([a225, a226], a227),
([a196, a228], a196),
([a229, a203], a230),
([a210, a196], a210),
([a191, a191], a231),
([a232, a233], a212),
([a201, a204], a234),
([a196, a195], a195)]
def k5_18_1 : Known := [
([a216, a200], a235),
([a195, a203], a236),
([a210, a201], a198),
([a201, a237], a225),
([a238, a191], a223),
([a239, a202], a213),
([a194, a240], a196),
([a196, a240], a196),
([a197, a200], a241),
([a204, a201], a234),
([a216, a201], a226),
([a191, a210], a215),
([a236, a207], a242),
([a216, a237], a239),
([a214, a243], a244),
([a235, a245], a243),
([a68, a191], a210),
([a207, a191], a221),
([a208, a230], a246),
([a203, a195], a236),
([a247, a238], a248),
([a191, a238], a223),
([a68, a207], a229),
([a207, a201], a200),
([a245, a249], a250),
([a211, a202], a251)]
def k5_18_2 : Known := [
([a238, a196], a238),
([a205, a201], a252),
([a68, a201], a197),
([a196, a220], a220),
([a234, a252], a253),
([a241, a234], a254),
([a195, a196], a195),
([a195, a191], a238),
([a203, a191], a207),
([a207, a196], a207),
([a196, a255], a196),
([a256, a248], a257),
([a191, a196], a191),
([a68, a210], a206),
([a201, a197], a249),
([a246, a242], a256),
([a238, a201], a237),
([a196, a238], a238),
([a226, a245], a258),
([a237, a201], a225),
([a259, a251], a232),
([a195, a238], a260),
([a209, a225], a233),
([a198, a201], a245),
([a194, a196], a196),
([a201, a198], a245)]
def k5_18_3 : Known := [
([a196, a208], a208),
([a220, a254], a259),
([a196, a68], a68),
([a252, a225], a261),
([a201, a205], a252),
([a210, a68], a206),
([a197, a201], a249),
([a196, a201], a201),
([a195, a207], a247),
([a196, a196], a196),
([a196, a203], a203),
([a257, a224], a217),
([a221, a210], a218),
([a249, a234], a262),
([a201, a216], a226),
([a203, a196], a203)]
def k5_18 : Known := k5_18_0 ++ (k5_18_1 ++ (k5_18_2 ++ (k5_18_3)))
def k5_24 : Known := [
([a192], .agg [.str [48], .str [48], .str [45, 49]]),
([a191], a263),
([a193], .agg [.str [45, 49], .str [48], .str [48]]),
([a68], .agg [.str [48], .str [48], .str [49]]),
([a190], .agg [.str [48], .str [45, 49], .str [48]]),
([a195], .agg [.str [48], .str [49], .str [48]])]
def k5_34 : Known := [
([a120], .bool true),
([a127], .bool false),
([a122], .bool false),
([a126], .bool true),
([a119], .bool false),
([a121], .bool false),
([a123], .bool false),
([a124], .bool false),
([a264], .bool true)]
def k5_36 : Known := [
([a28, a36], a121),
([a39, a29], a119),
([a37, a29], a122),
([a140, a29], a123),
([a28, a29], a127),
([a34, a29], a124),
([a28, a28], a120),
([a31, a31], a120),
([a139, a36], a123),
([a26, a29], a126),
([a32, a36], a127),
([a132, a31], a125),
([a31, a29], a264),
([a35, a35], a120),
([a26, a31], a126)]
def k5_38 : Known := [
([a67], a28),
([a128], a28),
([a103], a28),
([a108], a28),
([a187], a28),
([a106], a28),
([a66], a28),
([a65], a28),
([a111], a28),
([a113], a28)]
def k5_40 : Known := [
([a115, a115, a265], a115),
([a113, a113, a266], a65),
([a116, a116, a265], a116),
([a66, a66, a266], a65),
([a65, a65, a266], a103),
([a101, a101, a265], a101),
([a111, a111, a266], a65),
([a113, a113, a265], a113),
([a116, a116, a266], a65),
([a104, a104, a265], a104),
([a66, a66, a265], a66),
([a104, a104, a266], a65)]
def k5_52_0 : Known := [
([.vslice [.bool false, .eslice, .bool false, .nilslice, .bool false, .eslice, .bool false, .nilslice, .bool false, .vslice [.int .u32 1] 1, .bool false, .nilslice] 3], a66),
([.vslice [.bool false, .vslice [.int .u32 4] 1, .bool false, .nilslice, .bool false, .eslice, .bool false, .nilslice, .bool false, .eslice, .bool false, .nilslice] 3], a110),
([.vslice [.bool false, .vslice [] 0, .bool false, .nilslice, .bool false, .vslice [] 0, .bool false, .nilslice, .bool false, .eslice, .bool false, .nilslice] 3], a65),
([.vslice [.bool false, .eslice, .bool false, .nilslice, .bool false, .vslice [.int .u32 1] 1, .bool false, .nilslice, .bool false, .eslice, .bool false, .nilslice] 3], a66),
([.vslice [.bool false, .vslice [.int .u32 3] 1, .bool false, .nilslice, .bool false, .eslice, .bool false, .nilslice, .bool false, .eslice, .bool false, .nilslice] 3], a101),
([.vslice [.bool false, .eslice, .bool false, .nilslice, .bool false, .eslice, .bool false, .nilslice, .bool false, .vslice [] 0, .bool false, .nilslice] 3], a65),
([.vslice [.bool false, .eslice, .bool false, .nilslice, .bool true, .vslice [.int .u32 1] 1, .bool false, .nilslice, .bool false, .vslice [] 0, .bool false, .nilslice] 3], a67),
([.vslice [.bool false, .vslice [.int .u32 1] 1, .bool false, .nilslice, .bool false, .eslice, .bool false, .nilslice, .bool false, .vslice [] 0, .bool false, .nilslice] 3], a66),
([.vslice [.bool false, .vslice [.int .u32 3] 1, .bool false, .nilslice, .bool false, .vslice [] 0, .bool false, .nilslice, .bool false, .eslice, .bool false, .nilslice] 3], a101),
([.vslice [.bool true, .vslice [.int .u32 2] 1, .bool false, .nilslice, .bool false, .vslice [] 0, .bool false, .nilslice, .bool false, .eslice, .bool false, .nilslice] 3], a98),
([.vslice [.bool false, .eslice, .bool false, .nilslice, .bool true, .vslice [.int .u32 1] 1, .bool false, .nilslice, .bool false, .eslice, .bool false, .nilslice] 3], a67),
([.vslice [.bool true, .vslice [.int .u32 3] 1, .bool false, .nilslice, .bool false, .vslice [] 0, .bool false, .nilslice, .bool false, .vslice [] 0, .bool false, .nilslice] 3], a118),
([.vslice [.bool true, .vslice [.int .u32 2] 1, .bool false, .nilslice, .bool false, .eslice, .bool false, .nilslice, .bool false, .eslice, .bool false, .nilslice] 3], a98),
([.vslice [.bool true, .vslice [.int .u32 4] 1, .bool false, .nilslice, .bool false, .vslice [] 0, .bool false, .nilslice, .bool false, .eslice, .bool false, .nilslice] 3], a105),
([.vslice [.bool false, .vslice [] 0, .bool false, .nilslice, .bool true, .vslice [.int .u32 1] 1, .bool false, .nilslice, .bool false, .vslice [] 0, .bool false, .nilslice] 3], a67),
([.vslice [.bool false, .eslice, .bool false, .nilslice, .bool false, .vslice [] 0, .bool false, .nilslice, .bool false, .eslice, .bool false, .nilslice] 3], a65),
([.vslice [.bool true, .vslice [.int .u32 4] 1, .bool false, .nilslice, .bool false, .eslice, .bool false, .nilslice, .bool false, .eslice, .bool false, .nilslice] 3], a105),
([.vslice [.bool true, .vslice [.int .u32 2] 1, .bool false, .nilslice, .bool false, .eslice, .bool false, .nilslice, .bool false, .vslice [] 0, .bool false, .nilslice] 3], a98),
([.vslice [.bool true, .vslice [.int .u32 3] 1, .bool false, .nilslice, .bool false, .vslice [] 0, .bool false, .nilslice, .bool false, .eslice, .bool false, .nilslice] 3], a118),
([.vslice [.bool false, .vslice [] 0, .bool false, .nilslice, .bool false, .vslice [] 0, .bool false, .nilslice, .bool false, .vslice [.int .u32 1] 1, .bool false, .nilslice] 3], a66),
([.vslice [.bool false, .vslice [.int .u32 4] 1, .bool false, .nilslice, .bool false, .vslice [] 0, .bool false, .nilslice, .bool false, .vslice [] 0, .bool false, .nilslice] 3], a110),
([.vslice [.bool true, .vslice [.int .u32 1] 1, .bool false, .nilslice, .bool false, .vslice [] 0, .bool false, .nilslice, .bool false, .eslice, .bool false, .nilslice] 3], a67),
([.vslice [.bool false, .vslice [.int .u32 2] 1, .bool false, .nilslice, .bool false, .vslice [] 0, .bool false, .nilslice, .bool false, .vslice [] 0, .bool false, .nilslice] 3], a113),
([.vslice [.bool true, .vslice [.int .u32 1] 1, .bool false, .nilslice, .bool false, .eslice, .bool false, .nilslice, .bool false, .eslice, .bool false, .nilslice] 3], a67),
([.vslice [.bool false, .vslice [.int .u32 1] 1, .bool false, .nilslice, .bool false, .eslice, .bool false, .nilslice, .bool false, .eslice, .bool false, .nilslice] 3], a66),
([.vslice [.bool false, .vslice [.int .u32 2] 1, .bool false, .nilslice, .bool false, .eslice, .bool false, .nilslice, .bool false, .vslice [] 0, .bool false, .nilslice] 3], a113),
([.vslice [.bool false, .vslice [.int .u32 2] 1, .bool false, .nilslice, .bool false, .vslice [] 0, .bool false, .nilslice, .bool false, .eslice, .bool false, .nilslice] 3], a113),
([.vslice [.bool false, .vslice [] 0, .bool false, .nilslice, .bool false, .eslice, .bool false, .nilslice, .bool false, .vslice [.int .u32 1] 1, .bool false, .nilslice] 3], a66),
([.vslice [.bool false, .vslice [.int .u32 3] 1, .bool false, .nilslice, .bool false, .eslice, .bool false, .nilslice, .bool false, .vslice [] 0, .bool false, .nilslice] 3], a101),
([.vslice [.bool false, .vslice [.int .u32 4] 1, .bool false, .nilslice, .bool false, .eslice, .bool false, .nilslice, .bool false, .vslice [] 0, .bool false, .nilslice] 3], a110),
([.vslice [.bool false, .vslice [] 0, .bool false, .nilslice, .bool false, .vslice [.int .u32 1] 1, .bool false, .nilslice, .bool false, .vslice [] 0, .bool false, .nilslice] 3], a66),
([.vslice [.bool false, .vslice [.int .u32 3] 1, .bool false, .nilslice, .bool false, .vslice [] 0, .bool false, .nilslice, .bool false, .vslice [] 0, .bool false, .nilslice] 3], a101),
([.vslice [.bool false, .vslice [.int .u32 4] 1, .bool false, .nilslice, .bool false, .vslice [] 0, .bool false, .nilslice, .bool false, .eslice, .bool false, .nilslice] 3], a110),
([.vslice [.bool false, .vslice [] 0, .bool false, .nilslice, .bool false, .eslice, .bool false, .nilslice, .bool false, .vslice [] 0, .bool false, .nilslice] 3], a65),
([.vslice [.bool false, .vslice [] 0, .bool false, .nilslice, .bool false, .eslice, .bool false, .nilslice, .bool false, .eslice, .bool false, .nilslice] 3], a65)]
def k5_52_1 : Known := [
([.vslice [.bool true, .vslice [.int .u32 4] 1, .bool false, .nilslice, .bool false, .eslice, .bool false, .nilslice, .bool false, .vslice [] 0, .bool false, .nilslice] 3], a105),
([.vslice [.bool false, .vslice [.int .u32 1] 1, .bool false, .nilslice, .bool false, .vslice [] 0, .bool false, .nilslice, .bool false, .vslice [] 0, .bool false, .nilslice] 3], a66),
([.vslice [.bool false, .eslice, .bool false, .nilslice, .bool false, .vslice [] 0, .bool false, .nilslice, .bool false, .vslice [.int .u32 1] 1, .bool false, .nilslice] 3], a66),
([.vslice [.bool false, .eslice, .bool false, .nilslice, .bool false, .vslice [] 0, .bool false, .nilslice, .bool true, .vslice [.int .u32 1] 1, .bool false, .nilslice] 3], a67),
([.vslice [.bool false, .vslice [] 0, .bool false, .nilslice, .bool false, .eslice, .bool false, .nilslice, .bool true, .vslice [.int .u32 1] 1, .bool false, .nilslice] 3], a67),
([.vslice [.bool false, .eslice, .bool false, .nilslice, .bool false, .vslice [] 0, .bool false, .nilslice, .bool false, .vslice [] 0, .bool false, .nilslice] 3], a65),
([.vslice [.bool true, .vslice [.int .u32 3] 1, .bool false, .nilslice, .bool false, .eslice, .bool false, .nilslice, .bool false, .eslice, .bool false, .nilslice] 3], a118),
([.vslice [.bool true, .vslice [.int .u32 2] 1, .bool false, .nilslice, .bool false, .vslice [] 0, .bool false, .nilslice, .bool false, .vslice [] 0, .bool false, .nilslice] 3], a98),
([.vslice [.bool true, .vslice [.int .u32 4] 1, .bool false, .nilslice, .bool false, .vslice [] 0, .bool false, .nilslice, .bool false, .vslice [] 0, .bool false, .nilslice] 3], a105),
([.vslice [.bool false, .eslice, .bool false, .nilslice, .bool false, .vslice [.int .u32 1] 1, .bool false, .nilslice, .bool false, .vslice [] 0, .bool false, .nilslice] 3], a66),
([.vslice [.bool false, .vslice [.int .u32 2] 1, .bool false, .nilslice, .bool false, .eslice, .bool false, .nilslice, .bool false, .eslice, .bool false, .nilslice] 3], a113),
([.vslice [.bool true, .vslice [.int .u32 1] 1, .bool false, .nilslice, .bool false, .vslice [] 0, .bool false, .nilslice, .bool false, .vslice [] 0, .bool false, .nilslice] 3], a67),
([.vslice [.bool false, .eslice, .bool false, .nilslice, .bool false, .eslice, .bool false, .nilslice, .bool true, .vslice [.int .u32 1] 1, .bool false, .nilslice] 3], a67),
([.vslice [.bool false, .vslice [] 0, .bool false, .nilslice, .bool true, .vslice [.int .u32 1] 1, .bool false, .nilslice, .bool false, .eslice, .bool false, .nilslice] 3], a67),
([.vslice [.bool true, .vslice [.int .u32 3] 1, .bool false, .nilslice, .bool false, .eslice, .bool false, .nilslice, .bool false, .vslice [] 0, .bool false, .nilslice] 3], a118),
([.vslice [.bool true, .vslice [.int .u32 1] 1, .bool false, .nilslice, .bool false, .eslice, .bool false, .nilslice, .bool false, .vslice [] 0, .bool false, .nilslice] 3], a67),
([.vslice [.bool false, .vslice [.int .u32 1] 1, .bool false, .nilslice, .bool false, .vslice [] 0, .bool false, .nilslice, .bool false, .eslice, .bool false, .nilslice] 3], a66),
([.vslice [.bool false, .vslice [] 0, .bool false, .nilslice, .bool false, .vslice [] 0, .bool false, .nilslice, .bool true, .vslice [.int .u32 1] 1, .bool false, .nilslice] 3], a67),
([.vslice [.bool false, .vslice [] 0, .bool false, .nilslice, .bool false, .vslice [.int .u32 1] 1, .bool false, .nilslice, .bool false, .eslice, .bool false, .nilslice] 3], a66),
([.vslice [.bool false, .eslice, .bool false, .nilslice, .bool false, .eslice, .bool false, .nilslice, .bool false, .eslice, .bool false, .nilslice] 3], a65)]
def k5_52 : Known := k5_52_0 ++ (k5_52_1)
def k5_71 : Known := [
([a263], a267),
([.agg [.str [48], .str [48], .str [48]]], .tuple [a196, .int .i64 0]),
([.agg [.str [51], .str [48], .str [48]]], .tuple [a201, .int .i64 0])]
def k5_97 : Known := [
([.str [49, 47, 50]], a268)]
def k5_100 : Known := [
([a71], a191),
([a89], a203),
([a94], a207),
([a84], a193),
([a69], a192),
([a72], a68),
([a76], a190),
([a87], a210),
([a73], a195),
([a95], a196),
([a78], a238)]
def k5_105 : Known := [
([a196], .tuple [a194, .int .i64 19])]
def k5_114 : Known := [
([a103, a103], a65),
([a108, a67], a66),
([a103, a65], a65),
([a113, a113], a65),
([a101, a101], a65),
([a65, a103], a65),
([a110, a101], a66),
([a103, a66], a67),
([a66, a103], a66),
([a98, a65], a98),
([a65, a65], a65),
([a67, a65], a67),
([a66, a65], a66),
([a101, a66], a113),
([a66, a66], a65),
([a110, a110], a65),
([a113, a66], a66),
([a105, a65], a105),
([a108, a66], a67),
([a65, a66], a67),
([a108, a65], a65)]
def k5_126 : Known := [
([.agg [a0]], .int .i64 0)]
def k5_141 : Known := [
([.vslice [.bool false, .eslice, .bool false, .nilslice, .bool false, .eslice, .bool false, .nilslice, .bool false, .vslice [.int .u32 1] 1, .bool false, .nilslice] 1, a195, .func 112 [] []], .tuple [.int .i64 1, .bool false]),
([.vslice [.bool false, .eslice, .bool false, .nilslice, .bool false, .eslice, .bool false, .nilslice, .bool false, .vslice [.int .u32 1] 1, .bool false, .nilslice, .bool false, .eslice, .bool false, .nilslice, .bool false, .vslice [.int .u32 1] 1, .bool false, .nilslice, .bool false, .eslice, .bool false, .nilslice] 2, a191, .func 112 [] []], .tuple [.int .i64 2, .bool false]),
([a269, a68, .func 112 [] []], .tuple [.int .i64 0, .bool true]),
([a269, a191, .func 112 [] []], .tuple [.int .i64 2, .bool true]),
([a269, a195, .func 112 [] []], .tuple [.int .i64 1, .bool true])]
def k6_17 : Known := [
([a108, a126], a65),
([a108, a120], a66),
([a65, a127], a127),
([a124, a65], a124),
([a127, a123], a125),
([a127, a127], a120),
([a122, a65], a122),
([a119, a124], a126),
([a66, a127], a119),
([a127, a103], a127),
([a108, a127], a127),
([a119, a103], a119),
([a127, a67], a122),
([a119, a65], a119),
([a122, a103], a122),
([a108, a123], a123),
([a124, a103], a124),
([a127, a65], a127),
([a108, a122], a122),
([a108, a124], a124),
([a127, a122], a126),
([a108, a119], a119),
([a119, a122], a120)]
def k6_19 : Known := [
([a250, a65], a255),
([a254, a66], a254),
([a220, a66], a220),
([a251, a66], a251),
([a233, a66], a233),
([a248, a66], a248),
([a208, a66], a208),
([a243, a66], a243),
([a222, a65], a240),
([a262, a65], a196),
([a227, a65], a228),
([a230, a66], a230),
([a236, a65], a240),
([a242, a66], a242),
([a218, a66], a218),
([a260, a65], a228),
([a215, a65], a255),
([a223, a65], a228),
([a224, a66], a224),
([a258, a65], a255),
([a206, a65], a255),
([a253, a65], a196),
([a213, a66], a213),
([a261, a65], a228)]
def k6_21 : Known := [
([a106, a106], a270),
([a66, a113], a268),
([a66, a128], .tuple [a121, .int .i64 0]),
([a66, a66], a270)]
def k6_23 : Known := [
([a264], .str [50]),
([a127], .str [49, 47, 50])]
def k6_32 : Known := [
([a120, a67], a67),
([a120, a65], a65),
([a120, a120], a66),
([a120, a66], a66),
([a120, a126], a65),
([a121, a111], a127),
([a120, a123], a123),
([a65, a119], a126),
([a121, a187], a123),
([a127, a120], a127),
([a66, a123], a123),
([a127, a125], a264),
([a67, a127], a122),
([a66, a127], a127),
([a67, a119], a124),
([a65, a127], a126),
([a66, a119], a119),
([a120, a127], a127)]
def k6_48 : Known := [
([a271], .int .i64 0),
([a272], .int .i64 0),
([a273], .int .i64 0)]
def k6_71 : Known := [
([.agg [.str [49, 47, 50], .str [48], .str [48]]], .tuple [a274, .int .i64 0])]
def k6_84_0 : Known := [
([a207, a203], a191),
([a198, a201], a210),
([a207, a210], a195),
([a238, a196], a238),
([a204, a205], a68),
([a221, a207], a191),
([a215, a210], a191),
([a203, a68], a195),
([a200, a201], a207),
([a68, a196], a68),
([a198, a216], a68),
([a200, a204], a191),
([a215, a231], a68),
([a204, a201], a203),
([a237, a205], a191),
([a203, a195], a68),
([a205, a201], a195),
([a198, a197], a191),
([a237, a216], a195),
([a238, a191], a195),
([a207, a238], a68),
([a200, a237], a68),
([a221, a215], a195),
([a191, a196], a191),
([a210, a191], a68),
([a207, a196], a207)]
def k6_84_1 : Known := [
([a221, a223], a68),
([a210, a68], a191),
([a223, a231], a195),
([a237, a201], a238),
([a196, a196], a196),
([a210, a196], a210),
([a201, a201], a196),
([a195, a196], a195),
([a216, a201], a191),
([a223, a238], a191),
([a197, a201], a68),
([a203, a196], a203),
([a200, a198], a195),
([a231, a191], a191),
([a204, a197], a195),
([a238, a195], a191)]
def k6_84 : Known := k6_84_0 ++ (k6_84_1)
def k6_106 : Known := [
([a192], a68),
([a68], a192),
([a191], a193),
([a193], a191),
([a195], a190),
([a190], a195)]
def k6_109_0 : Known := [
([a210, a207], a275),
([a195, a238], a192),
([a68, a191], a195),
([a195, a195], a196),
([a195, a191], a192),
([a238, a191], a192),
([a191, a210], a190),
([a191, a195], a68),
([a68, a68], a196),
([a203, a207], a276),
([a203, a195], a193),
([a238, a207], a277),
([a207, a203], a278),
([a207, a238], a279),
([a210, a68], a190),
([a195, a68], a191),
([a191, a68], a190),
([a191, a191], a196),
([a68, a195], a193)]
def k6_109_1 : Known := [
([a207, a210], a280),
([a68, a203], a193)]
def k6_109 : Known := k6_109_0 ++ (k6_109_1)
def k6_119_0 : Known := [
([a190, a223], a67),
([a195, a200], a66),
([a68, a215], a66),
([a190, a221], a67),
([a196, a190], a65),
([a192, a221], a67),
([a192, a197], a67),
([a193, a238], a67),
([a195, a221], a66),
([a68, a201], a65),
([a195, a231], a65),
([a68, a275], a66),
([a195, a195], a66),
([a68, a216], a65),
([a68, a231], a65),
([a191, a210], a66),
([a68, a278], a66),
([a192, a237], a65),
([a191, a190], a65),
([a191, a200], a110),
([a68, a198], a66),
([a190, a204], a67),
([a191, a201], a101),
([a192, a191], a65),
([a191, a191], a66)]
def k6_119_1 : Known := [
([a191, a237], a110),
([a192, a200], a67),
([a195, a197], a65),
([a195, a215], a65),
([a190, a205], a67),
([a192, a68], a67),
([a195, a192], a65),
([a193, a197], a118),
([a195, a210], a65),
([a193, a191], a67),
([a195, a204], a66),
([a190, a216], a65),
([a193, a215], a98),
([a191, a221], a113),
([a195, a237], a66),
([a191, a195], a65),
([a195, a198], a65),
([a68, a195], a65),
([a191, a216], a110),
([a195, a191], a65),
([a68, a210], a66),
([a68, a238], a65),
([a192, a204], a67),
([a193, a204], a118),
([a193, a198], a105)]
def k6_119_2 : Known := [
([a190, a195], a67),
([a191, a198], a110),
([a68, a223], a65),
([a191, a193], a67),
([a196, a193], a65),
([a193, a210], a67),
([a191, a205], a101),
([a191, a207], a66),
([a193, a201], a118),
([a195, a68], a65),
([a192, a196], a65),
([a68, a207], a66),
([a192, a215], a67),
([a190, a231], a65),
([a191, a197], a101),
([a192, a195], a65),
([a190, a238], a67),
([a190, a210], a65),
([a192, a238], a65),
([a68, a68], a66),
([a191, a238], a66),
([a196, a192], a65),
([a192, a205], a65),
([a192, a201], a65),
([a195, a279], a66)]
def k6_119_3 : Known := [
([a195, a238], a66),
([a68, a205], a65),
([a68, a191], a65),
([a193, a207], a67),
([a190, a201], a65),
([a195, a203], a66),
([a190, a237], a67),
([a190, a68], a65),
([a192, a198], a67),
([a191, a196], a65),
([a68, a197], a66),
([a193, a203], a65),
([a190, a196], a65),
([a195, a276], a66),
([a192, a207], a67),
([a190, a200], a67),
([a193, a200], a105),
([a68, a200], a66),
([a190, a203], a67),
([a191, a223], a113),
([a68, a196], a65),
([a191, a192], a65),
([a68, a204], a66),
([a68, a190], a65),
([a193, a221], a98)]
def k6_119_4 : Known := [
([a68, a221], a66),
([a191, a215], a113),
([a191, a204], a101),
([a195, a216], a65),
([a191, a68], a65),
([a195, a207], a66),
([a68, a203], a66),
([a68, a192], a67),
([a192, a223], a65),
([a191, a203], a65),
([a190, a191], a65),
([a190, a215], a65),
([a191, a280], a66),
([a195, a196], a65),
([a193, a223], a98),
([a193, a237], a105),
([a193, a68], a65),
([a68, a193], a65),
([a191, a277], a66),
([a195, a223], a66),
([a193, a195], a65),
([a195, a201], a65),
([a190, a207], a67),
([a193, a216], a105),
([a195, a193], a65)]
def k6_119_5 : Known := [
([a192, a203], a67),
([a193, a231], a98),
([a193, a196], a65),
([a68, a237], a65),
([a191, a231], a113),
([a190, a198], a65),
([a190, a197], a65),
([a192, a216], a65),
([a192, a231], a65),
([a192, a210], a67),
([a195, a205], a66),
([a193, a205], a118),
([a195, a190], a67)]
def k6_119 : Known := k6_119_0 ++ (k6_119_1 ++ (k6_119_2 ++ (k6_119_3 ++ (k6_119_4 ++ (k6_119_5)))))
def k6_131 : Known := [
([a120, a108], .int .i64 1),
([a126, a108], .int .i64 0),
([a119, a127], .int .i64 1),
([a127, a127], .int .i64 0),
([a124, a124], .int .i64 0),
([a122, a122], .int .i64 0),
([a124, a122], .int .i64 (-1)),
([a119, a119], .int .i64 0)]
def k6_138 : Known := [
([a28, a28], a270)]
def k7_18 : Known := [
([a194, a281], a281),
([a207, a274], a282),
([a238, a274], a283),
([a281, a284], a285),
([a68, a274], a286),
([a194, a284], a284),
([a195, a274], a287),
([a191, a274], a288),
([a196, a274], a274),
([a210, a274], a289),
([a203, a274], a290)]
def k7_24 : Known := [
([a291], .agg [.str [50], .str [49, 47, 50], .str [49, 47, 50]])]
def k7_40 : Known := [
([a67, a67, a292], a67),
([a126, a126, a292], a65),
([a187, a187, a293], a123),
([a65, a65, a292], a65),
([a120, a120, a292], a66),
([a123, a123, a265], a123),
([a66, a66, a292], a66),
([a125, a125, a294], a264),
([a120, a120, a294], a127),
([a111, a111, a293], a127),
([a127, a127, a265], a127),
([a127, a127, a292], a127),
([a123, a123, a292], a123)]
def k7_48 : Known := [
([a295], .int .i64 0)]
def k7_52 : Known := [
([.vslice [.bool false, .vslice [.int .u32 1] 1, .bool false, .vslice [.int .u32 1] 1] 1], a66),
([.vslice [.bool true, .vslice [.int .u32 3] 1, .bool false, .vslice [.int .u32 2] 1, .bool false, .eslice, .bool false, .nilslice, .bool false, .vslice [] 0, .bool false, .nilslice] 3], a124),
([.vslice [.bool false, .nilslice, .bool false, .vslice [.int .u32 1] 1, .bool true, .vslice [.int .u32 1] 1, .bool false, .nilslice, .bool false, .vslice [] 0, .bool false, .nilslice] 3], a67),
([.vslice [.bool false, .nilslice, .bool false, .vslice [.int .u32 1] 1, .bool false, .vslice [] 0, .bool false, .nilslice, .bool false, .eslice, .bool false, .nilslice] 3], a65),
([.vslice [.bool false, .nilslice, .bool false, .vslice [.int .u32 1] 1, .bool false, .vslice [.int .u32 1] 1, .bool false, .nilslice, .bool false, .vslice [] 0, .bool false, .nilslice] 3], a66),
([.vslice [.bool false, .vslice [.int .u32 1] 1, .bool false, .vslice [.int .u32 2] 1, .bool false, .vslice [] 0, .bool false, .nilslice, .bool false, .vslice [] 0, .bool false, .nilslice] 3], a127),
([.vslice [.bool false, .nilslice, .bool false, .vslice [.int .u32 1] 1, .bool false, .eslice, .bool false, .nilslice, .bool true, .vslice [.int .u32 1] 1, .bool false, .nilslice] 3], a67),
([.vslice [.bool false, .nilslice, .bool false, .vslice [.int .u32 1] 1, .bool true, .vslice [.int .u32 1] 1, .bool false, .nilslice, .bool false, .eslice, .bool false, .nilslice] 3], a67),
([.vslice [.bool false, .vslice [.int .u32 3] 1, .bool false, .vslice [.int .u32 2] 1, .bool false, .eslice, .bool false, .nilslice, .bool false, .eslice, .bool false, .nilslice] 3], a119),
([.vslice [.bool false, .nilslice, .bool false, .vslice [.int .u32 1] 1, .bool false, .vslice [] 0, .bool false, .nilslice, .bool true, .vslice [.int .u32 1] 1, .bool false, .nilslice] 3], a67),
([.vslice [.bool true, .vslice [.int .u32 1] 1, .bool false, .vslice [.int .u32 2] 1, .bool false, .eslice, .bool false, .nilslice, .bool false, .eslice, .bool false, .nilslice] 3], a122),
([.vslice [.bool false, .nilslice, .bool false, .vslice [.int .u32 1] 1, .bool false, .eslice, .bool false, .nilslice, .bool false, .eslice, .bool false, .nilslice] 3], a65),
([.vslice [.bool false, .nilslice, .bool false, .vslice [.int .u32 1] 1, .bool false, .vslice [.int .u32 1] 1, .bool false, .nilslice, .bool false, .eslice, .bool false, .nilslice] 3], a66),
([.vslice [.bool true, .vslice [.int .u32 3] 1, .bool false, .vslice [.int .u32 2] 1, .bool false, .vslice [] 0, .bool false, .nilslice, .bool false, .eslice, .bool false, .nilslice] 3], a124),
([.vslice [.bool false, .vslice [.int .u32 1] 1, .bool false, .vslice [.int .u32 2] 1, .bool false, .eslice, .bool false, .nilslice, .bool false, .vslice [] 0, .bool false, .nilslice] 3], a127),
([.vslice [.bool true, .vslice [.int .u32 1] 1, .bool false, .vslice [.int .u32 2] 1, .bool false, .vslice [] 0, .bool false, .nilslice, .bool false, .eslice, .bool false, .nilslice] 3], a122),
([.vslice [.bool false, .nilslice, .bool false, .vslice [.int .u32 1] 1, .bool false, .eslice, .bool false, .nilslice, .bool false, .vslice [] 0, .bool false, .nilslice] 3], a65),
([.vslice [.bool false, .vslice [.int .u32 1] 1, .bool false, .vslice [.int .u32 2] 1, .bool false, .eslice, .bool false, .nilslice, .bool false, .eslice, .bool false, .nilslice] 3], a127),
([.vslice [.bool false, .nilslice, .bool false, .vslice [.int .u32 1] 1, .bool false, .vslice [] 0, .bool false, .nilslice, .bool false, .vslice [.int .u32 1] 1, .bool false, .nilslice] 3], a66),
([.vslice [.bool true, .vslice [.int .u32 1] 1, .bool false, .vslice [.int .u32 2] 1, .bool false, .vslice [] 0, .bool false, .nilslice, .bool false, .vslice [] 0, .bool false, .nilslice] 3], a122),
([.vslice [.bool false, .nilslice, .bool false, .vslice [.int .u32 1] 1, .bool false, .eslice, .bool false, .nilslice, .bool false, .vslice [.int .u32 1] 1, .bool false, .nilslice] 3], a66),
([.vslice [.bool true, .vslice [.int .u32 1] 1, .bool false, .vslice [.int .u32 2] 1, .bool false, .eslice, .bool false, .nilslice, .bool false, .vslice [] 0, .bool false, .nilslice] 3], a122),
([.vslice [.bool true, .vslice [.int .u32 3] 1, .bool false, .vslice [.int .u32 2] 1, .bool false, .vslice [] 0, .bool false, .nilslice, .bool false, .vslice [] 0, .bool false, .nilslice] 3], a124),
([.vslice [.bool true, .vslice [.int .u32 3] 1, .bool false, .vslice [.int .u32 2] 1, .bool false, .eslice, .bool false, .nilslice, .bool false, .eslice, .bool false, .nilslice] 3], a124),
([.vslice [.bool false, .vslice [.int .u32 3] 1, .bool false, .vslice [.int .u32 2] 1, .bool false, .vslice [] 0, .bool false, .nilslice, .bool false, .eslice, .bool false, .nilslice] 3], a119),
([.vslice [.bool false, .vslice [.int .u32 3] 1, .bool false, .vslice [.int .u32 2] 1, .bool false, .vslice [] 0, .bool false, .nilslice, .bool false, .vslice [] 0, .bool false, .nilslice] 3], a119),
([.vslice [.bool false, .vslice [.int .u32 3] 1, .bool false, .vslice [.int .u32 2] 1, .bool false, .eslice, .bool false, .nilslice, .bool false, .vslice [] 0, .bool false, .nilslice] 3], a119),
([.vslice [.bool false, .vslice [.int .u32 1] 1, .bool false, .vslice [.int .u32 2] 1, .bool false, .vslice [] 0, .bool false, .nilslice, .bool false, .eslice, .bool false, .nilslice] 3], a127)]
def k7_78_0 : Known := [
([.agg [a5, a12, a13], .agg [a22, a23, a13], a195], a67),
([.agg [a5, a12, a13], .agg [a22, a23, a13], a192], a67),
([.agg [a5, a12, a13], .agg [a22, a23, a13], a68], a67),
([.agg [a5, a12, a13], .agg [a14, a15, a13], a191], a65)]
def k7_78_1 : Known := [
([.agg [a5, a12, a13], .agg [a14, a15, a13], a193], a98),
([.agg [a5, a12, a13], .agg [a14, a15, a13], a68], a67),
([.agg [a5, a12, a13], .agg [a22, a23, a13], a193], a105),
([.agg [a5, a12, a13], .agg [a14, a15, a13], a190], a67)]
def k7_78_2 : Known := [
([.agg [a5, a12, a13], .agg [a22, a23, a13], a190], a67),
([.agg [a5, a12, a13], .agg [a14, a15, a13], a192], a67),
([.agg [a5, a12, a13], .agg [a22, a23, a13], a191], a113),
([.agg [a5, a12, a13], .agg [a14, a15, a13], a195], a67)]
def k7_78 : Known := k7_78_0 ++ (k7_78_1 ++ (k7_78_2))
def k7_83 : Known := [
([a196, a238, a191], a65),
([a68, a207, a203], a66),
([a196, a68, a203], a65),
([a191, a238, a207], a66),
([a191, a207, a210], a66),
([a68, a210, a207], a66),
([a196, a203, a195], a65),
([a196, a191, a210], a65),
([a195, a203, a207], a66),
([a195, a207, a238], a66),
([a196, a195, a238], a65),
([a196, a210, a68], a65)]
def k7_112 : Known := [
([a296, a194], .int .i64 1),
([a297, a194], .int .i64 1),
([a298, a194], .int .i64 1)]
def k7_114 : Known := [
([a127, a127], a126),
([a119, a119], a126),
([a124, a65], a124),
([a119, a127], a120),
([a127, a66], a122)]
def k7_135_0 : Known := [
([a299, a193], a193),
([a300, a68], a68),
([a301, a196], a196),
([a299, a195], a195),
([a302, a193], a193),
([a301, a193], a193),
([a299, a207], a207),
([a299, a68], a68),
([a300, a192], a192),
([a299, a192], a192),
([a302, a238], a238),
([a301, a195], a195),
([a302, a210], a210),
([a302, a192], a192),
([a300, a190], a190),
([a300, a196], a196),
([a300, a210], a210),
([a299, a210], a210),
([a302, a203], a203),
([a301, a207], a207),
([a299, a196], a196),
([a299, a203], a203),
([a302, a191], a191),
([a300, a207], a207),
([a301, a203], a203),
([a301, a238], a238),
([a300, a191], a191),
([a301, a210], a210),
([a300, a193], a193),
([a301, a190], a190)]
def k7_135_1 : Known := [
([a300, a203], a203),
([a301, a191], a191),
([a302, a195], a195),
([a302, a190], a190),
([a302, a68], a68),
([a299, a238], a238),
([a299, a191], a191),
([a300, a195], a195),
([a299, a190], a190),
([a301, a192], a192),
([a301, a68], a68),
([a302, a207], a207),
([a300, a238], a238),
([a302, a196], a196)]
def k7_135 : Known := k7_135_0 ++ (k7_135_1)
def k8_19 : Known := [
([a193, a120], a193),
([a284, a66], a284),
([a244, a121], a284),
([a190, a120], a190),
([a191, a120], a191),
([a219, a121], a281),
([a195, a120], a195),
([a285, a127], a291),
([a296, a120], a191),
([a281, a66], a281),
([a298, a120], a68),
([a297, a120], a195),
([a192, a120], a192),
([a68, a120], a68),
([a284, a120], a284),
([a281, a120], a281)]
def k8_42 : Known := [
([.agg [a22, a23, a13]], a120),
([.agg [a5, a12, a13]], a120)]
def k8_84 : Known := [
([a282, a290], a296),
([a290, a287], a298),
([a289, a288], a298),
([a283, a288], a297),
([a290, a286], a297),
([a289, a286], a296),
([a286, a274], a298),
([a288, a274], a296),
([a287, a274], a297),
([a283, a287], a296),
([a282, a289], a297),
([a282, a283], a298)]
def k8_119_0 : Known := [
([a193, a288], a124),
([a193, a286], a122),
([a193, a289], a124),
([a195, a286], a65),
([a191, a289], a119),
([a191, a287], a127),
([a191, a290], a127),
([a192, a286], a67),
([a68, a282], a66),
([a195, a282], a66),
([a192, a288], a65),
([a193, a282], a124),
([a192, a289], a67),
([a191, a286], a127),
([a68, a287], a65),
([a191, a288], a119),
([a191, a274], a127),
([a190, a274], a65),
([a193, a274], a122),
([a195, a283], a66),
([a68, a289], a66),
([a192, a287], a65),
([a193, a290], a122),
([a190, a283], a67),
([a192, a283], a65)]
def k8_119_1 : Known := [
([a192, a282], a67),
([a195, a287], a66),
([a68, a283], a65),
([a190, a290], a67),
([a192, a290], a67),
([a195, a274], a65),
([a195, a288], a65),
([a195, a290], a66),
([a190, a287], a67),
([a190, a286], a65),
([a68, a288], a65),
([a193, a287], a122),
([a190, a288], a65),
([a68, a274], a65),
([a192, a274], a65),
([a190, a289], a65),
([a190, a282], a67),
([a191, a283], a119),
([a193, a283], a124),
([a68, a286], a66),
([a195, a289], a65),
([a191, a282], a119),
([a68, a290], a66)]
def k8_119 : Known := k8_119_0 ++ (k8_119_1)
def k9_33 : Known := [
([a303], a66),
([.agg [.int .i64 1, a24]], a66)]
def k9_78_0 : Known := [
([.agg [a5, a12, a13], .agg [a18, a19, a13], a193], a124),
([.agg [a5, a12, a13], .agg [a18, a19, a13], a68], a67),
([.agg [a5, a12, a13], .agg [a18, a19, a13], a190], a67),
([.agg [a5, a12, a13], .agg [a18, a19, a13], a195], a67)]
def k9_78_1 : Known := [
([.agg [a5, a12, a13], .agg [a18, a19, a13], a192], a67),
([.agg [a5, a12, a13], .agg [a18, a19, a13], a191], a122)]
def k9_78 : Known := k9_78_0 ++ (k9_78_1)
def k9_105 : Known := [
([a191], a267),
([a68], a304),
([a190], .tuple [a190, .int .i64 0]),
([a193], .tuple [a193, .int .i64 0]),
([a195], a305),
([a192], .tuple [a192, .int .i64 0]),
([a296], a267),
([a297], a305),
([a298], a304)]
def k10_92 : Known := [
([.agg [a0]], .tuple [.agg [a5, a12, a13], .int .i64 0])]
def k10_108 : Known := [
([.agg [a14, a15, a13]], a269),
([.agg [a5, a12, a13]], a269),
([.agg [a18, a19, a13]], a269),
([.agg [a22, a23, a13]], a269)]
def k11_70 : Known := [
([a40], .tuple [.vslice [a5, a12, a13] 1, .int .i64 0])]
def k12_47 : Known := [
([a40], .int .i64 0)]
def k12_50_0 : Known := [
([a40, a295], .tuple [.agg [.int .i64 1, a20], .int .i64 0]),
([a40, a273], .tuple [.agg [.int .i64 1, a16], .int .i64 0]),
([a40, a272], .tuple [a303, .int .i64 0])]
def k12_50_1 : Known := [
([a40, a271], .tuple [.agg [.int .i64 1, a24], .int .i64 0])]
def k12_50 : Known := k12_50_0 ++ (k12_50_1)
def k13_12 : Known := [
([a4], .tuple [a17, .int .i64 0]),
([a2], .tuple [a21, .int .i64 0]),
([.agg [a1, a3]], .tuple [a25, .int .i64 0])]
def k14_77_0 : Known := [
([.agg [a5, a12, a13], .agg [a22, a23, a13]], a306)]
def k14_77_1 : Known := [
([.agg [a5, a12, a13], .agg [a18, a19, a13]], a306)]
def k14_77_2 : Known := [
([.agg [a5, a12, a13], .agg [a14, a15, a13]], a306)]
def k14_77 : Known := k14_77_0 ++ (k14_77_1 ++ (k14_77_2))
def k15_51 : Known := [
([.agg [a5, a12, a13], .agg [a22, a23, a13]], .int .i64 1),
([.agg [a5, a12, a13], .agg [a18, a19, a13]], .int .i64 3),
([.agg [a5, a12, a13], .agg [a14, a15, a13]], .int .i64 2)]
def k16_31 : Known := [
([a303, .agg [.int .i64 1, a20]], .int .i64 3),
([a303, .agg [.int .i64 1, a16]], .int .i64 2),
([a303, .agg [.int .i64 1, a24]], .int .i64 1)]
def tree : Dv.Tree := .node 77 (.node 44 (.node 25 (.node 18 (.node 12 (.node 8 (.leaf 5 [(1, k1_5)]) (.leaf 8 [(1, k1_8)])) (.node 14 (.leaf 12 [(13, k13_12)]) (.node 17 (.leaf 14 [(1, k1_14)]) (.leaf 17 [(4, k4_17), (6, k6_17)])))) (.node 22 (.node 19 (.leaf 18 [(5, k5_18), (7, k7_18)]) (.node 21 (.leaf 19 [(6, k6_19), (8, k8_19)]) (.leaf 21 [(6, k6_21)]))) (.node 23 (.leaf 22 [(4, k4_22)]) (.node 24 (.leaf 23 [(3, k3_23), (4, k4_23), (6, k6_23)]) (.leaf 24 [(5, k5_24), (7, k7_24)]))))) (.node 36 (.node 33 (.node 31 (.leaf 25 [(1, k1_25)]) (.node 32 (.leaf 31 [(16, k16_31)]) (.leaf 32 [(4, k4_32), (6, k6_32)]))) (.node 34 (.leaf 33 [(9, k9_33)]) (.node 35 (.leaf 34 [(2, k2_34), (5, k5_34)]) (.leaf 35 [(3, k3_35)])))) (.node 40 (.node 37 (.leaf 36 [(5, k5_36)]) (.node 38 (.leaf 37 [(3, k3_37)]) (.leaf 38 [(2, k2_38), (5, k5_38)]))) (.node 42 (.leaf 40 [(5, k5_40), (7, k7_40)]) (.node 43 (.leaf 42 [(8, k8_42)]) (.leaf 43 [(2, k2_43)])))))) (.node 59 (.node 51 (.node 48 (.node 45 (.leaf 44 [(3, k3_44)]) (.node 47 (.leaf 45 [(1, k1_45), (3, k3_45)]) (.leaf 47 [(12, k12_47)]))) (.node 49 (.leaf 48 [(6, k6_48), (7, k7_48)]) (.node 50 (.leaf 49 [(3, k3_49)]) (.leaf 50 [(12, k12_50)])))) (.node 55 (.node 52 (.leaf 51 [(15, k15_51)]) (.node 54 (.leaf 52 [(5, k5_52), (7, k7_52)]) (.leaf 54 [(1, k1_54)]))) (.node 56 (.leaf 55 [(1, k1_55), (2, k2_55)]) (.node 57 (.leaf 56 [(4, k4_56)]) (.leaf 57 [(2, k2_57)]))))) (.node 65 (.node 62 (.node 60 (.leaf 59 [(1, k1_59)]) (.node 61 (.leaf 60 [(1, k1_60)]) (.leaf 61 [(1, k1_61)]))) (.node 63 (.leaf 62 [(1, k1_62), (3, k3_62), (4, k4_62)]) (.node 64 (.leaf 63 [(3, k3_63), (4, k4_63)]) (.leaf 64 [(1, k1_64)])))) (.node 72 (.node 70 (.leaf 65 [(2, k2_65)]) (.node 71 (.leaf 70 [(11, k11_70)]) (.leaf 71 [(5, k5_71), (6, k6_71)]))) (.node 73 (.leaf 72 [(2, k2_72)]) (.node 74 (.leaf 73 [(1, k1_73)]) (.leaf 74 [(1, k1_74)]))))))) (.node 138 (.node 108 (.node 84 (.node 79 (.node 78 (.leaf 77 [(14, k14_77)]) (.leaf 78 [(7, k7_78), (9, k9_78)])) (.node 80 (.leaf 79 [(1, k1_79)]) (.node 83 (.leaf 80 [(2, k2_80), (3, k3_80)]) (.leaf 83 [(7, k7_83)])))) (.node 100 (.node 92 (.leaf 84 [(6, k6_84), (8, k8_84)]) (.node 97 (.leaf 92 [(10, k10_92)]) (.leaf 97 [(4, k4_97), (5, k5_97)]))) (.node 105 (.leaf 100 [(5, k5_100)]) (.node 106 (.leaf 105 [(5, k5_105), (9, k9_105)]) (.leaf 106 [(6, k6_106)]))))) (.node 126 (.node 114 (.node 109 (.leaf 108 [(10, k10_108)]) (.node 112 (.leaf 109 [(6, k6_109)]) (.leaf 112 [(4, k4_112), (7, k7_112)]))) (.node 119 (.leaf 114 [(5, k5_114), (7, k7_114)]) (.node 123 (.leaf 119 [(6, k6_119), (8, k8_119)]) (.leaf 123 [(1, k1_123)])))) (.node 131 (.node 127 (.leaf 126 [(5, k5_126)]) (.node 128 (.leaf 127 [(4, k4_127)]) (.leaf 128 [(3, k3_128)]))) (.node 135 (.leaf 131 [(3, k3_131), (6, k6_131)]) (.node 136 (.leaf 135 [(7, k7_135)]) (.leaf 136 [(1, k1_136)])))))) (.node 171 (.node 158 (.node 145 (.node 139 (.leaf 138 [(6, k6_138)]) (.node 141 (.leaf 139 [(1, k1_139)]) (.leaf 141 [(1, k1_141), (5, k5_141)]))) (.node 156 (.leaf 145 [(2, k2_145)]) (.node 157 (.leaf 156 [(2, k2_156)]) (.leaf 157 [(1, k1_157)])))) (.node 166 (.node 159 (.leaf 158 [(3, k3_158)]) (.node 165 (.leaf 159 [(2, k2_159)]) (.leaf 165 [(2, k2_165)]))) (.node 167 (.leaf 166 [(1, k1_166)]) (.node 170 (.leaf 167 [(1, k1_167)]) (.leaf 170 [(2, k2_170)]))))) (.node 196 (.node 191 (.node 173 (.leaf 171 [(2, k2_171)]) (.node 190 (.leaf 173 [(3, k3_173)]) (.leaf 190 [(1, k1_190)]))) (.node 192 (.leaf 191 [(1, k1_191)]) (.node 195 (.leaf 192 [(1, k1_192)]) (.leaf 195 [(1, k1_195)])))) (.node 205 (.node 197 (.leaf 196 [(2, k2_196)]) (.node 204 (.leaf 197 [(1, k1_197)]) (.leaf 204 [(1, k1_204)]))) (.node 206 (.leaf 205 [(1, k1_205)]) (.node 207 (.leaf 206 [(1, k1_206)]) (.leaf 207 [(1, k1_207)])))))))
def lay1 : Table := [(5, k1_5), (8, k1_8), (14, k1_14), (25, k1_25), (45, k1_45), (54, k1_54), (55, k1_55), (59, k1_59), (60, k1_60), (61, k1_61), (62, k1_62), (64, k1_64), (73, k1_73), (74, k1_74), (79, k1_79), (123, k1_123), (136, k1_136), (139, k1_139), (141, k1_141), (157, k1_157), (166, k1_166), (167, k1_167), (190, k1_190), (191, k1_191), (192, k1_192), (195, k1_195), (197, k1_197), (204, k1_204), (205, k1_205), (206, k1_206), (207, k1_207)]
def lay2 : Table := [(34, k2_34), (38, k2_38), (43, k2_43), (55, k2_55), (57, k2_57), (65, k2_65), (72, k2_72), (80, k2_80), (145, k2_145), (156, k2_156), (159, k2_159), (165, k2_165), (170, k2_170), (171, k2_171), (196, k2_196)]
def lay3 : Table := [(23, k3_23), (35, k3_35), (37, k3_37), (44, k3_44), (45, k3_45), (49, k3_49), (62, k3_62), (63, k3_63), (80, k3_80), (128, k3_128), (131, k3_131), (158, k3_158), (173, k3_173)]
def lay4 : Table := [(17, k4_17), (22, k4_22), (23, k4_23), (32, k4_32), (56, k4_56), (62, k4_62), (63, k4_63), (97, k4_97), (112, k4_112), (127, k4_127)]
def lay5 : Table := [(18, k5_18), (24, k5_24), (34, k5_34), (36, k5_36), (38, k5_38), (40, k5_40), (52, k5_52), (71, k5_71), (97, k5_97), (100, k5_100), (105, k5_105), (114, k5_114), (126, k5_126), (141, k5_141)]
def lay6 : Table := [(17, k6_17), (19, k6_19), (21, k6_21), (23, k6_23), (32, k6_32), (48, k6_48), (71, k6_71), (84, k6_84), (106, k6_106), (109, k6_109), (119, k6_119), (131, k6_131), (138, k6_138)]
def lay7 : Table := [(18, k7_18), (24, k7_24), (40, k7_40), (48, k7_48), (52, k7_52), (78, k7_78), (83, k7_83), (112, k7_112), (114, k7_114), (135, k7_135)]
def lay8 : Table := [(19, k8_19), (42, k8_42), (84, k8_84), (119, k8_119)]
def lay9 : Table := [(33, k9_33), (78, k9_78), (105, k9_105)]
def lay10 : Table := [(92, k10_92), (108, k10_108)]
def lay11 : Table := [(70, k11_70)]
def lay12 : Table := [(47, k12_47), (50, k12_50)]
def lay13 : Table := [(12, k13_12)]
def lay14 : Table := [(77, k14_77)]
def lay15 : Table := [(51, k15_51)]
def lay16 : Table := [(31, k16_31)]
end Go.Proofs.YtbaficijlppeoaaGreatDoor
