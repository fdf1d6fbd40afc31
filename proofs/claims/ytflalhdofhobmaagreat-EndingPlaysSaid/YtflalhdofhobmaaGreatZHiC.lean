/-
  Parts of the proof, merged: what the statement leans on.
-/
import Derived.Test.YtflalhdofhobmaaGreatProg
import Derived.KernelRfl
import Derived.Test.YtflalhdofhobmaaGreatZHiB
set_option linter.unusedVariables false
set_option linter.unusedSimpArgs false

namespace Go.Proofs.YtflalhdofhobmaaGreat
section
open Go
section
set_option maxRecDepth 100000
def c70 : Fu := ⟨35, [.t 4, .t 5], (.sq (.rg [kG 3 (.bx 24 (.t 1)), kG 4 (.mv kP), kG 5 (.mv (kI 0))]) (.sq (.sq (.rd [jG 0 0 [3] 8 (.ld (.t 3) 6 true), jG 1 1 [8] 9 (.ca 77 [.t 8]), jG 2 3 [9] 10 (.nt (.t 9)), jM 3 7 11 10, ⟨4, 15, [0, 11], kH 12 11 false (.mv (.t 0))⟩, ⟨5, 31, [12, 11], kH 13 11 false (.ca 137 [.t 12])⟩, ⟨6, 15, [3, 11], kH 14 11 false (.ld (.t 3) 6 true)⟩, ⟨7, 127, [14, 11], kH 15 11 false (.ca 17 [.t 14])⟩, ⟨8, 255, [13, 15, 11], kH 16 11 false (.ib .lss (.t 13) (.t 15))⟩, jG 9 511 [11, 16] 17 (.pk (.t 11) kT (.t 16))]) (.cd (.t 17) (.sq (.rg [kG 4 (.mv kP), kG 5 (.mv (kI 1))]) .rt) .sk)) (.sq (.rd [jM 0 0 19 0, jG 1 0 [3] 20 (.ld (.t 3) 6 true), jG 2 2 [20] 21 (.ca 140 [.t 20, (kI 0)]), jF 3 0 22 3 3, jL 4 8 23 22, jG 5 31 [19, 21, 23] 24 (.ca 138 [.t 19, (kI 1), .t 21, .t 23]), jM 6 63 18 24, jG 7 127 [18] 25 (.ex (.t 18) 0), jG 8 127 [18] 26 (.ex (.t 18) 1), jM 9 255 6 25, jM 10 1023 7 26]) (.sq (.sq (.rg [kM 27 7, kG 28 (.ib .neq (.t 27) (kI 0))]) (.cd (.t 28) (.sq (.rg [kM 29 7, kG 4 (.mv kP), kM 5 29]) .rt) .sk)) (.sq (.rg [kM 30 0, kG 31 (.ld (.t 3) 6 true), kM 32 6, kG 33 (.bd [(.pointer none), ii 0, ii 0, ii 0, ii 0, ii 0, ii 0, (.pointer none)] [(0, 1, (.t 30)), (1, 6, (.t 31)), (7, 1, (.t 32))]), kG 34 (.bx 167 (.t 33)), kM 4 34, kG 5 (.mv (kI 0))]) .rt)))))⟩
theorem k70 : kQ Tryz.f70 c70 := kr_
def c71 : Fu := ⟨7, [.t 2], (.sq (.rg [kG 2 (.mv kP)]) (.sq (.rg [kM 3 0, kN 4 3, kF 5 4 7, kL 6 5, kM 2 6]) .rt))⟩
theorem k71 : kQ Tryz.f71 c71 := kr_
def c72 : Fu := ⟨7, [], (.rg [kM 2 0, kN 3 2, kF 4 3 7, kL 5 4, kG 6 (.ca 141 [.t 5])])⟩
theorem k72 : kQ Tryz.f72 c72 := kr_
def c73 : Fu := ⟨28, [], (.sq (.rg [kM 3 0, kN 4 3, kF 5 4 7, kL 6 5, kG 7 (.ca 141 [.t 6])]) (.sq (.rg [kM 8 0, kN 9 8, kF 10 9 1, kF 11 10 3, kL 12 11, kG 13 (.mv (kI 0))]) (.bl 0 (.lp (.sq (.rg [kG 14 (.ib .lss (.t 13) (.t 12))]) (.sq (.cd (.t 14) .sk (.ex 0)) (.sq (.bl 1 (.sq (.rg [kM 15 13, kM 2 15]) (.rd [jM 0 0 16 0, jN 1 1 17 16, jF 2 3 18 17 0, jL 3 7 19 18, jM 4 0 20 0, jN 5 16 21 20, jF 6 48 22 21 1, jG 7 112 [22] 23 (.ld (.t 22) 6 true), jM 8 0 24 2, jG 9 496 [23, 24] 25 (.ca 94 [.t 23, .t 24]), jG 10 1023 [19, 25] 26 (.ca 23 [.t 19, .t 25, (.c (.int .u64 0))])]))) (.rg [kG 27 (.ib .add (.t 13) (kI 1)), kM 13 27]))))))))⟩
theorem k73 : kQ Tryz.f73 c73 := kr_
def c74 : Fu := ⟨53, [.t 2], (.sq (.rg [kG 1 (.bx 24 (.t 0)), kG 2 (.mv kP)]) (.sq (.rg [kG 5 (.ld (.t 1) 6 true), kG 6 (.ca 143 [.t 5]), kG 7 (.ca 142 [.t 6]), kM 3 7]) (.sq (.rg [kG 8 (.ld (.t 1) 6 true), kM 9 3, kG 10 (.bd [ii 0, ii 0, ii 0, ii 0, ii 0, ii 0, (.pointer none), (.pointer none), (.pointer none), (.pointer none)] [(0, 6, (.t 8)), (6, 1, (.t 9))]), kG 11 (.bx 115 (.t 10)), kM 4 11]) (.sq (.rd [jM 0 0 12 4, jM 1 0 13 3, jG 2 0 [1] 14 (.ld (.t 1) 6 true), jG 3 4 [14] 15 (.ca 112 [.t 14, (kI 0)]), jF 4 0 16 1 1, jL 5 16 17 16, jG 6 62 [13, 15, 17] 18 (.bd [(.pointer none), ii 0, ii 0, ii 0] [(0, 1, (.t 13)), (1, 1, (kI 0)), (2, 1, (.t 15)), (3, 1, (.t 17))]), jG 7 126 [18] 19 (.bx 210 (.t 18)), jN 8 255 20 12, jF 9 511 21 20 7, ⟨10, 1023, [21, 19], kS (.st (.t 21) (.t 19) 1)⟩]) (.sq (.rd [jM 0 0 22 4, jM 1 0 23 3, jG 2 0 [1] 24 (.ld (.t 1) 6 true), jG 3 4 [24] 25 (.ca 144 [.t 24, (kI 0)]), jF 4 0 26 1 3, jL 5 16 27 26, jG 6 62 [23, 25, 27] 28 (.bd [(.pointer none), ii 0, ii 0, ii 0] [(0, 1, (.t 23)), (1, 1, (kI 1)), (2, 1, (.t 25)), (3, 1, (.t 27))]), jG 7 126 [28] 29 (.bx 210 (.t 28)), jN 8 255 30 22, jF 9 511 31 30 8, ⟨10, 1023, [31, 29], kS (.st (.t 31) (.t 29) 1)⟩]) (.sq (.rd [jM 0 0 32 4, jM 1 0 33 3, jG 2 0 [1] 34 (.ld (.t 1) 6 true), jG 3 4 [34] 35 (.ca 145 [.t 34, (kI 0)]), jF 4 0 36 1 0, jL 5 16 37 36, jG 6 62 [33, 35, 37] 38 (.bd [(.pointer none), ii 0, ii 0, ii 0] [(0, 1, (.t 33)), (1, 1, (kI 2)), (2, 1, (.t 35)), (3, 1, (.t 37))]), jG 7 126 [38] 39 (.bx 218 (.t 38)), jN 8 255 40 32, jF 9 511 41 40 9, ⟨10, 1023, [41, 39], kS (.st (.t 41) (.t 39) 1)⟩]) (.sq (.rg [kM 42 4, kN 43 42, kF 44 43 7, kL 45 44, kG 46 (.ca 146 [.t 45])]) (.sq (.rg [kM 47 4, kN 48 47, kF 49 48 8, kL 50 49, kG 51 (.ca 146 [.t 50])]) (.sq (.rg [kM 52 4, kM 2 52]) .rt)))))))))⟩
theorem k74 : kQ Tryz.f74 c74 := kr_
def c75 : Fu := ⟨27, [.t 4, .t 5], (.sq (.rg [kG 3 (.bx 24 (.t 1)), kG 4 (.mv kP), kG 5 (.mv (kI 0))]) (.sq (.rg [kM 9 0, kG 10 (.ld (.t 3) 6 true), kG 11 (.ca 69 [.t 9, .t 10]), kM 8 11, kG 12 (.ex (.t 8) 0), kG 13 (.ex (.t 8) 1), kM 6 12, kM 7 13]) (.sq (.sq (.rg [kM 14 7, kG 15 (.ib .neq (.t 14) (kI 0))]) (.cd (.t 15) (.sq (.rg [kM 16 7, kG 4 (.mv kP), kM 5 16]) .rt) .sk)) (.sq (.rd [jM 0 0 17 0, jG 1 0 [3] 18 (.ld (.t 3) 6 true), jM 2 0 19 6, jG 3 4 [19] 20 (.ca 71 [.t 19]), jF 4 0 21 3 4, jL 5 16 22 21, jG 6 60 [22] 23 (.ca 147 [.t 22]), jG 7 124 [] 24 (.ca 148 []), jG 8 255 [17, 18, 20, 23, 24] 25 (.bd [(.pointer none), ii 0, ii 0, ii 0, ii 0, ii 0, ii 0, (.pointer none), (.pointer none), (.pointer none)] [(0, 1, (.t 17)), (1, 6, (.t 18)), (7, 1, (.t 20)), (8, 1, (.t 23)), (9, 1, (.t 24))]), jG 9 511 [25] 26 (.bx 195 (.t 25)), jM 10 1023 4 26, jG 11 2047 [] 5 (.mv (kI 0))]) .rt))))⟩
theorem k75 : kQ Tryz.f75 c75 := kr_
def c76 : Fu := ⟨13, [.t 2], (.sq (.rg [kG 2 (.mv kP)]) (.sq (.rg [kM 3 0, kM 4 0, kN 5 4, kF 6 5 0, kF 7 6 4, kL 8 7, kG 9 (.ca 149 [.t 8]), kG 10 (.ca 150 []), kG 11 (.bd [(.pointer none), (.pointer none), (.pointer none)] [(0, 1, (.t 3)), (1, 1, (.t 9)), (2, 1, (.t 10))]), kG 12 (.bx 183 (.t 11)), kM 2 12]) .rt))⟩
theorem k76 : kQ Tryz.f76 c76 := kr_
def c77 : Fu := ⟨37, [.t 2], (.sq (.rg [kG 1 (.bx 24 (.t 0)), kG 2 (.mv kU)]) (.sq (.rg [kF 3 1 0, kL 4 3, kG 5 (.ca 82 [.t 4, (kI 1), (kI 64)]), kM 6 5, kH 7 6 true (.fa (.t 1) 1), kH 8 6 true (.ld (.t 7) 1 false), kH 9 6 true (.ca 82 [.t 8, (kI 1), (kI 4096)]), kG 10 (.pk (.t 6) (.t 9) kU), kM 11 10, kH 12 11 true (.fa (.t 1) 2), kH 13 11 true (.ld (.t 12) 1 false), kH 14 11 true (.ca 82 [.t 13, (kI 8), (kI 1024)]), kG 15 (.pk (.t 11) (.t 14) kU), kM 16 15, kH 17 16 true (.fa (.t 1) 2), kH 18 16 true (.ld (.t 17) 1 false), kH 19 16 true (.ib .rem (.t 18) (kI 8)), kH 20 16 true (.ib .eql (.t 19) (kI 0)), kG 21 (.pk (.t 16) (.t 20) kU), kM 22 21, kH 23 22 true (.fa (.t 1) 3), kH 24 22 true (.ld (.t 23) 1 false), kH 25 22 true (.ca 82 [.t 24, (kI 1), (kI 4096)]), kG 26 (.pk (.t 22) (.t 25) kU), kM 27 26, kH 28 27 true (.fa (.t 1) 4), kH 29 27 true (.ld (.t 28) 1 false), kH 30 27 true (.ca 82 [.t 29, (kI 0), (kI 64)]), kG 31 (.pk (.t 27) (.t 30) kU), kM 32 31, kH 33 32 true (.fa (.t 1) 5), kH 34 32 true (.ld (.t 33) 1 false), kH 35 32 true (.ca 82 [.t 34, (kI 1), (kI 8)]), kG 36 (.pk (.t 32) (.t 35) kU), kM 2 36]) .rt))⟩
theorem k77 : kQ Tryz.f77 c77 := kr_
def c78 : Fu := ⟨40, [.c 2 15 true], (.sq (.rg [kG 1 (.bx 24 (.t 0)), kG 2 (.al 143 [ii 0, ii 0, ii 0, ii 0, ii 0, ii 0, ii 0, ii 0, ii 0, ii 0, ii 0, ii 0, ii 0, ii 0, ii 0])]) (.sq (.rg [kF 6 1 0, kL 7 6, kG 8 (.bd [ii 0, ii 0, ii 0] [(0, 1, (kI 3)), (2, 1, (.t 7))]), kF 9 1 3, kL 10 9, kG 11 (.bd [ii 0, ii 0, ii 0] [(0, 1, (kI 4)), (2, 1, (.t 10))]), kF 12 1 3, kL 13 12, kG 14 (.bd [ii 0, ii 0, ii 0] [(0, 1, (kI 5)), (2, 1, (.t 13))]), kF 15 1 1, kL 16 15, kG 17 (.bd [ii 0, ii 0, ii 0] [(0, 1, (kI 6)), (2, 1, (.t 16))]), kF 18 1 1, kL 19 18, kF 20 1 2, kL 21 20, kG 22 (.ib .mul (.t 19) (.t 21)), kG 23 (.bd [ii 0, ii 0, ii 0] [(0, 1, (kI 7)), (2, 1, (.t 22))]), kG 24 (.bd [ii 0, ii 0, ii 0, ii 0, ii 0, ii 0, ii 0, ii 0, ii 0, ii 0, ii 0, ii 0, ii 0, ii 0, ii 0] [(0, 3, (.t 8)), (3, 3, (.t 11)), (6, 3, (.t 14)), (9, 3, (.t 17)), (12, 3, (.t 23))]), kG 3 (.al 143 [ii 0, ii 0, ii 0, ii 0, ii 0, ii 0, ii 0, ii 0, ii 0, ii 0, ii 0, ii 0, ii 0, ii 0, ii 0]), kS (.st (.t 3) (.t 24) 15)]) (.sq (.rg [kG 4 (.mv (kI 3))]) (.sq (.sq (.rg [kG 25 (.mv (kI 0))]) (.bl 0 (.lp (.sq (.rg [kG 26 (.ib .lss (.t 25) (kI 5))]) (.sq (.cd (.t 26) .sk (.ex 0)) (.sq (.bl 1 (.sq (.rg [kM 27 25, kM 5 27]) (.sq (.rg [kM 28 5, kM 29 4, kG 30 (.iaa (.t 3) (.t 28) 5 3), kF 31 30 1, kS (.st (.t 31) (.t 29) 1)]) (.rg [kM 32 4, kM 33 5, kG 34 (.iaa (.t 3) (.t 33) 5 3), kF 35 34 2, kL 36 35, kG 37 (.ib .add (.t 32) (.t 36)), kM 4 37])))) (.rg [kG 38 (.ib .add (.t 25) (kI 1)), kM 25 38]))))))) (.sq (.rg [kG 39 (.ld (.t 3) 15 true), kS (.st (.t 2) (.t 39) 15)]) .rt)))))⟩
theorem k78 : kQ Tryz.f78 c78 := kr_
def c79 : Fu := ⟨8, [], (.rg [kM 4 0, kM 5 1, kN 6 4, kF 7 6 0, kS (.st (.t 7) (.t 5) 1)])⟩
theorem k79 : kQ Tryz.f79 c79 := kr_
def c80 : Fu := ⟨142, [], (.sq (.rd [jM 0 0 3 0, jM 1 0 4 0, jN 2 2 5 4, jF 3 6 6 5 5, jL 4 14 7 6, jN 5 30 8 7, jF 6 62 9 8 0, jL 7 126 10 9, jM 8 0 11 0, jN 9 256 12 11, jF 10 768 13 12 5, jL 11 1792 14 13, jN 12 3840 15 14, jF 13 7936 16 15 1, jG 14 16128 [16] 17 (.ld (.t 16) 6 true), jM 15 0 18 0, jN 16 32768 19 18, jF 17 98304 20 19 7, jL 18 229376 21 20, jG 19 524032 [17, 21] 22 (.ca 94 [.t 17, .t 21]), jG 20 1048574 [10, 22] 23 (.ca 151 [.t 10, .t 22]), jM 21 2097150 2 23, jG 22 4194302 [2] 24 (.ex (.t 2) 0), jG 23 4194302 [2] 25 (.ex (.t 2) 1), jN 24 8388607 26 3, jF 25 25165823 27 26 16, ⟨26, 58720255, [27, 24], kS (.st (.t 27) (.t 24) 1)⟩]) (.sq (.rg [kM 28 0, kM 29 0, kN 30 29, kF 31 30 16, kL 32 31, kG 33 (.ca 93 [.t 32]), kN 34 28, kF 35 34 17, kS (.st (.t 35) (.t 33) 4)]) (.sq (.sq (.rd [jM 0 0 36 0, jN 1 1 37 36, jF 2 3 38 37 17, jG 3 7 [38] 39 (.ld (.t 38) 4 true), jM 4 0 40 0, jN 5 16 41 40, jF 6 48 42 41 8, jL 7 112 43 42, jG 8 255 [39, 43] 44 (.ca 152 [.t 39, .t 43]), jG 9 511 [44] 45 (.nt (.t 44))]) (.cd (.t 45) (.sq (.rg [kM 46 0, kG 47 (.bd [ii 0, ii 0, ii 0, ii 0, ii 0] []), kG 48 (.ca 153 [.t 46, (kI 3), .t 47])]) .rt) .sk)) (.sq (.rd [jM 0 0 49 0, jM 1 0 50 0, jN 2 2 51 50, jF 3 6 52 51 17, jF 4 14 53 52 2, jL 5 30 54 53, jM 6 0 55 0, jN 7 64 56 55, jF 8 192 57 56 9, jL 9 448 58 57, jG 10 1022 [54, 58] 59 (.ca 154 [.t 54, .t 58]), jN 11 2047 60 49, jF 12 4095 61 60 14, ⟨13, 8191, [61, 59], kS (.st (.t 61) (.t 59) 1)⟩]) (.bl 0 (.sq (.rd [jM 0 0 90 0, jN 1 1 91 90, jF 2 3 92 91 17, jF 3 7 93 92 1, jL 4 15 94 93, jG 5 31 [94] 95 (.ib .geq (.t 94) (kI 2)), jM 6 63 96 95, ⟨7, 127, [0, 96], kH 97 96 true (.mv (.t 0))⟩, ⟨8, 255, [97, 96], kH 98 96 true (.nc (.t 97))⟩, ⟨9, 511, [98, 96], kH 99 96 true (.fa (.t 98) 5)⟩, ⟨10, 1023, [99, 96], kH 100 96 true (.ld (.t 99) 1 false)⟩, ⟨11, 2047, [100, 96], kH 101 96 true (.nc (.t 100))⟩, ⟨12, 4095, [101, 96], kH 102 96 true (.fa (.t 101) 1)⟩, ⟨13, 8191, [102, 96], kH 103 96 true (.fa (.t 102) 2)⟩, ⟨14, 16383, [103, 96], kH 104 96 true (.ld (.t 103) 1 false)⟩, ⟨15, 127, [0, 96], kH 105 96 true (.mv (.t 0))⟩, ⟨16, 32895, [105, 96], kH 106 96 true (.nc (.t 105))⟩, ⟨17, 98431, [106, 96], kH 107 96 true (.fa (.t 106) 17)⟩, ⟨18, 229503, [107, 96], kH 108 96 true (.fa (.t 107) 3)⟩, ⟨19, 491647, [108, 96], kH 109 96 true (.ld (.t 108) 1 false)⟩, ⟨20, 127, [0, 96], kH 110 96 true (.mv (.t 0))⟩, ⟨21, 1048703, [110, 96], kH 111 96 true (.nc (.t 110))⟩, ⟨22, 3145855, [111, 96], kH 112 96 true (.fa (.t 111) 14)⟩, ⟨23, 7340159, [112, 96], kH 113 96 true (.ld (.t 112) 1 false)⟩, ⟨24, 16777215, [104, 109, 113, 96], kH 114 96 true (.ca 155 [.t 104, .t 109, .t 113])⟩, jG 25 33554431 [96, 114] 115 (.pk (.t 96) (.t 114) kU), jM 26 67108863 89 115]) (.cd (.t 89) (.rg [kM 116 0, kN 117 116, kF 118 117 0, kM 119 0, kG 120 (.mf (.func 156) [.t 119] []), kG 121 (.ca 79 [.t 118, .t 120])]) (.sq (.rg [kM 123 0, kN 124 123, kF 125 124 10, kL 126 125, kG 127 (.ib .geq (.t 126) (kI 0)), kM 122 127]) (.cd (.t 122) (.rg [kM 128 0, kN 129 128, kF 130 129 0, kM 131 0, kG 132 (.mf (.func 157) [.t 131] []), kG 133 (.ca 79 [.t 130, .t 132])]) (.sq (.rg [kM 135 0, kN 136 135, kF 137 136 12, kL 138 137, kM 134 138]) (.cd (.t 134) (.rg [kM 139 0, kG 140 (.bd [ii 0, ii 0, ii 0, ii 0, ii 0] []), kG 141 (.ca 153 [.t 139, (kI 6), .t 140])]) (.sq (.rg [kM 62 0, kN 63 62, kF 64 63 12, kS (.st (.t 64) kT 1)]) (.sq (.rg [kM 65 0, kM 66 0, kN 67 66, kF 68 67 6, kL 69 68, kG 70 (.ca 158 [.t 69]), kN 71 65, kF 72 71 21, kS (.st (.t 72) (.t 70) 1)]) (.rd [jM 0 0 73 0, jN 1 1 74 73, jF 2 3 75 74 0, jM 3 0 76 0, jN 4 8 77 76, jF 5 24 78 77 21, jL 6 56 79 78, jG 7 120 [79] 80 (.mf (.func 159) [.t 79] []), jM 8 0 81 0, jN 9 256 82 81, jF 10 768 83 82 21, jL 11 1792 84 83, jG 12 3840 [84] 85 (.mf (.func 160) [.t 84] []), jM 13 0 86 0, jG 14 8192 [86] 87 (.mf (.func 161) [.t 86] []), jG 15 32767 [75, 80, 85, 87] 88 (.ca 119 [.t 75, .t 80, .t 85, .t 87])]))))))))))))))⟩
theorem k80 : kQ Tryz.f80 c80 := kr_
def c81 : Fu := ⟨16, [.t 4], (.sq (.rg [kG 4 (.mv kU)]) (.sq (.rg [kM 5 1, kG 6 (.ib .geq (.t 5) (kI 0)), kM 7 6, kH 8 7 true (.mv (.t 1)), kH 9 7 true (.mv (.t 0)), kH 10 7 true (.nc (.t 9)), kH 11 7 true (.fa (.t 10) 0), kH 12 7 true (.ld (.t 11) 1 false), kH 13 7 true (.len (.t 12)), kH 14 7 true (.ib .lss (.t 8) (.t 13)), kG 15 (.pk (.t 7) (.t 14) kU), kM 4 15]) .rt))⟩
theorem k81 : kQ Tryz.f81 c81 := kr_
def c82 : Fu := ⟨15, [.t 6], (.sq (.rg [kG 6 (.mv kU)]) (.sq (.rg [kM 7 0, kM 8 1, kG 9 (.ib .geq (.t 7) (.t 8)), kM 10 9, kH 11 10 true (.mv (.t 0)), kH 12 10 true (.mv (.t 2)), kH 13 10 true (.ib .leq (.t 11) (.t 12)), kG 14 (.pk (.t 10) (.t 13) kU), kM 6 14]) .rt))⟩
theorem k82 : kQ Tryz.f82 c82 := kr_
def c83 : Fu := ⟨33, [.t 6], (.sq (.rg [kG 3 (.bx 24 (.t 0)), kG 6 (.mv (kI 0))]) (.sq (.sq (.rg [kG 9 (.ld (.t 3) 6 true), kG 10 (.ca 77 [.t 9]), kG 11 (.nt (.t 10))]) (.cd (.t 11) (.sq (.rg [kG 6 (.mv (.c (ii (-1))))]) .rt) .sk)) (.sq (.sq (.rg [kG 12 (.ld (.t 3) 6 true), kG 13 (.ca 78 [.t 12]), kG 14 (.mv (kI 0))]) (.bl 0 (.lp (.sq (.rg [kG 15 (.ib .lss (.t 14) (kI 5))]) (.sq (.cd (.t 15) .sk (.ex 0)) (.sq (.bl 1 (.sq (.rg [kG 16 (.iv (.t 13) (.t 14) 5 3 true), kG 8 (.al 142 [ii 0, ii 0, ii 0]), kS (.st (.t 8) (.t 16) 3)]) (.sq (.rg [kF 17 8 0, kL 18 17, kM 19 1, kG 20 (.ib .eql (.t 18) (.t 19)), kM 21 20, kH 22 21 true (.mv (.t 2)), kH 23 21 true (.fa (.t 8) 2), kH 24 21 true (.ld (.t 23) 1 false), kH 25 21 true (.ib .sub (.t 24) (kI 1)), kH 26 21 true (.ca 82 [.t 22, (kI 0), .t 25]), kG 27 (.pk (.t 21) (.t 26) kU)]) (.cd (.t 27) (.sq (.rg [kF 28 8 1, kL 29 28, kM 30 2, kG 31 (.ib .add (.t 29) (.t 30)), kM 6 31]) .rt) .sk)))) (.rg [kG 32 (.ib .add (.t 14) (kI 1)), kM 14 32]))))))) (.sq (.rg [kG 6 (.mv (.c (ii (-1))))]) .rt))))⟩
theorem k83 : kQ Tryz.f83 c83 := kr_
def c84 : Fu := ⟨34, [.t 4], (.sq (.rg [kG 4 (.mv kP)]) (.sq (.rg [kM 6 0, kM 7 1, kG 8 (.mm true (.t 7) (kI 0)), kG 9 (.mm false (.t 8) (kI 3)), kM 10 0, kN 11 10, kF 12 11 7, kL 13 12, kG 14 (.ca 162 [.t 13, (kI 1)]), kG 15 (.bd [.nilFunc, .nilFunc, .nilFunc, .nilFunc, ii 0, (.pointer none), ii 0, (.pointer none), ii 0, ii 0, ii 0, ii 0, ii 0, ii 0, ii 0] [(5, 1, (.t 6)), (6, 1, (.t 9)), (7, 1, (.t 14)), (8, 1, (.c (ii (-1))))]), kG 16 (.bx 232 (.t 15)), kM 5 16]) (.sq (.rd [jM 0 0 17 5, jN 1 1 18 17, jF 2 3 19 18 0, jM 3 0 20 5, jN 4 8 21 20, jF 5 24 22 21 7, jL 6 56 23 22, jG 7 120 [23] 24 (.mf (.func 163) [.t 23] []), jM 8 0 25 5, jN 9 256 26 25, jF 10 768 27 26 7, jL 11 1792 28 27, jG 12 3840 [28] 29 (.mf (.func 164) [.t 28] []), jM 13 0 30 5, jG 14 8192 [30] 31 (.mf (.func 165) [.t 30] []), jG 15 32767 [19, 24, 29, 31] 32 (.ca 119 [.t 19, .t 24, .t 29, .t 31])]) (.sq (.rg [kM 33 5, kM 4 33]) .rt))))⟩
theorem k84 : kQ Tryz.f84 c84 := kr_
def c85 : Fu := ⟨16, [.t 4], (.sq (.rg [kG 4 (.mv kP)]) (.sq (.rg [kM 5 0, kM 6 1, kG 7 (.mm true (.t 6) (kI 0)), kG 8 (.mm false (.t 7) (kI 3)), kM 9 0, kN 10 9, kF 11 10 8, kL 12 11, kG 13 (.ca 166 [.t 12, (kI 1)]), kG 14 (.bd [(.pointer none), ii 0, ii 0, ii 0, ii 0, ii 0, ii 0, (.pointer none), ii 0, ii 0, ii 0, ii 0, ii 0, (.bool false)] [(0, 1, (.t 5)), (1, 1, (.t 8)), (7, 1, (.t 13))]), kG 15 (.bx 164 (.t 14)), kM 4 15]) .rt))⟩
theorem k85 : kQ Tryz.f85 c85 := kr_
def c86 : Fu := ⟨7, [.t 2], (.sq (.rg [kG 2 (.mv kU)]) (.sq (.rg [kM 3 0, kN 4 3, kF 5 4 0, kG 6 (.ca 91 [.t 5]), kM 2 6]) .rt))⟩
theorem k86 : kQ Tryz.f86 c86 := kr_
def c87 : Fu := ⟨137, [.t 2], (.sq (.rg [kG 2 (.mv kU)]) (.sq (.sq (.rg [kM 7 0, kN 8 7, kF 9 8 13, kL 10 9]) (.cd (.t 10) (.sq (.rg [kG 2 (.mv kU)]) .rt) .sk)) (.sq (.rg [kM 11 0, kN 12 11, kF 13 12 3, kL 14 13, kG 15 (.ib .add (.t 14) (kI 1)), kN 16 11, kF 17 16 3, kS (.st (.t 17) (.t 15) 1)]) (.sq (.rg [kM 18 0, kN 19 18, kF 20 19 0, kL 21 20, kN 22 21, kF 23 22 6, kL 24 23, kM 3 24]) (.sq (.sq (.rg [kM 25 0, kN 26 25, kF 27 26 2, kL 28 27]) (.bl 0 (.sq (.rg [kG 70 (.ib .eql (.t 28) (kI 0)), kM 69 70]) (.cd (.t 69) (.sq (.rg [kM 71 0, kN 72 71, kF 73 72 7, kL 74 73, kG 75 (.ca 167 [.t 74])]) (.sq (.sq (.rg [kM 76 0, kN 77 76, kF 78 77 7, kL 79 78, kN 80 79, kF 81 80 6, kL 82 81, kG 83 (.nt (.t 82))]) (.cd (.t 83) (.sq (.rg [kG 2 (.mv kT)]) .rt) .sk)) (.sq (.rg [kM 84 0, kM 85 0, kN 86 85, kF 87 86 3, kL 88 87, kN 89 84, kF 90 89 4, kS (.st (.t 90) (.t 88) 1)]) (.sq (.rg [kM 91 0, kN 92 91, kF 93 92 7, kL 94 93, kG 95 (.ca 168 [.t 94]), kM 4 95]) (.sq (.sq (.rg [kM 96 4, kG 97 (.len (.t 96)), kG 98 (.ib .eql (.t 97) (kI 0))]) (.cd (.t 98) (.sq (.rg [kM 99 0, kM 100 0, kN 101 99, kF 102 101 12, kS (.st (.t 102) (kI 7) 1), kN 103 100, kF 104 103 13, kS (.st (.t 104) kT 1)]) (.sq (.rg [kG 2 (.mv kT)]) .rt)) .sk)) (.rg [kM 105 0, kM 106 0, kM 107 4, kG 108 (.ia (.t 107) (kI 0) 1), kL 109 108, kN 110 105, kF 111 110 5, kS (.st (.t 111) (.t 109) 1), kN 112 106, kF 113 112 2, kS (.st (.t 113) (kI 1) 1)])))))) (.sq (.rg [kG 115 (.ib .eql (.t 28) (kI 1)), kM 114 115]) (.cd (.t 114) (.sq (.rd [jM 0 0 116 0, jM 1 0 117 3, jM 2 0 118 0, jN 3 4 119 118, jF 4 12 120 119 0, jL 5 28 121 120, jN 6 60 122 121, jF 7 124 123 122 0, jG 8 252 [123] 124 (.ld (.t 123) 6 true), jM 9 0 125 0, jN 10 512 126 125, jF 11 1536 127 126 5, jL 12 3584 128 127, jG 13 8188 [124, 128] 129 (.ca 97 [.t 124, .t 128]), jG 14 16382 [117, 129] 130 (.ca 98 [.t 117, .t 129]), jG 15 32766 [130] 131 (.ca 100 [.t 130]), jN 16 65535 132 116, jF 17 131071 133 132 8, ⟨18, 262143, [133, 131], kS (.st (.t 133) (.t 131) 4)⟩]) (.rg [kM 134 0, kN 135 134, kF 136 135 2, kS (.st (.t 136) (kI 2) 1)])) (.sq (.rg [kM 29 0, kM 30 0, kN 31 30, kF 32 31 8, kF 33 32 0, kL 34 33, kG 35 (.ca 169 [.t 34]), kN 36 29, kF 37 36 6, kS (.st (.t 37) (.t 35) 1)]) (.sq (.rd [jM 0 0 39 0, jN 1 1 40 39, jF 2 3 41 40 6, jL 3 7 42 41, jM 4 0 43 0, jN 5 16 44 43, jF 6 48 45 44 1, jL 7 112 46 45, jG 8 255 [42, 46] 47 (.bd [ii 0, ii 0, ii 0, ii 0] [(0, 1, (.t 42)), (1, 1, (kI 1)), (2, 1, (.t 46))]), jG 9 511 [47] 48 (.ca 101 [.t 47]), jM 10 1023 38 48, jG 11 2047 [38] 49 (.ex (.t 38) 0), jG 12 2047 [38] 50 (.ex (.t 38) 1), jM 13 4095 5 49, jM 14 16383 6 50]) (.sq (.rd [jM 0 0 51 3, jM 1 0 52 0, jN 2 2 53 52, jF 3 6 54 53 0, jL 4 14 55 54, jN 5 30 56 55, jF 6 62 57 56 0, jG 7 126 [57] 58 (.ld (.t 57) 6 true), jM 8 0 59 0, jN 9 256 60 59, jF 10 768 61 60 5, jL 11 1792 62 61, jG 12 4094 [58, 62] 63 (.ca 97 [.t 58, .t 62]), jM 13 0 64 5, jG 14 16383 [51, 63, 64] 65 (.ca 110 [.t 51, .t 63, .t 64])]) (.rg [kM 66 0, kN 67 66, kF 68 67 13, kS (.st (.t 68) kT 1)])))))))))) (.sq (.rg [kG 2 (.mv kT)]) .rt))))))⟩
theorem k87 : kQ Tryz.f87 c87 := kr_
def c88 : Fu := ⟨23, [.t 2, .t 3], (.sq (.rg [kG 2 (.mv (kI 0)), kG 3 (.mv (kI 0))]) (.sq (.sq (.rg [kM 4 0, kG 5 (.ca 89 [.t 4]), kG 6 (.nt (.t 5)), kM 7 6, kH 8 7 false (.mv (.t 0)), kH 9 7 false (.nc (.t 8)), kH 10 7 false (.fa (.t 9) 14), kH 11 7 false (.ld (.t 10) 1 false), kH 12 7 false (.ib .neq (.t 11) (kI 0)), kG 13 (.pk (.t 7) kT (.t 12))]) (.cd (.t 13) (.sq (.rg [kG 2 (.mv (kI 0)), kG 3 (.mv (kI 0))]) .rt) .sk)) (.sq (.rd [jM 0 0 14 0, jN 1 1 15 14, jF 2 3 16 15 8, jL 3 7 17 16, jM 4 0 18 0, jN 5 16 19 18, jF 6 48 20 19 10, jF 7 112 21 20 0, jL 8 240 22 21, jM 9 15 2 17, jM 10 1023 3 22]) .rt)))⟩
theorem k88 : kQ Tryz.f88 c88 := kr_
def c89 : Fu := ⟨7, [.t 2], (.sq (.rg [kG 2 (.mv kU)]) (.sq (.rg [kM 3 0, kN 4 3, kF 5 4 0, kG 6 (.ca 92 [.t 5]), kM 2 6]) .rt))⟩
theorem k89 : kQ Tryz.f89 c89 := kr_
def c90 : Fu := ⟨7, [.t 2], (.sq (.rg [kG 2 (.mv (kI 0))]) (.sq (.rg [kM 3 0, kN 4 3, kF 5 4 14, kL 6 5, kM 2 6]) .rt))⟩
theorem k90 : kQ Tryz.f90 c90 := kr_
def c91 : Fu := ⟨25, [.t 2], (.sq (.rg [kG 2 (.mv kU)]) (.sq (.sq (.rg [kM 4 0, kN 5 4, kF 6 5 0, kL 7 6, kG 8 (.en 2 false (.t 7) (.c .nilFunc))]) (.cd (.t 8) (.sq (.rg [kG 2 (.mv kU)]) .rt) .sk)) (.sq (.rg [kM 9 0, kN 10 9, kF 11 10 0, kL 12 11, kM 3 12]) (.sq (.rg [kM 13 0, kN 14 13, kF 15 14 0, kS (.st (.t 15) (.c .nilFunc) 1)]) (.sq (.rg [kM 16 0, kN 17 16, kF 18 17 4, kL 19 18, kG 20 (.ib .add (.t 19) (kI 1)), kN 21 16, kF 22 21 4, kS (.st (.t 22) (.t 20) 1)]) (.sq (.rg [kM 23 3, kG 24 (.cl (.t 23) [])]) (.sq (.rg [kG 2 (.mv kT)]) .rt)))))))⟩
theorem k91 : kQ Tryz.f91 c91 := kr_
def c92 : Fu := ⟨8, [.t 2], (.sq (.rg [kG 2 (.mv kU)]) (.sq (.rg [kM 3 0, kN 4 3, kF 5 4 0, kL 6 5, kG 7 (.en 2 false (.t 6) (.c .nilFunc)), kM 2 7]) .rt))⟩
theorem k92 : kQ Tryz.f92 c92 := kr_
def c93 : Fu := ⟨16, [.c 2 4 true], (.sq (.rg [kG 2 (.al 68 [ii 0, ii 0, ii 0, ii 0])]) (.sq (.rg [kM 3 0, kG 4 (.ca 170 [.t 3, (kI 32), (kI 32)]), kG 5 (.cv .i64 (.t 4)), kM 6 0, kG 7 (.ca 170 [.t 6, (kI 16), (kI 16)]), kG 8 (.cv .i64 (.t 7)), kM 9 0, kG 10 (.ca 170 [.t 9, (kI 12), (kI 4)]), kG 11 (.cv .i64 (.t 10)), kM 12 0, kG 13 (.ca 170 [.t 12, (kI 0), (kI 12)]), kG 14 (.cv .i64 (.t 13)), kG 15 (.bd [ii 0, ii 0, ii 0, ii 0] [(0, 1, (.t 5)), (1, 1, (.t 8)), (2, 1, (.t 11)), (3, 1, (.t 14))]), kS (.st (.t 2) (.t 15) 4)]) .rt))⟩
theorem k93 : kQ Tryz.f93 c93 := kr_
def c94 : Fu := ⟨8, [.t 4], (.sq (.rg [kG 2 (.bx 24 (.t 0)), kG 4 (.mv (kI 0))]) (.sq (.rg [kG 5 (.ld (.t 2) 6 true), kM 6 1, kG 7 (.ca 83 [.t 5, (kI 4), .t 6]), kM 4 7]) .rt))⟩
theorem k94 : kQ Tryz.f94 c94 := kr_
def c95 : Fu := ⟨17, [.t 4], (.sq (.rg [kG 4 (.mv (kI 0))]) (.sq (.sq (.rg [kM 6 1, kG 7 (.ca 171 [.t 6]), kG 5 (.al 238 [ii 0, ii 0]), kS (.st (.t 5) (.t 7) 2)]) (.sq (.rd [jF 0 0 8 5 0, jL 1 1 9 8, jM 2 0 10 0, jN 3 4 11 10, jF 4 12 12 11 3, jL 5 28 13 12, jG 6 63 [9, 13] 14 (.ib .lss (.t 9) (.t 13))]) (.cd (.t 14) (.sq (.rg [kF 15 5 0, kL 16 15, kM 4 16]) .rt) .sk))) (.sq (.rg [kG 4 (.mv (.c (ii (-1))))]) .rt)))⟩
theorem k95 : kQ Tryz.f95 c95 := kr_
def c96 : Fu := ⟨15, [.t 4], (.sq (.rg [kG 4 (.mv (kI 0))]) (.sq (.sq (.rg [kM 5 1, kM 6 0, kN 7 6, kF 8 7 3, kL 9 8, kG 10 (.cv .u64 (.t 9)), kG 11 (.ib .gtr (.t 5) (.t 10))]) (.cd (.t 11) (.sq (.rg [kG 4 (.mv (.c (ii (-1))))]) .rt) .sk)) (.sq (.rg [kM 12 1, kG 13 (.cv .i64 (.t 12)), kG 14 (.ib .sub (.t 13) (kI 1)), kM 4 14]) .rt)))⟩
theorem k96 : kQ Tryz.f96 c96 := kr_
def c97 : Fu := ⟨13, [.t 4], (.sq (.rg [kG 2 (.bx 24 (.t 0)), kG 4 (.mv (kI 0))]) (.sq (.rg [kG 5 (.ld (.t 2) 6 true), kF 6 2 0, kL 7 6, kG 8 (.ib .add (kI 3) (.t 7)), kF 9 2 3, kL 10 9, kM 11 1, kG 12 (.ca 172 [.t 5, .t 8, .t 10, .t 11]), kM 4 12]) .rt))⟩
theorem k97 : kQ Tryz.f97 c97 := kr_
def c98 : Fu := ⟨19, [.t 4], (.sq (.rg [kG 4 (.mv (.c (.int .u64 0)))]) (.sq (.rg [kM 5 0, kN 6 5, kF 7 6 1, kL 8 7, kG 9 (.ib .add (.t 8) (kI 1)), kN 10 5, kF 11 10 1, kS (.st (.t 11) (.t 9) 1)]) (.sq (.rg [kM 12 0, kN 13 12, kF 14 13 0, kL 15 14, kM 16 1, kG 17 (.ia (.t 15) (.t 16) 1), kL 18 17, kM 4 18]) .rt)))⟩
theorem k98 : kQ Tryz.f98 c98 := kr_
def c99 : Fu := ⟨14, [.t 4], (.sq (.rg [kG 2 (.bx 162 (.t 0)), kG 4 (.mv kU)]) (.sq (.rg [kF 5 2 1, kL 6 5, kG 7 (.ib .geq (.t 6) (kI 1)), kM 8 7, kH 9 8 true (.fa (.t 2) 0), kH 10 8 true (.ld (.t 9) 1 false), kH 11 8 true (.mv (.t 1)), kH 12 8 true (.ib .eql (.t 10) (.t 11)), kG 13 (.pk (.t 8) (.t 12) kU), kM 4 13]) .rt))⟩
theorem k99 : kQ Tryz.f99 c99 := kr_
def c100 : Fu := ⟨18, [.c 2 4 true], (.sq (.rg [kG 2 (.al 162 [ii 0, ii 0, ii 0, ii 0])]) (.sq (.rg [kM 3 0, kG 4 (.ib .quo (.t 3) (.c (.int .u64 4294967296))), kG 5 (.cv .i64 (.t 4)), kM 6 0, kG 7 (.ib .quo (.t 6) (.c (.int .u64 65536))), kG 8 (.ib .rem (.t 7) (.c (.int .u64 65536))), kG 9 (.cv .i64 (.t 8)), kM 10 0, kG 11 (.ib .quo (.t 10) (.c (.int .u64 4096))), kG 12 (.ib .rem (.t 11) (.c (.int .u64 16))), kG 13 (.cv .i64 (.t 12)), kM 14 0, kG 15 (.ib .rem (.t 14) (.c (.int .u64 4096))), kG 16 (.cv .i64 (.t 15)), kG 17 (.bd [ii 0, ii 0, ii 0, ii 0] [(0, 1, (.t 5)), (1, 1, (.t 9)), (2, 1, (.t 13)), (3, 1, (.t 16))]), kS (.st (.t 2) (.t 17) 4)]) .rt))⟩
theorem k100 : kQ Tryz.f100 c100 := kr_
def c101 : Fu := ⟨44, [.t 2, .t 3], (.sq (.rg [kG 1 (.bx 162 (.t 0)), kG 2 (.mv (.c (.int .u64 0))), kG 3 (.mv kU)]) (.sq (.sq (.rg [kF 4 1 0, kL 5 4, kG 6 (.ca 173 [.t 5, (kI 0), (kI 4294967295)]), kG 7 (.nt (.t 6)), kM 8 7, kH 9 8 false (.fa (.t 1) 1), kH 10 8 false (.ld (.t 9) 1 false), kH 11 8 false (.ca 173 [.t 10, (kI 0), (kI 4097)]), kH 12 8 false (.nt (.t 11)), kG 13 (.pk (.t 8) kT (.t 12)), kM 14 13, kH 15 14 false (.fa (.t 1) 2), kH 16 14 false (.ld (.t 15) 1 false), kH 17 14 false (.ca 173 [.t 16, (kI 0), (kI 3)]), kH 18 14 false (.nt (.t 17)), kG 19 (.pk (.t 14) kT (.t 18)), kM 20 19, kH 21 20 false (.fa (.t 1) 3), kH 22 20 false (.ld (.t 21) 1 false), kH 23 20 false (.ca 173 [.t 22, (kI 0), (kI 1024)]), kH 24 20 false (.nt (.t 23)), kG 25 (.pk (.t 20) kT (.t 24))]) (.cd (.t 25) (.sq (.rg [kG 2 (.mv (.c (.int .u64 0))), kG 3 (.mv kU)]) .rt) .sk)) (.sq (.rg [kF 26 1 0, kL 27 26, kG 28 (.cv .u64 (.t 27)), kG 29 (.ib .mul (.t 28) (.c (.int .u64 4294967296))), kF 30 1 1, kL 31 30, kG 32 (.cv .u64 (.t 31)), kG 33 (.ib .mul (.t 32) (.c (.int .u64 65536))), kG 34 (.ib .add (.t 29) (.t 33)), kF 35 1 2, kL 36 35, kG 37 (.cv .u64 (.t 36)), kG 38 (.ib .mul (.t 37) (.c (.int .u64 4096))), kG 39 (.ib .add (.t 34) (.t 38)), kF 40 1 3, kL 41 40, kG 42 (.cv .u64 (.t 41)), kG 43 (.ib .add (.t 39) (.t 42)), kM 2 43, kG 3 (.mv kT)]) .rt)))⟩
theorem k101 : kQ Tryz.f101 c101 := kr_
def c102 : Fu := ⟨32, [.t 8], (.sq (.rg [kG 8 (.mv kU)]) (.sq (.rg [kM 9 0, kN 10 9, kF 11 10 1, kL 12 11, kG 13 (.ib .add (.t 12) (kI 1)), kN 14 9, kF 15 14 1, kS (.st (.t 15) (.t 13) 1)]) (.sq (.sq (.rg [kM 16 0, kN 17 16, kF 18 17 0, kL 19 18, kM 20 1, kG 21 (.ia (.t 19) (.t 20) 1), kL 22 21, kM 23 2, kG 24 (.ib .neq (.t 22) (.t 23))]) (.cd (.t 24) (.sq (.rg [kG 8 (.mv kU)]) .rt) .sk)) (.sq (.rg [kM 25 0, kN 26 25, kF 27 26 0, kL 28 27, kM 29 1, kM 30 3, kG 31 (.ia (.t 28) (.t 29) 1), kS (.st (.t 31) (.t 30) 1)]) (.sq (.rg [kG 8 (.mv kT)]) .rt)))))⟩
theorem k102 : kQ Tryz.f102 c102 := kr_
def c103 : Fu := ⟨9, [.t 2], (.sq (.rg [kG 1 (.bx 162 (.t 0)), kG 2 (.mv (kI 0))]) (.sq (.sq (.rg [kF 3 1 1, kL 4 3, kG 5 (.ib .lss (.t 4) (kI 2))]) (.cd (.t 5) (.sq (.rg [kG 2 (.mv (.c (ii (-1))))]) .rt) .sk)) (.sq (.rg [kF 6 1 1, kL 7 6, kG 8 (.ib .sub (.t 7) (kI 2)), kM 2 8]) .rt)))⟩
theorem k103 : kQ Tryz.f103 c103 := kr_
def c104 : Fu := ⟨16, [.t 4], (.sq (.rg [kG 4 (.mv kU)]) (.sq (.rg [kM 5 1, kG 6 (.ib .geq (.t 5) (kI 0)), kM 7 6, kH 8 7 true (.mv (.t 1)), kH 9 7 true (.mv (.t 0)), kH 10 7 true (.nc (.t 9)), kH 11 7 true (.fa (.t 10) 1), kH 12 7 true (.fa (.t 11) 3), kH 13 7 true (.ld (.t 12) 1 false), kH 14 7 true (.ib .lss (.t 8) (.t 13)), kG 15 (.pk (.t 7) (.t 14) kU), kM 4 15]) .rt))⟩
theorem k104 : kQ Tryz.f104 c104 := kr_
def c105 : Fu := ⟨46, [], (.sq (.rd [jM 0 0 3 0, jM 1 0 4 0, jM 2 0 5 0, jN 3 4 6 5, jF 4 12 7 6 5, jL 5 28 8 7, jM 6 0 9 0, jN 7 64 10 9, jF 8 192 11 10 6, jL 9 448 12 11, jG 10 1020 [8, 12] 13 (.ca 174 [.t 8, .t 12]), jM 11 2044 2 13, jG 12 4092 [2] 14 (.ex (.t 2) 0), jG 13 4092 [2] 15 (.ex (.t 2) 1), jN 14 8189 16 3, jF 15 24573 17 16 8, ⟨16, 57341, [17, 14], kS (.st (.t 17) (.t 14) 1)⟩, jN 17 131071 18 4, jF 18 262143 19 18 9, ⟨19, 524287, [19, 15], kS (.st (.t 19) (.t 15) 4)⟩]) (.sq (.sq (.rd [jM 0 0 20 0, jN 1 1 21 20, jF 2 3 22 21 9, jG 3 7 [22] 23 (.ld (.t 22) 4 true), jM 4 0 24 0, jN 5 16 25 24, jF 6 48 26 25 7, jL 7 112 27 26, jG 8 255 [23, 27] 28 (.ca 152 [.t 23, .t 27]), jG 9 511 [28] 29 (.nt (.t 28))]) (.cd (.t 29) (.sq (.rg [kM 30 0, kM 31 0, kM 32 0, kN 33 32, kF 34 33 0, kG 35 (.ca 175 [.t 34]), kN 36 30, kF 37 36 13, kS (.st (.t 37) (kI 3) 1), kN 38 31, kF 39 38 15, kS (.st (.t 39) (.t 35) 1)]) .rt) .sk)) (.rg [kM 40 0, kN 41 40, kF 42 41 0, kM 43 0, kG 44 (.mf (.func 176) [.t 43] []), kG 45 (.ca 79 [.t 42, .t 44])])))⟩
theorem k105 : kQ Tryz.f105 c105 := kr_
def c106 : Fu := ⟨110, [], (.sq (.rg [kM 3 0, kN 4 3, kF 5 4 10, kL 6 5, kG 7 (.ca 100 [.t 6]), kG 2 (.al 162 [ii 0, ii 0, ii 0, ii 0]), kS (.st (.t 2) (.t 7) 4)]) (.sq (.sq (.rd [jG 0 0 [2] 8 (.ld (.t 2) 4 true), jM 1 0 9 0, jN 2 2 10 9, jF 3 6 11 10 2, jL 4 14 12 11, jG 5 31 [8, 12] 13 (.ca 99 [.t 8, .t 12]), jG 6 63 [13] 14 (.nt (.t 13))]) (.cd (.t 14) (.sq (.rg [kM 15 0, kM 16 0, kM 17 0, kN 18 17, kF 19 18 5, kL 20 19, kN 21 15, kF 22 21 13, kS (.st (.t 22) (kI 3) 1), kN 23 16, kF 24 23 6, kS (.st (.t 24) (.t 20) 1)]) (.sq (.rg [kM 25 0, kG 26 (.ca 177 [.t 25])]) .rt)) .sk)) (.sq (.rd [jM 0 0 27 0, jF 1 0 28 2 2, jL 2 2 29 28, jM 3 0 30 0, jN 4 8 31 30, jF 5 24 32 31 3, jL 6 56 33 32, jG 7 126 [29, 33] 34 (.ca 178 [.t 29, .t 33]), jN 8 255 35 27, jF 9 511 36 35 7, ⟨10, 1023, [36, 34], kS (.st (.t 36) (.t 34) 1)⟩]) (.bl 0 (.sq (.rd [jF 0 0 58 2 1, jL 1 1 59 58, jG 2 3 [59] 60 (.ib .geq (.t 59) (kI 2)), jM 3 7 61 60, ⟨4, 15, [0, 61], kH 62 61 true (.mv (.t 0))⟩, ⟨5, 31, [62, 61], kH 63 61 true (.nc (.t 62))⟩, ⟨6, 63, [63, 61], kH 64 61 true (.fa (.t 63) 0)⟩, ⟨7, 127, [64, 61], kH 65 61 true (.ld (.t 64) 1 false)⟩, ⟨8, 255, [65, 61], kH 66 61 true (.nc (.t 65))⟩, ⟨9, 511, [66, 61], kH 67 61 true (.fa (.t 66) 0)⟩, ⟨10, 1023, [67, 61], kH 68 61 true (.ld (.t 67) 1 false)⟩, ⟨11, 2047, [68, 61], kH 69 61 true (.nc (.t 68))⟩, ⟨12, 4095, [69, 61], kH 70 61 true (.fa (.t 69) 0)⟩, ⟨13, 8191, [70, 61], kH 71 61 true (.fa (.t 70) 2)⟩, ⟨14, 16383, [71, 61], kH 72 61 true (.ld (.t 71) 1 false)⟩, ⟨15, 15, [2, 61], kH 73 61 true (.fa (.t 2) 3)⟩, ⟨16, 32783, [73, 61], kH 74 61 true (.ld (.t 73) 1 false)⟩, ⟨17, 15, [0, 61], kH 75 61 true (.mv (.t 0))⟩, ⟨18, 131087, [75, 61], kH 76 61 true (.nc (.t 75))⟩, ⟨19, 393231, [76, 61], kH 77 61 true (.fa (.t 76) 7)⟩, ⟨20, 917519, [77, 61], kH 78 61 true (.ld (.t 77) 1 false)⟩, ⟨21, 2097151, [72, 74, 78, 61], kH 79 61 true (.ca 179 [.t 72, .t 74, .t 78])⟩, jG 22 4194303 [61, 79] 80 (.pk (.t 61) (.t 79) kU), jM 23 8388607 57 80]) (.cd (.t 57) (.rg [kM 81 0, kN 82 81, kF 83 82 4, kS (.st (.t 83) (kI 1) 1)]) (.sq (.rg [kM 85 0, kN 86 85, kF 87 86 8, kL 88 87, kG 89 (.ib .geq (.t 88) (kI 0)), kM 84 89]) (.cd (.t 84) (.rg [kM 90 0, kN 91 90, kF 92 91 4, kS (.st (.t 92) (kI 4) 1)]) (.sq (.rg [kM 94 0, kN 95 94, kF 96 95 19, kL 97 96, kM 93 97]) (.cd (.t 93) (.sq (.rg [kM 98 0, kM 99 0, kM 100 0, kN 101 100, kF 102 101 5, kL 103 102, kN 104 98, kF 105 104 13, kS (.st (.t 105) (kI 6) 1), kN 106 99, kF 107 106 6, kS (.st (.t 107) (.t 103) 1)]) (.rg [kM 108 0, kG 109 (.ca 177 [.t 108])])) (.sq (.rg [kM 37 0, kM 38 0, kM 39 0, kN 40 39, kF 41 40 0, kL 42 41, kG 43 (.ca 180 [.t 42]), kN 44 37, kF 45 44 11, kS (.st (.t 45) (.t 43) 1), kN 46 38, kF 47 46 4, kS (.st (.t 47) (kI 2) 1)]) (.sq (.rg [kM 48 0, kN 49 48, kF 50 49 11, kL 51 50, kN 52 51, kF 53 52 5, kL 54 53]) (.cd (.t 54) (.rg [kM 55 0, kG 56 (.ca 109 [.t 55])]) .sk)))))))))))))⟩
theorem k106 : kQ Tryz.f106 c106 := kr_
def c107 : Fu := ⟨33, [], (.sq (.rd [jM 0 0 6 0, jM 1 0 7 0, jM 2 0 8 0, jN 3 4 9 8, jF 4 12 10 9 1, jL 5 28 11 10, jM 6 0 12 0, jN 7 64 13 12, jF 8 192 14 13 2, jL 9 448 15 14, jM 10 0 16 1, jM 11 0 17 2, jM 12 0 18 0, jN 13 4096 19 18, jF 14 12288 20 19 3, jL 15 28672 21 20, jG 16 65532 [11, 15, 16, 17, 21] 22 (.bd [ii 0, ii 0, ii 0, ii 0, ii 0] [(0, 1, (.t 11)), (1, 1, (.t 15)), (2, 1, (.t 16)), (3, 1, (.t 17)), (4, 1, (.t 21))]), jM 17 0 23 0, jN 18 131072 24 23, jF 19 393216 25 24 5, jL 20 917504 26 25, jN 21 2097149 27 6, jF 22 4194301 28 27 14, ⟨23, 8388605, [28, 22], kS (.st (.t 28) (.t 22) 5)⟩, jN 24 16777215 29 7, jF 25 33554431 30 29 6, ⟨26, 67108863, [30, 26], kS (.st (.t 30) (.t 26) 1)⟩]) (.rg [kM 31 0, kG 32 (.ca 177 [.t 31])]))⟩
theorem k107 : kQ Tryz.f107 c107 := kr_
def c108 : Fu := ⟨86, [.t 2], (.sq (.rg [kG 2 (.mv kU)]) (.sq (.sq (.rg [kM 4 0, kN 5 4, kF 6 5 5, kL 7 6]) (.cd (.t 7) (.sq (.rg [kG 2 (.mv kU)]) .rt) .sk)) (.sq (.sq (.rg [kM 8 0, kN 9 8, kF 10 9 1, kL 11 10, kG 12 (.ib .eql (.t 11) (kI 0))]) (.cd (.t 12) (.sq (.rg [kM 13 0, kM 14 0, kN 15 14, kF 16 15 0, kL 17 16, kN 18 17, kF 19 18 0, kL 20 19, kN 21 20, kF 22 21 6, kL 23 22, kG 24 (.ca 98 [.t 23, (kI 2)]), kG 25 (.ca 123 [.t 24]), kN 26 13, kF 27 26 3, kS (.st (.t 27) (.t 25) 1)]) (.sq (.rd [jM 0 0 28 0, jN 1 1 29 28, jF 2 3 30 29 0, jL 3 7 31 30, jM 4 0 32 0, jN 5 16 33 32, jF 6 48 34 33 3, jL 7 112 35 34, jG 8 255 [31, 35] 36 (.ca 181 [.t 31, .t 35])]) (.sq (.rg [kM 37 0, kG 38 (.ca 182 [.t 37])]) (.sq (.sq (.rg [kM 39 0, kN 40 39, kF 41 40 5, kL 42 41, kG 43 (.nt (.t 42))]) (.cd (.t 43) (.rg [kM 44 0, kG 45 (.ca 183 [.t 44])]) .sk)) (.sq (.rg [kG 2 (.mv kT)]) .rt))))) .sk)) (.sq (.rg [kM 46 0, kN 47 46, kF 48 47 4, kL 49 48, kG 50 (.ca 167 [.t 49])]) (.sq (.sq (.rg [kM 51 0, kN 52 51, kF 53 52 4, kL 54 53, kN 55 54, kF 56 55 6, kL 57 56, kG 58 (.nt (.t 57))]) (.cd (.t 58) (.sq (.rg [kG 2 (.mv kT)]) .rt) .sk)) (.sq (.rg [kM 59 0, kN 60 59, kF 61 60 4, kL 62 61, kG 63 (.ca 168 [.t 62]), kM 3 63]) (.sq (.sq (.rg [kM 64 3, kG 65 (.len (.t 64)), kG 66 (.ib .gtr (.t 65) (kI 0))]) (.cd (.t 66) (.sq (.rg [kM 67 0, kM 68 3, kG 69 (.ia (.t 68) (kI 0) 1), kL 70 69, kN 71 67, kF 72 71 2, kS (.st (.t 72) (.t 70) 1)]) (.rd [jM 0 0 73 0, jN 1 1 74 73, jF 2 3 75 74 0, jL 3 7 76 75, jN 4 15 77 76, jF 5 31 78 77 1, jL 6 63 79 78, jM 7 0 80 3, jG 8 128 [80] 81 (.sl 1 (.t 80) (some (kI 1)) none none), jG 9 511 [79, 81] 82 (.ca 184 [.t 79, .t 81])])) .sk)) (.sq (.rg [kM 83 0, kN 84 83, kF 85 84 5, kS (.st (.t 85) kT 1)]) (.sq (.rg [kG 2 (.mv kT)]) .rt)))))))))⟩
theorem k108 : kQ Tryz.f108 c108 := kr_
def c109 : Fu := ⟨32, [], (.sq (.sq (.rg [kM 2 0, kN 3 2, kF 4 3 11, kL 5 4, kN 6 5, kF 7 6 2, kL 8 7, kG 9 (.ib .lss (.t 8) (kI 0))]) (.cd (.t 9) (.sq (.rg [kM 10 0, kM 11 0, kN 12 10, kF 13 12 19, kS (.st (.t 13) kT 1), kN 14 11, kF 15 14 4, kS (.st (.t 15) (kI 0) 1)]) .rt) .sk)) (.rg [kM 16 0, kM 17 0, kM 18 0, kM 19 0, kN 20 19, kF 21 20 11, kL 22 21, kN 23 22, kF 24 23 2, kL 25 24, kN 26 16, kF 27 26 8, kS (.st (.t 27) (.t 25) 1), kN 28 17, kF 29 28 9, kS (.st (.t 29) (kI 0) 1), kN 30 18, kF 31 30 4, kS (.st (.t 31) (kI 3) 1)]))⟩
theorem k109 : kQ Tryz.f109 c109 := kr_
def c110 : Fu := ⟨20, [], (.sq (.rg [kM 6 0, kN 7 6, kF 8 7 1, kL 9 8, kG 10 (.ib .add (.t 9) (kI 1)), kN 11 6, kF 12 11 1, kS (.st (.t 12) (.t 10) 1)]) (.rg [kM 13 0, kN 14 13, kF 15 14 0, kL 16 15, kM 17 1, kM 18 2, kG 19 (.ia (.t 16) (.t 17) 1), kS (.st (.t 19) (.t 18) 1)]))⟩
theorem k110 : kQ Tryz.f110 c110 := kr_
def c111 : Fu := ⟨47, [.t 6], (.sq (.rg [kG 3 (.bx 24 (.t 0)), kG 6 (.mv (kI 0))]) (.sq (.sq (.rg [kG 7 (.ld (.t 3) 6 true), kG 8 (.ca 185 [.t 7]), kG 9 (.nt (.t 8)), kM 10 9, kH 11 10 false (.mv (.t 1)), kH 12 10 false (.ib .lss (.t 11) (kI 0)), kG 13 (.pk (.t 10) kT (.t 12)), kM 14 13, kH 15 14 false (.mv (.t 1)), kH 16 14 false (.fa (.t 3) 1), kH 17 14 false (.ld (.t 16) 1 false), kH 18 14 false (.ib .geq (.t 15) (.t 17)), kG 19 (.pk (.t 14) kT (.t 18)), kM 20 19, kH 21 20 false (.mv (.t 2)), kH 22 20 false (.ib .lss (.t 21) (kI 0)), kG 23 (.pk (.t 20) kT (.t 22)), kM 24 23, kH 25 24 false (.mv (.t 2)), kH 26 24 false (.fa (.t 3) 2), kH 27 24 false (.ld (.t 26) 1 false), kH 28 24 false (.ib .geq (.t 25) (.t 27)), kG 29 (.pk (.t 24) kT (.t 28))]) (.cd (.t 29) (.sq (.rg [kG 6 (.mv (.c (ii (-1))))]) .rt) .sk)) (.sq (.rg [kF 30 3 0, kL 31 30, kG 32 (.ib .add (kI 3) (.t 31)), kF 33 3 3, kL 34 33, kG 35 (.ib .mul (kI 2) (.t 34)), kG 36 (.ib .add (.t 32) (.t 35)), kF 37 3 1, kL 38 37, kG 39 (.ib .add (.t 36) (.t 38)), kM 40 1, kF 41 3 2, kL 42 41, kG 43 (.ib .mul (.t 40) (.t 42)), kG 44 (.ib .add (.t 39) (.t 43)), kM 45 2, kG 46 (.ib .add (.t 44) (.t 45)), kM 6 46]) .rt)))⟩
theorem k111 : kQ Tryz.f111 c111 := kr_
def c112 : Fu := ⟨17, [.t 4], (.sq (.rg [kG 2 (.bx 24 (.t 0)), kG 4 (.mv (kI 0))]) (.sq (.rg [kG 5 (.ld (.t 2) 6 true), kF 6 2 0, kL 7 6, kG 8 (.ib .add (kI 3) (.t 7)), kF 9 2 3, kL 10 9, kG 11 (.ib .mul (kI 2) (.t 10)), kG 12 (.ib .add (.t 8) (.t 11)), kF 13 2 1, kL 14 13, kM 15 1, kG 16 (.ca 172 [.t 5, .t 12, .t 14, .t 15]), kM 4 16]) .rt))⟩
theorem k112 : kQ Tryz.f112 c112 := kr_
def c113 : Fu := ⟨14, [.t 4], (.sq (.rg [kG 4 (.mv (kI 0))]) (.sq (.sq (.rg [kM 5 0, kM 6 1, kG 7 (.ca 186 [.t 5, .t 6]), kG 8 (.nt (.t 7))]) (.cd (.t 8) (.sq (.rg [kG 4 (.mv (kI 0))]) .rt) .sk)) (.sq (.sq (.rg [kM 9 0, kM 10 1, kG 11 (.ca 187 [.t 9, .t 10])]) (.cd (.t 11) (.sq (.rg [kM 12 0, kM 4 12]) .rt) .sk)) (.sq (.rg [kM 13 1, kM 4 13]) .rt))))⟩
theorem k113 : kQ Tryz.f113 c113 := kr_
def c114 : Fu := ⟨22, [.t 2], (.sq (.rg [kG 2 (.mv kU)]) (.sq (.sq (.rg [kM 3 0, kN 4 3, kF 5 4 2, kL 6 5]) (.cd (.t 6) (.sq (.rg [kG 2 (.mv kU)]) .rt) .sk)) (.sq (.rg [kM 7 0, kN 8 7, kF 9 8 0, kL 10 9, kG 11 (.ca 127 [.t 10])]) (.sq (.rg [kM 12 0, kM 13 0, kN 14 13, kF 15 14 0, kL 16 15, kN 17 16, kF 18 17 4, kL 19 18, kN 20 12, kF 21 20 2, kS (.st (.t 21) (.t 19) 1)]) (.sq (.rg [kG 2 (.mv kT)]) .rt)))))⟩
theorem k114 : kQ Tryz.f114 c114 := kr_
def c116 : Fu := ⟨7, [.t 2], (.sq (.rg [kG 2 (.mv (kI 0))]) (.sq (.rg [kM 3 0, kN 4 3, kF 5 4 1, kL 6 5, kM 2 6]) .rt))⟩
theorem k116 : kQ Tryz.f116 c116 := kr_
def c117 : Fu := ⟨10, [.t 2], (.sq (.rg [kG 2 (.mv (.c (.slice none 0 0)))]) (.sq (.sq (.rg [kM 3 0, kG 4 (.ca 188 [.t 3])]) (.cd (.t 4) (.sq (.rg [kG 2 (.mv (.c (.slice none 0 0)))]) .rt) .sk)) (.sq (.rg [kM 5 0, kN 6 5, kF 7 6 5, kL 8 7, kG 9 (.ca 189 [.t 8]), kM 2 9]) .rt)))⟩
theorem k117 : kQ Tryz.f117 c117 := kr_
def c118 : Fu := ⟨8, [.t 2], (.sq (.rg [kG 2 (.mv (.c (.slice none 0 0)))]) (.sq (.rg [kM 3 0, kN 4 3, kF 5 4 1, kL 6 5, kG 7 (.ca 189 [.t 6]), kM 2 7]) .rt))⟩
theorem k118 : kQ Tryz.f118 c118 := kr_
def c119 : Fu := ⟨22, [], (.sq (.rg [kM 8 0, kM 9 0, kM 10 0, kM 11 1, kM 12 2, kM 13 3, kN 14 8, kF 15 14 1, kS (.st (.t 15) (.t 11) 1), kN 16 9, kF 17 16 2, kS (.st (.t 17) (.t 12) 1), kN 18 10, kF 19 18 3, kS (.st (.t 19) (.t 13) 1)]) (.rg [kM 20 0, kG 21 (.ca 190 [.t 20])]))⟩
theorem k119 : kQ Tryz.f119 c119 := kr_
def c120 : Fu := ⟨50, [], (.sq (.rg [kM 2 0, kM 3 0, kN 4 3, kF 5 4 0, kG 6 (.ca 175 [.t 5]), kN 7 2, kF 8 7 14, kS (.st (.t 8) (.t 6) 1)]) (.sq (.rg [kM 9 0, kM 10 0, kN 11 10, kF 12 11 8, kL 13 12, kG 14 (.ca 41 [.t 13]), kN 15 9, kF 16 15 16, kS (.st (.t 16) (.t 14) 1)]) (.sq (.sq (.rg [kM 17 0, kN 18 17, kF 19 18 16, kL 20 19, kG 21 (.ib .neq (.t 20) (kI 0))]) (.cd (.t 21) .rt .sk)) (.sq (.rg [kM 22 0, kM 23 0, kN 24 23, kF 25 24 7, kL 26 25, kN 27 22, kF 28 27 13, kS (.st (.t 28) (.t 26) 1)]) (.sq (.rg [kM 29 0, kM 30 0, kN 31 30, kF 32 31 8, kL 33 32, kG 34 (.ca 43 [.t 33]), kN 35 29, kF 36 35 12, kS (.st (.t 36) (.t 34) 1)]) (.sq (.rg [kM 37 0, kN 38 37, kF 39 38 12, kL 40 39, kG 41 (.ib .geq (.t 40) (kI 0))]) (.cd (.t 41) (.rg [kM 42 0, kN 43 42, kF 44 43 0, kM 45 0, kG 46 (.mf (.func 191) [.t 45] []), kG 47 (.ca 79 [.t 44, .t 46])]) (.rg [kM 48 0, kG 49 (.ca 192 [.t 48])]))))))))⟩
theorem k120 : kQ Tryz.f120 c120 := kr_
def c121 : Fu := ⟨38, [.t 4, .t 5], (.sq (.rg [kG 4 (.mv (kI 0)), kG 5 (.mv (.c (.slice none 0 0)))]) (.sq (.sq (.rg [kM 6 1, kG 7 (.ib .lss (.t 6) (kI 0)), kM 8 7, kH 9 8 false (.mv (.t 1)), kH 10 8 false (.ib .geq (.t 9) (kI 3)), kG 11 (.pk (.t 8) kT (.t 10)), kM 12 11, kH 13 12 false (.mv (.t 0)), kH 14 12 false (.mv (.t 1)), kH 15 12 false (.nc (.t 13)), kH 16 12 false (.fa (.t 15) 0), kH 17 12 false (.iaa (.t 16) (.t 14) 3 2), kH 18 12 false (.fa (.t 17) 1), kH 19 12 false (.ld (.t 18) 1 false), kH 20 12 false (.len (.t 19)), kH 21 12 false (.ib .eql (.t 20) (kI 0)), kG 22 (.pk (.t 12) kT (.t 21))]) (.cd (.t 22) (.sq (.rg [kG 4 (.mv (kI 0)), kG 5 (.mv (.c (.slice none 0 0)))]) .rt) .sk)) (.sq (.rd [jM 0 0 23 0, jM 1 0 24 1, jN 2 1 25 23, jF 3 5 26 25 0, jG 4 15 [26, 24] 27 (.iaa (.t 26) (.t 24) 3 2), jF 5 31 28 27 0, jL 6 63 29 28, jM 7 0 30 0, jM 8 0 31 1, jN 9 128 32 30, jF 10 640 33 32 0, jG 11 1920 [33, 31] 34 (.iaa (.t 33) (.t 31) 3 2), jF 12 3968 35 34 1, jL 13 8064 36 35, jG 14 16256 [36] 37 (.ca 189 [.t 36]), jM 15 32767 4 29, jM 16 65535 5 37]) .rt)))⟩
theorem k121 : kQ Tryz.f121 c121 := kr_
def c122 : Fu := ⟨27, [], (.rd [jM 0 0 2 0, jM 1 0 3 0, jM 2 0 4 0, jN 3 4 5 4, jF 4 12 6 5 0, jL 5 28 7 6, jN 6 60 8 7, jF 7 124 9 8 0, jL 8 252 10 9, jN 9 508 11 10, jF 10 1020 12 11 8, jL 11 2044 13 12, jM 12 0 14 0, jN 13 4096 15 14, jF 14 12288 16 15 6, jL 15 28672 17 16, jN 16 61440 18 17, jF 17 126976 19 18 1, jL 18 258048 20 19, jG 19 520192 [20] 21 (.bs 3 1 [ii 0] [(0, 1, (.t 20))]), jG 20 1048572 [13, 21] 22 (.ca 193 [.t 13, .t 21]), jN 21 2097149 23 2, jF 22 4194301 24 23 8, ⟨23, 8388605, [24, 22], kS (.st (.t 24) (.t 22) 1)⟩, jN 24 16777215 25 3, jF 25 33554431 26 25 1, ⟨26, 67108863, [26], kS (.st (.t 26) (kI 3) 1)⟩])⟩
theorem k122 : kQ Tryz.f122 c122 := kr_
def c123 : Fu := ⟨7, [.t 2], (.sq (.rg [kG 2 (.mv (kI 0))]) (.sq (.sq (.rg [kM 3 0, kG 4 (.ib .gtr (.t 3) (.c (.int .u64 4611686018427387903)))]) (.cd (.t 4) (.sq (.rg [kG 2 (.mv (kI 4611686018427387903))]) .rt) .sk)) (.sq (.rg [kM 5 0, kG 6 (.cv .i64 (.t 5)), kM 2 6]) .rt)))⟩
theorem k123 : kQ Tryz.f123 c123 := kr_
def c124 : Fu := ⟨10, [.t 4], (.sq (.rg [kG 4 (.mv kP)]) (.sq (.rg [kM 5 0, kM 6 1, kG 7 (.bs 3 1 [ii 0] [(0, 1, (.t 6))]), kG 8 (.bd [(.pointer none), (.slice none 0 0), (.bool false)] [(0, 1, (.t 5)), (1, 1, (.t 7))]), kG 9 (.bx 204 (.t 8)), kM 4 9]) .rt))⟩
theorem k124 : kQ Tryz.f124 c124 := kr_
def c125 : Fu := ⟨75, [.t 2], (.sq (.rg [kG 2 (.mv kU)]) (.sq (.sq (.rg [kM 4 0, kN 5 4, kF 6 5 2, kL 7 6]) (.cd (.t 7) (.sq (.rg [kG 2 (.mv kU)]) .rt) .sk)) (.sq (.rd [jM 0 0 8 0, jN 1 1 9 8, jF 2 3 10 9 0, jL 3 7 11 10, jN 4 15 12 11, jF 5 31 13 12 7, jL 6 63 14 13, jM 7 0 15 0, jN 8 128 16 15, jF 9 384 17 16 0, jL 10 896 18 17, jN 11 1920 19 18, jF 12 3968 20 19 6, jL 13 8064 21 20, jM 14 0 22 0, jN 15 16384 23 22, jF 16 49152 24 23 0, jL 17 114688 25 24, jN 18 245760 26 25, jF 19 507904 27 26 0, jG 20 1032192 [27] 28 (.ld (.t 27) 6 true), jM 21 0 29 0, jN 22 2097152 30 29, jF 23 6291456 31 30 1, jL 24 14680064 32 31, jM 25 0 33 0, jN 26 33554432 34 33, jF 27 100663296 35 34 1, jL 28 234881024 36 35, jG 29 503316480 [36] 37 (.len (.t 36)), jG 30 1040187392 [37] 38 (.ib .sub (.t 37) (kI 1)), jG 31 2145386496 [32, 38] 39 (.ia (.t 32) (.t 38) 1), jL 32 4292870144 40 39, jG 33 8589918208 [28, 40] 41 (.ca 112 [.t 28, .t 40]), jG 34 17179869056 [21, 41] 42 (.ca 98 [.t 21, .t 41]), jG 35 34359738367 [14, 42] 43 (.ca 134 [.t 14, .t 42]), jM 36 68719476735 3 43]) (.sq (.sq (.rd [jM 0 0 44 3, jG 1 1 [44] 45 (.ib .lss (.t 44) (kI 0)), jM 2 3 46 45, ⟨3, 7, [0, 46], kH 47 46 false (.mv (.t 0))⟩, ⟨4, 15, [47, 46], kH 48 46 false (.nc (.t 47))⟩, ⟨5, 31, [48, 46], kH 49 46 false (.fa (.t 48) 1)⟩, ⟨6, 63, [49, 46], kH 50 46 false (.ld (.t 49) 1 false)⟩, ⟨7, 127, [50, 46], kH 51 46 false (.len (.t 50))⟩, ⟨8, 7, [0, 46], kH 52 46 false (.mv (.t 0))⟩, ⟨9, 263, [52, 46], kH 53 46 false (.nc (.t 52))⟩, ⟨10, 775, [53, 46], kH 54 46 false (.fa (.t 53) 0)⟩, ⟨11, 1799, [54, 46], kH 55 46 false (.ld (.t 54) 1 false)⟩, ⟨12, 3847, [55, 46], kH 56 46 false (.nc (.t 55))⟩, ⟨13, 7943, [56, 46], kH 57 46 false (.fa (.t 56) 0)⟩, ⟨14, 16135, [57, 46], kH 58 46 false (.fa (.t 57) 1)⟩, ⟨15, 32519, [58, 46], kH 59 46 false (.ld (.t 58) 1 false)⟩, ⟨16, 65535, [51, 59, 46], kH 60 46 false (.ib .eql (.t 51) (.t 59))⟩, jG 17 131071 [46, 60] 61 (.pk (.t 46) kT (.t 60))]) (.cd (.t 61) (.rg [kM 62 0, kN 63 62, kF 64 63 2, kS (.st (.t 64) kT 1)]) (.rg [kM 65 0, kM 66 0, kN 67 66, kF 68 67 1, kL 69 68, kM 70 3, kG 71 (.bs 3 1 [ii 0] [(0, 1, (.t 70))]), kG 72 (.ap 53 3 1 8 [ii 0] (.t 69) (.t 71)), kN 73 65, kF 74 73 1, kS (.st (.t 74) (.t 72) 1)]))) (.sq (.rg [kG 2 (.mv kT)]) .rt)))))⟩
theorem k125 : kQ Tryz.f125 c125 := kr_
def c126 : Fu := ⟨26, [.t 6], (.sq (.rg [kG 6 (.mv kU)]) (.sq (.rg [kM 10 0, kN 11 10, kF 12 11 2, kL 13 12, kM 14 1, kM 15 2, kG 16 (.ca 194 [.t 13, .t 14, .t 15]), kM 9 16, kG 17 (.ex (.t 9) 0), kG 18 (.ex (.t 9) 1), kM 7 17, kM 8 18]) (.sq (.rg [kM 19 0, kN 20 19, kF 21 20 1, kL 22 21, kM 23 7, kG 24 (.ca 184 [.t 22, .t 23])]) (.sq (.rg [kM 25 8, kM 6 25]) .rt))))⟩
theorem k126 : kQ Tryz.f126 c126 := kr_
def c127 : Fu := ⟨165, [.t 2], (.sq (.rg [kG 2 (.mv kU)]) (.sq (.sq (.rg [kM 5 0, kN 6 5, kF 7 6 4, kL 8 7]) (.cd (.t 8) (.sq (.rg [kG 2 (.mv kU)]) .rt) .sk)) (.sq (.rd [jM 0 0 9 0, jN 1 1 10 9, jF 2 3 11 10 0, jL 3 7 12 11, jM 4 0 13 0, jN 5 16 14 13, jF 6 48 15 14 1, jL 7 112 16 15, jG 8 240 [16] 17 (.len (.t 16)), jM 9 15 3 12, jM 10 1023 4 17]) (.sq (.bl 0 (.sq (.rg [kM 51 0, kN 52 51, kF 53 52 2, kL 54 53, kM 55 4, kG 56 (.ib .sub (.t 55) (kI 1)), kG 57 (.ib .lss (.t 54) (.t 56)), kM 50 57]) (.cd (.t 50) (.sq (.rd [jM 0 0 58 3, jN 1 1 59 58, jF 2 3 60 59 0, jL 3 7 61 60, jM 4 0 62 3, jN 5 16 63 62, jF 6 48 64 63 2, jL 7 112 65 64, jM 8 0 66 0, jN 9 256 67 66, jF 10 768 68 67 1, jL 11 1792 69 68, jM 12 0 70 0, jN 13 4096 71 70, jF 14 12288 72 71 2, jL 15 28672 73 72, jG 16 65280 [69, 73] 74 (.ia (.t 69) (.t 73) 1), jL 17 130816 75 74, jG 18 262128 [65, 75] 76 (.ib .add (.t 65) (.t 75)), jM 19 0 77 0, jN 20 524288 78 77, jF 21 1572864 79 78 1, jL 22 3670016 80 79, jM 23 0 81 0, jN 24 8388608 82 81, jF 25 25165824 83 82 2, jL 26 58720256 84 83, jG 27 125829120 [84] 85 (.ib .add (.t 84) (kI 1)), jG 28 267911168 [80, 85] 86 (.ia (.t 80) (.t 85) 1), jL 29 536346624 87 86, jG 30 1073217536 [87] 88 (.ib .add (.t 87) (kI 1)), jG 31 2146959360 [88] 89 (.cv .u64 (.t 88)), jG 32 4294967295 [61, 76, 89] 90 (.ca 110 [.t 61, .t 76, .t 89])]) (.rg [kM 91 0, kN 92 91, kF 93 92 2, kL 94 93, kG 95 (.ib .add (.t 94) (kI 1)), kN 96 91, kF 97 96 2, kS (.st (.t 97) (.t 95) 1)])) (.sq (.rg [kM 99 0, kN 100 99, kF 101 100 2, kL 102 101, kM 103 4, kG 104 (.ib .sub (.t 103) (kI 1)), kG 105 (.ib .eql (.t 102) (.t 104)), kM 98 105]) (.cd (.t 98) (.sq (.rd [jM 0 0 106 0, jM 1 0 107 3, jN 2 2 108 107, jF 3 6 109 108 0, jL 4 14 110 109, jM 5 0 111 3, jN 6 32 112 111, jF 7 96 113 112 1, jL 8 224 114 113, jG 9 510 [110, 114] 115 (.ca 98 [.t 110, .t 114]), jN 10 1023 116 106, jF 11 2047 117 116 3, ⟨12, 4095, [117, 115], kS (.st (.t 117) (.t 115) 1)⟩]) (.rg [kM 118 0, kN 119 118, kF 120 119 2, kL 121 120, kG 122 (.ib .add (.t 121) (kI 1)), kN 123 118, kF 124 123 2, kS (.st (.t 124) (.t 122) 1)])) (.sq (.rg [kM 126 0, kN 127 126, kF 128 127 2, kL 129 128, kM 130 4, kG 131 (.ib .eql (.t 129) (.t 130)), kM 125 131]) (.cd (.t 125) (.sq (.rd [jM 0 0 132 3, jN 1 1 133 132, jF 2 3 134 133 0, jL 3 7 135 134, jM 4 0 136 3, jN 5 16 137 136, jF 6 48 138 137 2, jL 7 112 139 138, jM 8 0 140 0, jN 9 256 141 140, jF 10 768 142 141 1, jL 11 1792 143 142, jM 12 0 144 4, jG 13 4096 [144] 145 (.ib .sub (.t 144) (kI 1)), jG 14 16128 [143, 145] 146 (.ia (.t 143) (.t 145) 1), jL 15 32512 147 146, jG 16 65520 [139, 147] 148 (.ib .add (.t 139) (.t 147)), jM 17 0 149 3, jM 18 0 150 0, jN 19 262144 151 150, jF 20 786432 152 151 3, jL 21 1835008 153 152, jG 22 4063232 [149, 153] 154 (.ca 133 [.t 149, .t 153]), jG 23 8257536 [154] 155 (.ib .add (.t 154) (kI 1)), jG 24 16646144 [155] 156 (.cv .u64 (.t 155)), jG 25 33554431 [135, 148, 156] 157 (.ca 110 [.t 135, .t 148, .t 156])]) (.rg [kM 158 0, kN 159 158, kF 160 159 2, kL 161 160, kG 162 (.ib .add (.t 161) (kI 1)), kN 163 158, kF 164 163 2, kS (.st (.t 164) (.t 162) 1)])) (.sq (.rd [jM 0 0 18 0, jM 1 0 19 3, jN 2 2 20 19, jF 3 6 21 20 0, jL 4 14 22 21, jM 5 0 23 3, jN 6 32 24 23, jF 7 96 25 24 1, jL 8 224 26 25, jM 9 0 27 0, jN 10 512 28 27, jF 11 1536 29 28 3, jL 12 3584 30 29, jM 13 0 31 0, jN 14 8192 32 31, jF 15 24576 33 32 3, jL 16 57344 34 33, jM 17 0 35 0, jN 18 131072 36 35, jF 19 393216 37 36 1, jL 20 917504 38 37, jG 21 1966080 [38] 39 (.ia (.t 38) (kI 0) 1), jL 22 4063232 40 39, jG 23 8380416 [34, 40] 41 (.ca 195 [.t 34, .t 40]), jG 24 16777214 [22, 26, 30, 41] 42 (.ca 102 [.t 22, .t 26, .t 30, .t 41]), jN 25 33554431 43 18, jF 26 67108863 44 43 4, ⟨27, 134217727, [44, 42], kS (.st (.t 44) (.t 42) 1)⟩]) (.rg [kM 45 0, kM 46 4, kG 47 (.ib .sub (.t 46) (kI 1)), kN 48 45, kF 49 48 2, kS (.st (.t 49) (.t 47) 1)]))))))))) (.sq (.rg [kG 2 (.mv kT)]) .rt)))))⟩
theorem k127 : kQ Tryz.f127 c127 := kr_
def c128 : Fu := ⟨10, [.t 2], (.sq (.rg [kG 2 (.mv kP)]) (.sq (.rg [kM 3 0, kM 4 0, kN 5 4, kF 6 5 1, kL 7 6, kG 8 (.ca 197 [.t 7]), kG 9 (.ca 196 [.t 3, .t 8]), kM 2 9]) .rt))⟩
theorem k128 : kQ Tryz.f128 c128 := kr_
def c129 : Fu := ⟨42, [.t 4], (.sq (.rg [kG 4 (.mv (.c (.slice none 0 0)))]) (.sq (.sq (.rg [kM 7 0, kM 8 1, kG 9 (.ca 198 [.t 7, .t 8]), kG 10 (.nt (.t 9))]) (.cd (.t 10) (.sq (.rg [kG 4 (.mv (.c (.slice none 0 0)))]) .rt) .sk)) (.sq (.rg [kG 5 (.mv (.c (.slice none 0 0)))]) (.sq (.sq (.rg [kM 11 1, kM 6 11]) (.bl 0 (.lp (.sq (.sq (.rg [kM 12 6, kG 13 (.ib .geq (.t 12) (kI 0)), kM 14 13, kH 15 14 true (.mv (.t 5)), kH 16 14 true (.len (.t 15)), kH 17 14 true (.mv (.t 0)), kH 18 14 true (.nc (.t 17)), kH 19 14 true (.fa (.t 18) 1), kH 20 14 true (.fa (.t 19) 1), kH 21 14 true (.ld (.t 20) 1 false), kH 22 14 true (.ib .lss (.t 16) (.t 21)), kG 23 (.pk (.t 14) (.t 22) kU)]) (.cd (.t 23) .sk (.ex 0))) (.sq (.bl 1 (.rg [kM 37 5, kM 38 6, kG 39 (.bs 3 1 [ii 0] [(0, 1, (.t 38))]), kG 40 (.ap 53 3 1 8 [ii 0] (.t 37) (.t 39)), kM 5 40])) (.rd [jM 0 0 24 0, jM 1 0 25 0, jN 2 2 26 25, jF 3 6 27 26 0, jL 4 14 28 27, jM 5 0 29 0, jN 6 32 30 29, jF 7 96 31 30 1, jG 8 224 [31] 32 (.ld (.t 31) 6 true), jM 9 0 33 6, jG 10 992 [32, 33] 34 (.ca 139 [.t 32, .t 33]), jG 11 2046 [28, 34] 35 (.ca 29 [.t 28, .t 34]), jG 12 4095 [24, 35] 36 (.ca 199 [.t 24, .t 35]), jM 13 8191 6 36])))))) (.sq (.rg [kM 41 5, kM 4 41]) .rt)))))⟩
theorem k129 : kQ Tryz.f129 c129 := kr_
def c130 : Fu := ⟨54, [.t 4], (.sq (.rg [kG 4 (.mv (.c (.slice none 0 0)))]) (.sq (.rg [kG 5 (.mv (.c (.slice none 0 0)))]) (.sq (.sq (.rg [kM 7 1, kM 6 7]) (.bl 0 (.lp (.sq (.sq (.rg [kM 8 6, kG 9 (.ib .geq (.t 8) (kI 0)), kM 10 9, kH 11 10 true (.mv (.t 6)), kH 12 10 true (.mv (.t 0)), kH 13 10 true (.nc (.t 12)), kH 14 10 true (.fa (.t 13) 0), kH 15 10 true (.fa (.t 14) 1), kH 16 10 true (.ld (.t 15) 1 false), kH 17 10 true (.ib .lss (.t 11) (.t 16)), kG 18 (.pk (.t 10) (.t 17) kU), kM 19 18, kH 20 19 true (.mv (.t 5)), kH 21 19 true (.len (.t 20)), kH 22 19 true (.mv (.t 0)), kH 23 19 true (.nc (.t 22)), kH 24 19 true (.fa (.t 23) 0), kH 25 19 true (.fa (.t 24) 1), kH 26 19 true (.ld (.t 25) 1 false), kH 27 19 true (.ib .lss (.t 21) (.t 26)), kG 28 (.pk (.t 19) (.t 27) kU)]) (.cd (.t 28) .sk (.ex 0))) (.sq (.bl 1 (.rg [kM 49 5, kM 50 6, kG 51 (.bs 3 1 [ii 0] [(0, 1, (.t 50))]), kG 52 (.ap 53 3 1 8 [ii 0] (.t 49) (.t 51)), kM 5 52])) (.rd [jM 0 0 29 0, jN 1 1 30 29, jF 2 3 31 30 7, jL 3 7 32 31, jM 4 0 33 0, jN 5 16 34 33, jF 6 48 35 34 6, jL 7 112 36 35, jN 8 240 37 36, jF 9 496 38 37 0, jL 10 1008 39 38, jM 11 0 40 0, jN 12 2048 41 40, jF 13 6144 42 41 0, jG 14 14336 [42] 43 (.ld (.t 42) 6 true), jM 15 0 44 6, jG 16 63488 [43, 44] 45 (.ca 112 [.t 43, .t 44]), jG 17 131056 [39, 45] 46 (.ia (.t 39) (.t 45) 1), jL 18 262128 47 46, jG 19 524287 [32, 47] 48 (.ca 134 [.t 32, .t 47]), jM 20 1048575 6 48])))))) (.sq (.rg [kM 53 5, kM 4 53]) .rt))))⟩
theorem k130 : kQ Tryz.f130 c130 := kr_
def c131 : Fu := ⟨12, [.t 2], (.sq (.rg [kG 2 (.mv (.c (.slice none 0 0)))]) (.sq (.sq (.rg [kM 3 0, kN 4 3, kF 5 4 2, kL 6 5]) (.cd (.t 6) (.sq (.rg [kG 2 (.mv (.c (.slice none 0 0)))]) .rt) .sk)) (.sq (.rg [kM 7 0, kN 8 7, kF 9 8 1, kL 10 9, kG 11 (.ap 53 3 1 8 [ii 0] (.c (.slice none 0 0)) (.t 10)), kM 2 11]) .rt)))⟩
theorem k131 : kQ Tryz.f131 c131 := kr_
def c132 : Fu := ⟨35, [.t 4, .t 5], (.sq (.rg [kG 4 (.mv (kI 0)), kG 5 (.mv (.c (.slice none 0 0)))]) (.sq (.sq (.rg [kM 6 1, kG 7 (.ib .lss (.t 6) (kI 0)), kM 8 7, kH 9 8 false (.mv (.t 1)), kH 10 8 false (.ib .gtr (.t 9) (kI 2)), kG 11 (.pk (.t 8) kT (.t 10)), kM 12 11, kH 13 12 false (.mv (.t 0)), kH 14 12 false (.mv (.t 1)), kH 15 12 false (.nc (.t 13)), kH 16 12 false (.fa (.t 15) 3), kH 17 12 false (.iaa (.t 16) (.t 14) 3 1), kH 18 12 false (.ld (.t 17) 1 false), kH 19 12 false (.len (.t 18)), kH 20 12 false (.ib .eql (.t 19) (kI 0)), kG 21 (.pk (.t 12) kT (.t 20))]) (.cd (.t 21) (.sq (.rg [kG 4 (.mv (kI 0)), kG 5 (.mv (.c (.slice none 0 0)))]) .rt) .sk)) (.sq (.rd [jM 0 0 22 0, jM 1 0 23 1, jN 2 1 24 22, jF 3 5 25 24 0, jG 4 15 [25, 23] 26 (.iaa (.t 25) (.t 23) 3 1), jL 5 31 27 26, jM 6 0 28 0, jM 7 0 29 1, jN 8 64 30 28, jF 9 320 31 30 3, jG 10 960 [31, 29] 32 (.iaa (.t 31) (.t 29) 3 1), jL 11 1984 33 32, jG 12 4032 [33] 34 (.ap 53 3 1 8 [ii 0] (.c (.slice none 0 0)) (.t 33)), jM 13 8191 4 27, jM 14 16383 5 34]) .rt)))⟩
theorem k132 : kQ Tryz.f132 c132 := kr_
def c133 : Fu := ⟨16, [.t 4], (.sq (.rg [kG 4 (.mv (kI 0))]) (.sq (.rg [kM 6 1, kG 7 (.ca 200 [.t 6]), kG 8 (.fv (.t 7) 0 1 false), kM 5 8]) (.sq (.sq (.rg [kM 9 5, kM 10 0, kN 11 10, kF 12 11 3, kL 13 12, kG 14 (.ib .geq (.t 9) (.t 13))]) (.cd (.t 14) (.sq (.rg [kG 4 (.mv (.c (ii (-1))))]) .rt) .sk)) (.sq (.rg [kM 15 5, kM 4 15]) .rt))))⟩
theorem k133 : kQ Tryz.f133 c133 := kr_
def c134 : Fu := ⟨15, [.t 4], (.sq (.rg [kG 4 (.mv (kI 0))]) (.sq (.sq (.rg [kM 5 1, kM 6 0, kN 7 6, kF 8 7 3, kL 9 8, kG 10 (.cv .u64 (.t 9)), kG 11 (.ib .gtr (.t 5) (.t 10))]) (.cd (.t 11) (.sq (.rg [kG 4 (.mv (.c (ii (-1))))]) .rt) .sk)) (.sq (.rg [kM 12 1, kG 13 (.cv .i64 (.t 12)), kG 14 (.ib .sub (.t 13) (kI 1)), kM 4 14]) .rt)))⟩
theorem k134 : kQ Tryz.f134 c134 := kr_
def c135 : Fu := ⟨51, [.t 4], (.sq (.rg [kG 4 (.mv (.c (.slice none 0 0)))]) (.sq (.rg [kG 5 (.mv (.c (.slice none 0 0)))]) (.sq (.bl 0 (.lp (.sq (.sq (.rg [kM 9 1, kG 10 (.ib .geq (.t 9) (kI 2))]) (.cd (.t 10) .sk (.ex 0))) (.bl 1 (.sq (.rg [kG 6 (.mv kP)]) (.sq (.sq (.rg [kG 11 (.mv (kI 0))]) (.bl 2 (.lp (.sq (.rg [kG 12 (.ib .lss (.t 11) (kI 3))]) (.sq (.cd (.t 12) .sk (.ex 2)) (.sq (.bl 3 (.sq (.rg [kM 13 11, kM 7 13]) (.sq (.rg [kM 14 0, kM 15 7, kN 16 14, kF 17 16 0, kG 18 (.iaa (.t 17) (.t 15) 3 2), kM 8 18]) (.sq (.rd [jM 0 0 19 8, jM 1 0 20 1, jG 2 3 [19, 20] 21 (.ca 201 [.t 19, .t 20]), jM 3 7 22 21, ⟨4, 15, [6, 22], kH 23 22 true (.mv (.t 6))⟩, ⟨5, 31, [23, 22], kH 24 22 true (.en 0 false (.t 23) kP)⟩, ⟨6, 63, [24, 22], kH 25 22 true (.mv (.t 24))⟩, ⟨7, 127, [8, 25], kH 26 25 false (.mv (.t 8))⟩, ⟨8, 255, [26, 25], kH 27 25 false (.nc (.t 26))⟩, ⟨9, 511, [27, 25], kH 28 25 false (.fa (.t 27) 0)⟩, ⟨10, 1023, [28, 25], kH 29 25 false (.ld (.t 28) 1 false)⟩, ⟨11, 127, [6, 25], kH 30 25 false (.mv (.t 6))⟩, ⟨12, 2175, [30, 25], kH 31 25 false (.nc (.t 30))⟩, ⟨13, 6271, [31, 25], kH 32 25 false (.fa (.t 31) 0)⟩, ⟨14, 14463, [32, 25], kH 33 25 false (.ld (.t 32) 1 false)⟩, ⟨15, 32767, [29, 33, 25], kH 34 25 false (.ib .lss (.t 29) (.t 33))⟩, ⟨16, 65535, [25, 34, 22], kH 35 22 true (.pk (.t 25) kT (.t 34))⟩, jG 17 131071 [22, 35] 36 (.pk (.t 22) (.t 35) kU)]) (.cd (.t 36) (.rg [kM 37 8, kM 6 37]) .sk))))) (.rg [kG 38 (.ib .add (.t 11) (kI 1)), kM 11 38]))))))) (.sq (.sq (.rg [kM 39 6, kG 40 (.en 0 false (.t 39) kP)]) (.cd (.t 40) (.ex 0) .sk)) (.sq (.rg [kM 41 5, kM 42 6, kN 43 42, kF 44 43 1, kL 45 44, kG 46 (.ap 53 3 1 8 [ii 0] (.t 41) (.t 45)), kM 5 46]) (.rg [kM 47 6, kG 48 (.bd [ii 0, (.slice none 0 0)] []), kN 49 47, kS (.st (.t 49) (.t 48) 2)]))))))))) (.sq (.rg [kM 50 5, kM 4 50]) .rt))))⟩
theorem k135 : kQ Tryz.f135 c135 := kr_
def c136 : Fu := ⟨13, [], (.rg [kM 4 0, kM 5 0, kN 6 5, kF 7 6 1, kL 8 7, kM 9 1, kG 10 (.ap 53 3 1 8 [ii 0] (.t 8) (.t 9)), kN 11 4, kF 12 11 1, kS (.st (.t 12) (.t 10) 1)])⟩
theorem k136 : kQ Tryz.f136 c136 := kr_
def c137 : Fu := ⟨8, [.t 2], (.sq (.rg [kG 2 (.mv (kI 0))]) (.sq (.rg [kM 3 0, kN 4 3, kF 5 4 0, kL 6 5, kG 7 (.len (.t 6)), kM 2 7]) .rt))⟩
theorem k137 : kQ Tryz.f137 c137 := kr_
def c138 : Fu := ⟨57, [.t 8, .t 9], (.sq (.rg [kG 4 (.bx 28 (.t 0)), kG 8 (.mv kP), kG 9 (.mv (kI 0))]) (.sq (.rg [kG 11 (.mf (.func 202) [] [.t 4]), kM 10 11]) (.sq (.sq (.rg [kM 12 3, kG 13 (.ib .lss (.t 12) (kI 1)), kM 14 13, kH 15 14 false (.mv (.t 3)), kH 16 14 false (.ib .gtr (.t 15) (kI 4096)), kG 17 (.pk (.t 14) kT (.t 16)), kM 18 17, kH 19 18 false (.mv (.t 10)), kH 20 18 false (.mv (.t 1)), kH 21 18 false (.cl (.t 19) [.t 20]), kH 22 18 false (.nt (.t 21)), kG 23 (.pk (.t 18) kT (.t 22)), kM 24 23, kH 25 24 false (.mv (.t 10)), kH 26 24 false (.mv (.t 2)), kH 27 24 false (.cl (.t 25) [.t 26]), kH 28 24 false (.nt (.t 27)), kG 29 (.pk (.t 24) kT (.t 28)), kM 30 29, kH 31 30 false (.mv (.t 10)), kH 32 30 false (.mv (.t 2)), kH 33 30 false (.mv (.t 3)), kH 34 30 false (.ib .add (.t 32) (.t 33)), kH 35 30 false (.ib .sub (.t 34) (kI 1)), kH 36 30 false (.cl (.t 31) [.t 35]), kH 37 30 false (.nt (.t 36)), kG 38 (.pk (.t 30) kT (.t 37)), kM 39 38, kH 40 39 false (.mv (.t 1)), kH 41 39 false (.mv (.t 2)), kH 42 39 false (.ib .geq (.t 40) (.t 41)), kH 43 39 false (.mv (.t 42)), kH 44 43 true (.mv (.t 1)), kH 45 43 true (.mv (.t 2)), kH 46 43 true (.mv (.t 3)), kH 47 43 true (.ib .add (.t 45) (.t 46)), kH 48 43 true (.ib .lss (.t 44) (.t 47)), kH 49 39 false (.pk (.t 43) (.t 48) kU), kG 50 (.pk (.t 39) kT (.t 49))]) (.cd (.t 50) (.sq (.rg [kG 8 (.mv kP), kG 9 (.mv (kI 1))]) .rt) .sk)) (.sq (.rg [kL 51 4, kM 52 1, kM 53 2, kM 54 3, kG 55 (.bd [(.pointer none), ii 0, ii 0, ii 0] [(0, 1, (.t 51)), (1, 1, (.t 52)), (2, 1, (.t 53)), (3, 1, (.t 54))]), kG 56 (.bx 171 (.t 55)), kM 8 56, kG 9 (.mv (kI 0))]) .rt))))⟩
theorem k138 : kQ Tryz.f138 c138 := kr_
def c139 : Fu := ⟨8, [.t 4], (.sq (.rg [kG 2 (.bx 24 (.t 0)), kG 4 (.mv (kI 0))]) (.sq (.rg [kG 5 (.ld (.t 2) 6 true), kM 6 1, kG 7 (.ca 83 [.t 5, (kI 6), .t 6]), kM 4 7]) .rt))⟩
theorem k139 : kQ Tryz.f139 c139 := kr_
def c140 : Fu := ⟨8, [.t 4], (.sq (.rg [kG 2 (.bx 24 (.t 0)), kG 4 (.mv (kI 0))]) (.sq (.rg [kG 5 (.ld (.t 2) 6 true), kM 6 1, kG 7 (.ca 83 [.t 5, (kI 5), .t 6]), kM 4 7]) .rt))⟩
theorem k140 : kQ Tryz.f140 c140 := kr_
def c141 : Fu := ⟨57, [], (.sq (.sq (.rg [kM 5 0, kN 6 5, kF 7 6 3, kL 8 7, kG 9 (.mv (kI 0))]) (.bl 0 (.lp (.sq (.rg [kG 10 (.ib .lss (.t 9) (.t 8))]) (.sq (.cd (.t 10) .sk (.ex 0)) (.sq (.bl 1 (.sq (.rg [kM 11 9, kM 2 11]) (.rd [jM 0 0 12 0, jN 1 1 13 12, jF 2 3 14 13 0, jL 3 7 15 14, jM 4 0 16 0, jN 5 16 17 16, jF 6 48 18 17 2, jL 7 112 19 18, jM 8 0 20 2, jG 9 496 [19, 20] 21 (.ib .add (.t 19) (.t 20)), jM 10 0 22 2, jG 11 1024 [22] 23 (.ib .add (.t 22) (kI 2)), jG 12 3072 [23] 24 (.cv .u64 (.t 23)), jG 13 8191 [15, 21, 24] 25 (.ca 23 [.t 15, .t 21, .t 24])]))) (.rg [kG 26 (.ib .add (.t 9) (kI 1)), kM 9 26]))))))) (.sq (.rd [jM 0 0 27 0, jN 1 1 28 27, jF 2 3 29 28 0, jL 3 7 30 29, jM 4 0 31 0, jN 5 16 32 31, jF 6 48 33 32 2, jL 7 112 34 33, jM 8 0 35 0, jN 9 256 36 35, jF 10 768 37 36 3, jL 11 1792 38 37, jG 12 4080 [34, 38] 39 (.ib .add (.t 34) (.t 38)), jG 13 8176 [39] 40 (.ib .sub (.t 39) (kI 1)), jG 14 16383 [30, 40] 41 (.ca 23 [.t 30, .t 40, (.c (.int .u64 0))])]) (.sq (.rg [kG 43 (.bd [ii 0, ii 0] []), kG 44 (.ca 203 [.t 43]), kM 42 44, kG 45 (.ex (.t 42) 0), kG 46 (.ex (.t 42) 1), kM 3 45, kM 4 46]) (.rd [jM 0 0 47 0, jN 1 1 48 47, jF 2 3 49 48 0, jL 3 7 50 49, jM 4 0 51 0, jN 5 16 52 51, jF 6 48 53 52 1, jL 7 112 54 53, jM 8 0 55 3, jG 9 511 [50, 54, 55] 56 (.ca 23 [.t 50, .t 54, .t 55])]))))⟩
theorem k141 : kQ Tryz.f141 c141 := kr_
def c142 : Fu := ⟨7, [.t 2], (.sq (.rg [kG 2 (.mv kP)]) (.sq (.rg [kM 3 0, kG 4 (.mk 56 1 8 [(.int .u64 0)] (.t 3) (.t 3)), kG 5 (.bd [(.slice none 0 0), ii 0] [(0, 1, (.t 4))]), kG 6 (.bx 110 (.t 5)), kM 2 6]) .rt))⟩
theorem k142 : kQ Tryz.f142 c142 := kr_
def c143 : Fu := ⟨22, [.t 2], (.sq (.rg [kG 1 (.bx 24 (.t 0)), kG 2 (.mv (kI 0))]) (.sq (.sq (.rg [kG 3 (.ld (.t 1) 6 true), kG 4 (.ca 185 [.t 3]), kG 5 (.nt (.t 4))]) (.cd (.t 5) (.sq (.rg [kG 2 (.mv (kI 0))]) .rt) .sk)) (.sq (.rg [kF 6 1 0, kL 7 6, kG 8 (.ib .add (kI 3) (.t 7)), kF 9 1 3, kL 10 9, kG 11 (.ib .mul (kI 2) (.t 10)), kG 12 (.ib .add (.t 8) (.t 11)), kF 13 1 1, kL 14 13, kG 15 (.ib .add (.t 12) (.t 14)), kF 16 1 1, kL 17 16, kF 18 1 2, kL 19 18, kG 20 (.ib .mul (.t 17) (.t 19)), kG 21 (.ib .add (.t 15) (.t 20)), kM 2 21]) .rt)))⟩
theorem k143 : kQ Tryz.f143 c143 := kr_
def c144 : Fu := ⟨16, [.t 4], (.sq (.rg [kG 2 (.bx 24 (.t 0)), kG 4 (.mv (kI 0))]) (.sq (.rg [kG 5 (.ld (.t 2) 6 true), kF 6 2 0, kL 7 6, kG 8 (.ib .add (kI 3) (.t 7)), kF 9 2 3, kL 10 9, kG 11 (.ib .add (.t 8) (.t 10)), kF 12 2 3, kL 13 12, kM 14 1, kG 15 (.ca 172 [.t 5, .t 11, .t 13, .t 14]), kM 4 15]) .rt))⟩
theorem k144 : kQ Tryz.f144 c144 := kr_
def c145 : Fu := ⟨10, [.t 4], (.sq (.rg [kG 2 (.bx 24 (.t 0)), kG 4 (.mv (kI 0))]) (.sq (.rg [kG 5 (.ld (.t 2) 6 true), kF 6 2 0, kL 7 6, kM 8 1, kG 9 (.ca 172 [.t 5, (kI 3), .t 7, .t 8]), kM 4 9]) .rt))⟩
theorem k145 : kQ Tryz.f145 c145 := kr_
def c146 : Fu := ⟨75, [], (.sq (.rg [kG 6 (.bd [ii 0, ii 0] [(0, 1, (kI 0))]), kG 7 (.ca 204 [.t 6]), kM 5 7, kG 8 (.ex (.t 5) 0), kG 9 (.ex (.t 5) 1), kM 2 8, kM 3 9]) (.sq (.rd [jM 0 0 10 0, jN 1 1 11 10, jF 2 3 12 11 0, jL 3 7 13 12, jN 4 15 14 13, jF 5 31 15 14 0, jL 6 63 16 15, jM 7 0 17 0, jN 8 128 18 17, jF 9 384 19 18 1, jL 10 896 20 19, jM 11 0 21 2, jG 12 4095 [16, 20] 22 (.ia (.t 16) (.t 20) 1), ⟨13, 8191, [22, 21], kS (.st (.t 22) (.t 21) 1)⟩]) (.sq (.rg [kG 4 (.mv (kI 0))]) (.bl 0 (.lp (.sq (.sq (.rg [kM 23 4, kM 24 0, kN 25 24, kF 26 25 3, kL 27 26, kG 28 (.ib .lss (.t 23) (.t 27))]) (.cd (.t 28) .sk (.ex 0))) (.sq (.bl 1 (.sq (.rd [jM 0 0 31 0, jN 1 1 32 31, jF 2 3 33 32 0, jL 3 7 34 33, jN 4 15 35 34, jF 5 31 36 35 0, jL 6 63 37 36, jM 7 0 38 0, jN 8 128 39 38, jF 9 384 40 39 2, jL 10 896 41 40, jM 11 0 42 4, jG 12 3968 [41, 42] 43 (.ib .add (.t 41) (.t 42)), jM 13 0 44 4, jG 14 8192 [44] 45 (.ib .add (.t 44) (kI 2)), jM 15 0 46 0, jN 16 32768 47 46, jF 17 98304 48 47 3, jL 18 229376 49 48, jG 19 491520 [49] 50 (.ib .add (.t 49) (kI 1)), jG 20 1040384 [45, 50] 51 (.ib .rem (.t 45) (.t 50)), jG 21 2088960 [51] 52 (.cv .u64 (.t 51)), jG 22 4194303 [37, 43] 53 (.ia (.t 37) (.t 43) 1), ⟨23, 8388607, [53, 52], kS (.st (.t 53) (.t 52) 1)⟩]) (.sq (.rg [kM 54 4, kM 55 0, kN 56 55, kF 57 56 3, kL 58 57, kG 59 (.ib .sub (.t 58) (kI 1)), kG 60 (.ib .eql (.t 54) (.t 59))]) (.cd (.t 60) (.rd [jM 0 0 61 0, jN 1 1 62 61, jF 2 3 63 62 0, jL 3 7 64 63, jN 4 15 65 64, jF 5 31 66 65 0, jL 6 63 67 66, jM 7 0 68 0, jN 8 128 69 68, jF 9 384 70 69 2, jL 10 896 71 70, jM 11 0 72 4, jG 12 3968 [71, 72] 73 (.ib .add (.t 71) (.t 72)), jG 13 8191 [67, 73] 74 (.ia (.t 67) (.t 73) 1), ⟨14, 16383, [74], kS (.st (.t 74) (.c (.int .u64 0)) 1)⟩]) .sk)))) (.rg [kM 29 4, kG 30 (.ib .add (.t 29) (kI 1)), kM 4 30]))))))))⟩
theorem k146 : kQ Tryz.f146 c146 := kr_
def c147 : Fu := ⟨8, [.t 2], (.sq (.rg [kG 2 (.mv kP)]) (.sq (.rg [kM 3 0, kG 4 (.mm true (.t 3) (kI 0)), kG 5 (.mm false (.t 4) (kI 64)), kG 6 (.bd [ii 0, (.slice none 0 0)] [(0, 1, (.t 5))]), kG 7 (.bx 250 (.t 6)), kM 2 7]) .rt))⟩
theorem k147 : kQ Tryz.f147 c147 := kr_
def c148 : Fu := ⟨3, [.t 0], (.sq (.rg [kG 0 (.mv kP)]) (.sq (.rg [kG 1 (.bd [ii 0, (.slice none 0 0), ii 0, (.slice none 0 0), ii 0, (.slice none 0 0), ii 0] []), kG 2 (.bx 255 (.t 1)), kM 0 2]) .rt))⟩
theorem k148 : kQ Tryz.f148 c148 := kr_
def c149 : Fu := ⟨8, [.t 2], (.sq (.rg [kG 2 (.mv kP)]) (.sq (.rg [kM 3 0, kG 4 (.mm true (.t 3) (kI 0)), kG 5 (.mm false (.t 4) (kI 64)), kG 6 (.bd [ii 0, (.slice none 0 0)] [(0, 1, (.t 5))]), kG 7 (.bx 191 (.t 6)), kM 2 7]) .rt))⟩
theorem k149 : kQ Tryz.f149 c149 := kr_
def c150 : Fu := ⟨3, [.t 0], (.sq (.rg [kG 0 (.mv kP)]) (.sq (.rg [kG 1 (.bd [ii 0, ii 0, ii 0, (.slice none 0 0), (.slice none 0 0), (.slice none 0 0), ii 0] [(6, 1, (.c (ii (-1))))]), kG 2 (.bx 263 (.t 1)), kM 0 2]) .rt))⟩
theorem k150 : kQ Tryz.f150 c150 := kr_
def c151 : Fu := ⟨20, [.t 4, .t 5], (.sq (.rg [kG 4 (.mv (.c (.int .u64 0))), kG 5 (.mv (kI 0))]) (.sq (.sq (.rg [kM 6 0, kM 7 1, kG 8 (.ca 81 [.t 6, .t 7]), kG 9 (.nt (.t 8))]) (.cd (.t 9) (.sq (.rg [kG 4 (.mv (.c (.int .u64 0))), kG 5 (.mv (kI 1))]) .rt) .sk)) (.sq (.rg [kM 10 0, kM 11 1, kM 12 0, kN 13 12, kF 14 13 0, kL 15 14, kM 16 1, kG 17 (.ia (.t 15) (.t 16) 1), kL 18 17, kG 19 (.ca 205 [.t 10, (kI 1), .t 11, .t 18, kT]), kM 4 19, kG 5 (.mv (kI 0))]) .rt)))⟩
theorem k151 : kQ Tryz.f151 c151 := kr_
def c152 : Fu := ⟨14, [.t 4], (.sq (.rg [kG 2 (.bx 68 (.t 0)), kG 4 (.mv kU)]) (.sq (.rg [kF 5 2 1, kL 6 5, kG 7 (.ib .geq (.t 6) (kI 1)), kM 8 7, kH 9 8 true (.fa (.t 2) 0), kH 10 8 true (.ld (.t 9) 1 false), kH 11 8 true (.mv (.t 1)), kH 12 8 true (.ib .eql (.t 10) (.t 11)), kG 13 (.pk (.t 8) (.t 12) kU), kM 4 13]) .rt))⟩
theorem k152 : kQ Tryz.f152 c152 := kr_
def c153 : Fu := ⟨66, [], (.sq (.rg [kG 5 (.bx 62 (.t 2))]) (.sq (.rd [jM 0 0 6 0, jM 1 0 7 0, jM 2 0 8 0, jM 3 0 9 0, jM 4 0 10 1, jG 5 0 [5] 11 (.ld (.t 5) 5 true), jM 6 0 12 0, jN 7 64 13 12, jF 8 192 14 13 0, jG 9 448 [14] 15 (.ca 175 [.t 14]), jN 10 977 16 6, jF 11 2001 17 16 23, ⟨12, 4049, [17, 10], kS (.st (.t 17) (.t 10) 1)⟩, jN 13 8179 18 7, jF 14 16371 19 18 24, ⟨15, 32755, [19, 11], kS (.st (.t 19) (.t 11) 5)⟩, jN 16 65527 20 8, jF 17 131063 21 20 15, ⟨18, 262135, [21, 15], kS (.st (.t 21) (.t 15) 1)⟩, jN 19 524287 22 9, jF 20 1048575 23 22 13, ⟨21, 2097151, [23], kS (.st (.t 23) kT 1)⟩]) (.sq (.sq (.rg [kM 24 0, kN 25 24, kF 26 25 10, kL 27 26, kG 28 (.ib .geq (.t 27) (kI 0))]) (.cd (.t 28) (.sq (.rd [jM 0 0 29 0, jN 1 1 30 29, jF 2 3 31 30 6, jL 3 7 32 31, jM 4 0 33 0, jN 5 16 34 33, jF 6 48 35 34 10, jL 7 112 36 35, jG 8 240 [36] 37 (.bs 3 1 [ii 0] [(0, 1, (.t 36))]), jG 9 511 [32, 37] 38 (.ca 206 [.t 32, .t 37])]) (.rg [kM 39 0, kN 40 39, kF 41 40 10, kS (.st (.t 41) (.c (ii (-1))) 1)])) .sk)) (.sq (.rg [kM 42 0, kM 43 0, kN 44 43, kF 45 44 6, kL 46 45, kG 47 (.ca 207 [.t 46]), kN 48 42, kF 49 48 22, kS (.st (.t 49) (.t 47) 1)]) (.rd [jM 0 0 50 0, jN 1 1 51 50, jF 2 3 52 51 0, jM 3 0 53 0, jN 4 8 54 53, jF 5 24 55 54 22, jL 6 56 56 55, jG 7 120 [56] 57 (.mf (.func 208) [.t 56] []), jM 8 0 58 0, jN 9 256 59 58, jF 10 768 60 59 22, jL 11 1792 61 60, jG 12 3840 [61] 62 (.mf (.func 188) [.t 61] []), jM 13 0 63 0, jG 14 8192 [63] 64 (.mf (.func 209) [.t 63] []), jG 15 32767 [52, 57, 62, 64] 65 (.ca 119 [.t 52, .t 57, .t 62, .t 64])])))))⟩
theorem k153 : kQ Tryz.f153 c153 := kr_
def c154 : Fu := ⟨24, [.t 4], (.sq (.rg [kG 4 (.mv (kI 0))]) (.sq (.sq (.rg [kM 6 1, kG 7 (.ib .lss (.t 6) (kI 1)), kM 8 7, kH 9 8 false (.mv (.t 1)), kH 10 8 false (.ib .gtr (.t 9) (kI 1024)), kG 11 (.pk (.t 8) kT (.t 10))]) (.cd (.t 11) (.sq (.rg [kG 4 (.mv (kI 0))]) .rt) .sk)) (.sq (.rg [kM 12 0, kG 13 (.mm true (.t 12) (kI 0)), kG 14 (.mm false (.t 13) (kI 3)), kG 15 (.ib .shl (kI 1) (.t 14)), kM 5 15]) (.sq (.rg [kM 16 1, kM 17 5, kG 18 (.ib .add (.t 16) (.t 17)), kG 19 (.ib .sub (.t 18) (kI 1)), kM 20 5, kG 21 (.ib .quo (.t 19) (.t 20)), kM 22 5, kG 23 (.ib .mul (.t 21) (.t 22)), kM 4 23]) .rt))))⟩
theorem k154 : kQ Tryz.f154 c154 := kr_
def c155 : Fu := ⟨27, [.t 6], (.sq (.rg [kG 6 (.mv kU)]) (.sq (.rg [kM 7 0, kM 8 2, kG 9 (.ca 210 [.t 7, .t 8]), kM 10 9, kH 11 10 true (.mv (.t 0)), kH 12 10 true (.mv (.t 2)), kH 13 10 true (.ca 211 [.t 11, .t 12]), kH 14 10 true (.nt (.t 13)), kG 15 (.pk (.t 10) (.t 14) kU), kM 16 15, kH 17 16 true (.mv (.t 1)), kH 18 16 true (.ib .geq (.t 17) (kI 0)), kG 19 (.pk (.t 16) (.t 18) kU), kM 20 19, kH 21 20 true (.mv (.t 1)), kH 22 20 true (.mv (.t 0)), kH 23 20 true (.mv (.t 2)), kH 24 20 true (.ib .sub (.t 22) (.t 23)), kH 25 20 true (.ib .leq (.t 21) (.t 24)), kG 26 (.pk (.t 20) (.t 25) kU), kM 6 26]) .rt))⟩
theorem k155 : kQ Tryz.f155 c155 := kr_
def c156 : Fu := ⟨47, [], (.sq (.rg [kM 3 0, kN 4 3, kF 5 4 17, kG 6 (.ld (.t 5) 4 true), kG 2 (.al 68 [ii 0, ii 0, ii 0, ii 0]), kS (.st (.t 2) (.t 6) 4)]) (.sq (.rd [jF 0 0 7 2 3, jL 1 1 8 7, jM 2 0 9 0, jN 3 4 10 9, jF 4 12 11 10 14, jL 5 28 12 11, jG 6 63 [8, 12] 13 (.ib .add (.t 8) (.t 12)), jF 7 127 14 2 3, ⟨8, 255, [14, 13], kS (.st (.t 14) (.t 13) 1)⟩]) (.sq (.sq (.rg [kM 15 0, kG 16 (.ld (.t 2) 4 true), kG 17 (.ca 212 [.t 15, .t 16]), kG 18 (.nt (.t 17))]) (.cd (.t 18) (.sq (.rg [kM 19 0, kN 20 19, kF 21 20 0, kM 22 0, kG 23 (.mf (.func 80) [.t 22] []), kG 24 (.ca 79 [.t 21, .t 23])]) .rt) .sk)) (.rd [jM 0 0 25 0, jM 1 0 26 0, jN 2 2 27 26, jF 3 6 28 27 7, jL 4 14 29 28, jM 5 0 30 0, jN 6 32 31 30, jF 7 96 32 31 8, jL 8 224 33 32, jG 9 0 [2] 34 (.ld (.t 2) 4 true), jG 10 512 [34] 35 (.ca 213 [.t 34]), jM 11 0 36 0, jN 12 2048 37 36, jF 13 6144 38 37 17, jF 14 14336 39 38 3, jL 15 30720 40 39, jM 16 0 41 0, jN 17 65536 42 41, jF 18 196608 43 42 9, jL 19 458752 44 43, jG 20 1048574 [29, 33, 35, 40, 44] 45 (.bd [ii 0, ii 0, ii 0, ii 0, ii 0] [(0, 1, (.t 29)), (1, 1, (.t 33)), (2, 1, (.t 35)), (3, 1, (.t 40)), (4, 1, (.t 44))]), jG 21 2097151 [25, 45] 46 (.ca 153 [.t 25, (kI 0), .t 45])]))))⟩
theorem k156 : kQ Tryz.f156 c156 := kr_
def c157 : Fu := ⟨35, [], (.sq (.rd [jM 0 0 2 0, jN 1 1 3 2, jF 2 3 4 3 5, jL 3 7 5 4, jN 4 15 6 5, jF 5 31 7 6 0, jL 6 63 8 7, jM 7 0 9 0, jN 8 128 10 9, jF 9 384 11 10 5, jL 10 896 12 11, jN 11 1920 13 12, jF 12 3968 14 13 1, jG 13 8064 [14] 15 (.ld (.t 14) 6 true), jM 14 0 16 0, jN 15 16384 17 16, jF 16 49152 18 17 10, jL 17 114688 19 18, jG 18 262016 [15, 19] 20 (.ca 139 [.t 15, .t 19]), jM 19 0 21 0, jN 20 524288 22 21, jF 21 1572864 23 22 17, jG 22 3670016 [23] 24 (.ld (.t 23) 4 true), jG 23 8388480 [24] 25 (.ca 213 [.t 24]), jG 24 16777088 [25] 26 (.ib .add (.t 25) (kI 1)), jG 25 33554304 [26] 27 (.cv .u64 (.t 26)), jG 26 67108863 [8, 20, 27] 28 (.ca 214 [.t 8, .t 20, .t 27])]) (.rg [kM 29 0, kN 30 29, kF 31 30 0, kM 32 0, kG 33 (.mf (.func 215) [.t 32] []), kG 34 (.ca 79 [.t 31, .t 33])]))⟩
theorem k157 : kQ Tryz.f157 c157 := kr_
def c158 : Fu := ⟨26, [.t 2], (.sq (.rg [kG 2 (.mv kP)]) (.sq (.rg [kM 4 0, kG 5 (.bd [.nilFunc, .nilFunc, .nilFunc, .nilFunc, ii 0, (.pointer none), (.pointer none), ii 0, ii 0, (.bool false)] [(5, 1, (.t 4)), (8, 1, (.c (ii (-1))))]), kG 6 (.bx 274 (.t 5)), kM 3 6]) (.sq (.bl 0 (.sq (.rg [kM 10 3, kG 11 (.ca 216 [.t 10]), kM 9 11]) (.cd (.t 9) .sk (.sq (.rg [kM 13 0, kN 14 13, kF 15 14 9, kL 16 15, kG 17 (.ca 217 [.t 16]), kG 18 (.ib .gtr (.t 17) (kI 0)), kM 12 18]) (.cd (.t 12) (.rg [kM 19 3, kN 20 19, kF 21 20 0, kM 22 3, kG 23 (.mf (.func 218) [.t 22] []), kG 24 (.ca 79 [.t 21, .t 23])]) (.rg [kM 7 3, kG 8 (.ca 219 [.t 7])])))))) (.sq (.rg [kM 25 3, kM 2 25]) .rt))))⟩
theorem k158 : kQ Tryz.f158 c158 := kr_
def c159 : Fu := ⟨7, [.t 2], (.sq (.rg [kG 2 (.mv kU)]) (.sq (.rg [kM 3 0, kN 4 3, kF 5 4 0, kG 6 (.ca 91 [.t 5]), kM 2 6]) .rt))⟩
theorem k159 : kQ Tryz.f159 c159 := kr_
def c160 : Fu := ⟨7, [.t 2], (.sq (.rg [kG 2 (.mv kU)]) (.sq (.rg [kM 3 0, kN 4 3, kF 5 4 0, kG 6 (.ca 92 [.t 5]), kM 2 6]) .rt))⟩
theorem k160 : kQ Tryz.f160 c160 := kr_
def c161 : Fu := ⟨30, [], (.sq (.rg [kM 5 0, kN 6 5, kF 7 6 21, kL 8 7, kG 9 (.ca 220 [.t 8]), kM 4 9, kG 10 (.ex (.t 4) 0), kG 11 (.ex (.t 4) 1), kM 2 10, kM 3 11]) (.sq (.sq (.rg [kM 12 3, kG 13 (.nt (.t 12))]) (.cd (.t 13) (.sq (.rg [kM 14 0, kN 15 14, kF 16 15 0, kM 17 0, kG 18 (.mf (.func 80) [.t 17] []), kG 19 (.ca 79 [.t 16, .t 18])]) .rt) .sk)) (.sq (.rg [kM 20 0, kM 21 2, kN 22 20, kF 23 22 10, kS (.st (.t 23) (.t 21) 1)]) (.rg [kM 24 0, kN 25 24, kF 26 25 0, kM 27 0, kG 28 (.mf (.func 221) [.t 27] []), kG 29 (.ca 79 [.t 26, .t 28])]))))⟩
theorem k161 : kQ Tryz.f161 c161 := kr_
def c162 : Fu := ⟨19, [.t 4], (.sq (.rg [kG 4 (.mv kP)]) (.sq (.rg [kM 6 0, kM 7 1, kG 8 (.mm true (.t 7) (kI 1)), kG 9 (.mm false (.t 8) (kI 8)), kG 10 (.bd [.nilFunc, .nilFunc, .nilFunc, .nilFunc, ii 0, (.pointer none), ii 0, ii 0, (.int .u64 0), (.slice none 0 0)] [(5, 1, (.t 6)), (6, 1, (.t 9))]), kG 11 (.bx 278 (.t 10)), kM 5 11]) (.sq (.rg [kM 12 5, kN 13 12, kF 14 13 0, kM 15 5, kG 16 (.mf (.func 222) [.t 15] []), kG 17 (.ca 79 [.t 14, .t 16])]) (.sq (.rg [kM 18 5, kM 4 18]) .rt))))⟩
theorem k162 : kQ Tryz.f162 c162 := kr_
def c163 : Fu := ⟨7, [.t 2], (.sq (.rg [kG 2 (.mv kU)]) (.sq (.rg [kM 3 0, kN 4 3, kF 5 4 0, kG 6 (.ca 91 [.t 5]), kM 2 6]) .rt))⟩
theorem k163 : kQ Tryz.f163 c163 := kr_
def c164 : Fu := ⟨7, [.t 2], (.sq (.rg [kG 2 (.mv kU)]) (.sq (.rg [kM 3 0, kN 4 3, kF 5 4 0, kG 6 (.ca 92 [.t 5]), kM 2 6]) .rt))⟩
theorem k164 : kQ Tryz.f164 c164 := kr_
def c165 : Fu := ⟨33, [], (.sq (.rg [kM 3 0, kM 4 0, kN 5 4, kF 6 5 0, kG 7 (.ca 175 [.t 6]), kN 8 3, kF 9 8 9, kS (.st (.t 9) (.t 7) 1)]) (.sq (.rg [kM 10 0, kN 11 10, kF 12 11 7, kL 13 12, kG 14 (.ca 223 [.t 13]), kM 2 14]) (.sq (.sq (.rg [kM 15 2, kG 16 (.len (.t 15)), kG 17 (.ib .eql (.t 16) (kI 0))]) (.cd (.t 17) (.sq (.rg [kM 18 0, kN 19 18, kF 20 19 14, kS (.st (.t 20) (kI 7) 1)]) .rt) .sk)) (.sq (.rg [kM 21 0, kM 22 2, kG 23 (.ia (.t 22) (kI 0) 1), kL 24 23, kN 25 21, kF 26 25 8, kS (.st (.t 26) (.t 24) 1)]) (.rg [kM 27 0, kN 28 27, kF 29 28 0, kM 30 0, kG 31 (.mf (.func 224) [.t 30] []), kG 32 (.ca 79 [.t 29, .t 31])])))))⟩
theorem k165 : kQ Tryz.f165 c165 := kr_
def c166 : Fu := ⟨11, [.t 4], (.sq (.rg [kG 4 (.mv kP)]) (.sq (.rg [kM 5 0, kM 6 1, kG 7 (.mm true (.t 6) (kI 1)), kG 8 (.mm false (.t 7) (kI 8)), kG 9 (.bd [(.pointer none), ii 0, ii 0, ii 0, (.int .u64 0), (.slice none 0 0), (.bool false)] [(0, 1, (.t 5)), (1, 1, (.t 8))]), kG 10 (.bx 235 (.t 9)), kM 4 10]) .rt))⟩
theorem k166 : kQ Tryz.f166 c166 := kr_
def c167 : Fu := ⟨148, [.t 2], (.sq (.rg [kG 2 (.mv kU)]) (.sq (.sq (.rg [kM 5 0, kN 6 5, kF 7 6 6, kL 8 7]) (.cd (.t 8) (.sq (.rg [kG 2 (.mv kU)]) .rt) .sk)) (.sq (.rg [kM 9 0, kN 10 9, kF 11 10 0, kL 12 11, kM 3 12]) (.sq (.sq (.rg [kM 13 0, kN 14 13, kF 15 14 2, kL 16 15]) (.bl 0 (.sq (.rg [kG 46 (.ib .eql (.t 16) (kI 0)), kM 45 46]) (.cd (.t 45) (.sq (.rd [jM 0 0 47 0, jM 1 0 48 3, jN 2 2 49 48, jF 3 6 50 49 0, jL 4 14 51 50, jM 5 0 52 3, jN 6 32 53 52, jF 7 96 54 53 1, jL 8 224 55 54, jG 9 510 [51, 55] 56 (.ca 98 [.t 51, .t 55]), jN 10 1023 57 47, jF 11 2047 58 57 4, ⟨12, 4095, [58, 56], kS (.st (.t 58) (.t 56) 1)⟩]) (.sq (.rg [kM 59 0, kN 60 59, kF 61 60 5, kS (.st (.t 61) (.c (.slice none 0 0)) 1)]) (.sq (.rg [kM 62 3, kM 63 0, kN 64 63, kF 65 64 4, kL 66 65, kG 67 (.ca 133 [.t 62, .t 66]), kM 4 67]) (.sq (.rg [kM 68 4, kG 69 (.ib .lss (.t 68) (kI 0))]) (.cd (.t 69) (.rg [kM 70 0, kN 71 70, kF 72 71 6, kS (.st (.t 72) kT 1)]) (.rg [kM 73 0, kM 74 0, kM 75 0, kN 76 75, kF 77 76 5, kL 78 77, kM 79 4, kG 80 (.bs 3 1 [ii 0] [(0, 1, (.t 79))]), kG 81 (.ap 53 3 1 8 [ii 0] (.t 78) (.t 80)), kN 82 73, kF 83 82 5, kS (.st (.t 83) (.t 81) 1), kN 84 74, kF 85 84 2, kS (.st (.t 85) (kI 1) 1)])))))) (.sq (.rg [kG 87 (.ib .eql (.t 16) (kI 1)), kM 86 87]) (.cd (.t 86) (.sq (.rd [jM 0 0 88 0, jM 1 0 89 3, jM 2 0 90 3, jN 3 4 91 90, jF 4 12 92 91 0, jL 5 28 93 92, jM 6 0 94 3, jN 7 64 95 94, jF 8 192 96 95 2, jL 9 448 97 96, jM 10 0 98 0, jN 11 1024 99 98, jF 12 3072 100 99 5, jL 13 7168 101 100, jM 14 0 102 0, jN 15 16384 103 102, jF 16 49152 104 103 5, jL 17 114688 105 104, jG 18 245760 [105] 106 (.len (.t 105)), jG 19 507904 [106] 107 (.ib .sub (.t 106) (kI 1)), jG 20 1047552 [101, 107] 108 (.ia (.t 101) (.t 107) 1), jL 21 2096128 109 108, jG 22 4194240 [97, 109] 110 (.ib .add (.t 97) (.t 109)), jG 23 8388604 [93, 110] 111 (.ca 98 [.t 93, .t 110]), jG 24 16777214 [89, 111] 112 (.ca 134 [.t 89, .t 111]), jN 25 33554431 113 88, jF 26 67108863 114 113 3, ⟨27, 134217727, [114, 112], kS (.st (.t 114) (.t 112) 1)⟩]) (.sq (.rd [jM 0 0 115 0, jN 1 1 116 115, jF 2 3 117 116 3, jL 3 7 118 117, jG 4 15 [118] 119 (.ib .geq (.t 118) (kI 0)), jM 5 31 120 119, ⟨6, 63, [0, 120], kH 121 120 true (.mv (.t 0))⟩, ⟨7, 127, [121, 120], kH 122 120 true (.nc (.t 121))⟩, ⟨8, 255, [122, 120], kH 123 120 true (.fa (.t 122) 5)⟩, ⟨9, 511, [123, 120], kH 124 120 true (.ld (.t 123) 1 false)⟩, ⟨10, 1023, [124, 120], kH 125 120 true (.len (.t 124))⟩, ⟨11, 63, [0, 120], kH 126 120 true (.mv (.t 0))⟩, ⟨12, 2111, [126, 120], kH 127 120 true (.nc (.t 126))⟩, ⟨13, 6207, [127, 120], kH 128 120 true (.fa (.t 127) 1)⟩, ⟨14, 14399, [128, 120], kH 129 120 true (.ld (.t 128) 1 false)⟩, ⟨15, 32767, [125, 129, 120], kH 130 120 true (.ib .lss (.t 125) (.t 129))⟩, jG 16 65535 [120, 130] 131 (.pk (.t 120) (.t 130) kU)]) (.cd (.t 131) (.rd [jM 0 0 132 0, jM 1 0 133 0, jN 2 2 134 133, jF 3 6 135 134 5, jL 4 14 136 135, jM 5 0 137 0, jN 6 32 138 137, jF 7 96 139 138 3, jL 8 224 140 139, jG 9 480 [140] 141 (.bs 3 1 [ii 0] [(0, 1, (.t 140))]), jG 10 1022 [136, 141] 142 (.ap 53 3 1 8 [ii 0] (.t 136) (.t 141)), jN 11 2047 143 132, jF 12 4095 144 143 5, ⟨13, 8191, [144, 142], kS (.st (.t 144) (.t 142) 1)⟩]) (.rg [kM 145 0, kN 146 145, kF 147 146 2, kS (.st (.t 147) (kI 2) 1)])))) (.sq (.rd [jM 0 0 17 0, jM 1 0 18 3, jN 2 2 19 18, jF 3 6 20 19 0, jL 4 14 21 20, jM 5 0 22 3, jN 6 32 23 22, jF 7 96 24 23 1, jL 8 224 25 24, jM 9 0 26 0, jN 10 512 27 26, jF 11 1536 28 27 4, jL 12 3584 29 28, jM 13 0 30 0, jN 14 8192 31 30, jF 15 24576 32 31 4, jL 16 57344 33 32, jM 17 0 34 0, jN 18 131072 35 34, jF 19 393216 36 35 3, jL 20 917504 37 36, jG 21 2088960 [33, 37] 38 (.ca 195 [.t 33, .t 37]), jG 22 4194302 [21, 25, 29, 38] 39 (.ca 102 [.t 21, .t 25, .t 29, .t 38]), jN 23 8388607 40 17, jF 24 16777215 41 40 6, ⟨25, 33554431, [41, 39], kS (.st (.t 41) (.t 39) 1)⟩]) (.rg [kM 42 0, kN 43 42, kF 44 43 2, kS (.st (.t 44) (kI 0) 1)])))))))) (.sq (.rg [kG 2 (.mv kT)]) .rt)))))⟩
theorem k167 : kQ Tryz.f167 c167 := kr_
def c168 : Fu := ⟨13, [.t 2], (.sq (.rg [kG 2 (.mv (.c (.slice none 0 0)))]) (.sq (.sq (.rg [kM 3 0, kN 4 3, kF 5 4 6, kL 6 5, kG 7 (.nt (.t 6))]) (.cd (.t 7) (.sq (.rg [kG 2 (.mv (.c (.slice none 0 0)))]) .rt) .sk)) (.sq (.rg [kM 8 0, kN 9 8, kF 10 9 5, kL 11 10, kG 12 (.ap 53 3 1 8 [ii 0] (.c (.slice none 0 0)) (.t 11)), kM 2 12]) .rt)))⟩
theorem k168 : kQ Tryz.f168 c168 := kr_
def c169 : Fu := ⟨7, [.t 2], (.sq (.rg [kG 2 (.mv (kI 0))]) (.sq (.sq (.rg [kM 3 0, kG 4 (.ib .geq (.t 3) (kI 4294967295))]) (.cd (.t 4) (.sq (.rg [kG 2 (.mv (kI 0))]) .rt) .sk)) (.sq (.rg [kM 5 0, kG 6 (.ib .add (.t 5) (kI 1)), kM 2 6]) .rt)))⟩
theorem k169 : kQ Tryz.f169 c169 := kr_
def c170 : Fu := ⟨17, [.t 6], (.sq (.rg [kG 6 (.mv (.c (.int .u64 0)))]) (.sq (.sq (.rg [kM 7 1, kM 8 2, kG 9 (.ca 225 [.t 7, .t 8]), kG 10 (.nt (.t 9))]) (.cd (.t 10) (.sq (.rg [kG 6 (.mv (.c (.int .u64 0)))]) .rt) .sk)) (.sq (.rd [jM 0 0 11 0, jM 1 0 12 1, jG 2 3 [11, 12] 13 (.ib .shr (.t 11) (.t 12)), jM 3 0 14 2, jG 4 8 [14] 15 (.ca 226 [.t 14]), jG 5 31 [13, 15] 16 (.ib .and (.t 13) (.t 15)), jM 6 63 6 16]) .rt)))⟩
theorem k170 : kQ Tryz.f170 c170 := kr_
def c171 : Fu := ⟨11, [.c 2 2 true], (.sq (.rg [kG 2 (.al 238 [ii 0, ii 0])]) (.sq (.rg [kM 3 0, kG 4 (.ca 170 [.t 3, (kI 0), (kI 32)]), kG 5 (.cv .i64 (.t 4)), kG 6 (.ib .sub (.t 5) (kI 1)), kM 7 0, kG 8 (.ca 170 [.t 7, (kI 32), (kI 32)]), kG 9 (.cv .i64 (.t 8)), kG 10 (.bd [ii 0, ii 0] [(0, 1, (.t 6)), (1, 1, (.t 9))]), kS (.st (.t 2) (.t 10) 2)]) .rt))⟩
theorem k171 : kQ Tryz.f171 c171 := kr_
def c172 : Fu := ⟨24, [.t 8], (.sq (.rg [kG 4 (.bx 24 (.t 0)), kG 8 (.mv (kI 0))]) (.sq (.sq (.rg [kG 9 (.ld (.t 4) 6 true), kG 10 (.ca 185 [.t 9]), kG 11 (.nt (.t 10)), kM 12 11, kH 13 12 false (.mv (.t 3)), kH 14 12 false (.ib .lss (.t 13) (kI 0)), kG 15 (.pk (.t 12) kT (.t 14)), kM 16 15, kH 17 16 false (.mv (.t 3)), kH 18 16 false (.mv (.t 2)), kH 19 16 false (.ib .geq (.t 17) (.t 18)), kG 20 (.pk (.t 16) kT (.t 19))]) (.cd (.t 20) (.sq (.rg [kG 8 (.mv (.c (ii (-1))))]) .rt) .sk)) (.sq (.rg [kM 21 1, kM 22 3, kG 23 (.ib .add (.t 21) (.t 22)), kM 8 23]) .rt)))⟩
theorem k172 : kQ Tryz.f172 c172 := kr_
def c173 : Fu := ⟨15, [.t 6], (.sq (.rg [kG 6 (.mv kU)]) (.sq (.rg [kM 7 0, kM 8 1, kG 9 (.ib .geq (.t 7) (.t 8)), kM 10 9, kH 11 10 true (.mv (.t 0)), kH 12 10 true (.mv (.t 2)), kH 13 10 true (.ib .leq (.t 11) (.t 12)), kG 14 (.pk (.t 10) (.t 13) kU), kM 6 14]) .rt))⟩
theorem k173 : kQ Tryz.f173 c173 := kr_
def c174 : Fu := ⟨25, [.t 4, .c 5 4 true], (.sq (.rg [kG 4 (.mv (.c (.int .u64 0))), kG 5 (.al 68 [ii 0, ii 0, ii 0, ii 0])]) (.sq (.rd [jM 0 0 9 0, jN 1 1 10 9, jF 2 3 11 10 0, jL 3 7 12 11, jM 4 0 13 0, jN 5 16 14 13, jF 6 48 15 14 1, jG 7 112 [15] 16 (.ld (.t 15) 6 true), jM 8 0 17 1, jG 9 496 [16, 17] 18 (.ca 94 [.t 16, .t 17]), jG 10 1023 [12, 18] 19 (.ca 151 [.t 12, .t 18]), jM 11 2047 8 19, jG 12 4095 [8] 20 (.ex (.t 8) 0), jG 13 4095 [8] 21 (.ex (.t 8) 1), jM 14 8191 6 20, jM 15 32767 7 21]) (.sq (.rg [kM 22 6, kM 23 6, kG 24 (.ca 93 [.t 23]), kM 4 22, kS (.st (.t 5) (.t 24) 4)]) .rt)))⟩
theorem k174 : kQ Tryz.f174 c174 := kr_
def c175 : Fu := ⟨7, [.t 2], (.sq (.rg [kG 2 (.mv (kI 0))]) (.sq (.rg [kM 3 0, kN 4 3, kF 5 4 4, kL 6 5, kM 2 6]) .rt))⟩
theorem k175 : kQ Tryz.f175 c175 := kr_
def c176 : Fu := ⟨67, [], (.sq (.rg [kM 7 0, kN 8 7, kF 9 8 9, kF 10 9 0, kL 11 10, kG 12 (.bd [ii 0, ii 0, ii 0, ii 0] [(0, 1, (.t 11))]), kG 13 (.ca 227 [.t 12]), kM 6 13, kG 14 (.ex (.t 6) 0), kG 15 (.ex (.t 6) 1), kM 2 14, kM 3 15]) (.sq (.sq (.rd [jM 0 0 17 0, jN 1 1 18 17, jF 2 3 19 18 5, jL 3 7 20 19, jN 4 15 21 20, jF 5 31 22 21 0, jL 6 63 23 22, jM 7 0 24 0, jN 8 128 25 24, jF 9 384 26 25 5, jL 10 896 27 26, jN 11 1920 28 27, jF 12 3968 29 28 1, jG 13 8064 [29] 30 (.ld (.t 29) 6 true), jM 14 0 31 0, jN 15 16384 32 31, jF 16 49152 33 32 6, jL 17 114688 34 33, jG 18 262016 [30, 34] 35 (.ca 94 [.t 30, .t 34]), jM 19 0 36 0, jN 20 524288 37 36, jF 21 1572864 38 37 8, jL 22 3670016 39 38, jM 23 0 40 2, jG 24 16777215 [23, 35, 39, 40] 41 (.ca 228 [.t 23, .t 35, .t 39, .t 40]), jM 25 33554431 16 41, jG 26 67108863 [16] 42 (.ex (.t 16) 0), jG 27 67108863 [16] 43 (.ex (.t 16) 1), jM 28 134217727 4 42, jM 29 536870911 5 43]) (.sq (.rg [kM 44 4, kG 45 (.nt (.t 44))]) (.cd (.t 45) (.sq (.rg [kM 46 0, kN 47 46, kF 48 47 0, kM 49 0, kG 50 (.mf (.func 105) [.t 49] []), kG 51 (.ca 79 [.t 48, .t 50])]) .rt) .sk))) (.rd [jM 0 0 52 0, jM 1 0 53 0, jM 2 0 54 0, jN 3 4 55 54, jF 4 12 56 55 9, jG 5 28 [56] 57 (.ld (.t 56) 4 true), jG 6 60 [57] 58 (.ca 213 [.t 57]), jM 7 0 59 0, jN 8 128 60 59, jF 9 384 61 60 0, jG 10 1020 [61] 62 (.ca 175 [.t 61]), jN 11 2045 63 52, jF 12 4093 64 63 14, ⟨13, 8189, [64, 58], kS (.st (.t 64) (.t 58) 1)⟩, jN 14 16383 65 53, jF 15 32767 66 65 15, ⟨16, 65535, [66, 62], kS (.st (.t 66) (.t 62) 1)⟩])))⟩
theorem k176 : kQ Tryz.f176 c176 := kr_
def c177 : Fu := ⟨44, [], (.sq (.sq (.rg [kM 2 0, kN 3 2, kF 4 3 8, kL 5 4, kG 6 (.ib .geq (.t 5) (kI 0))]) (.cd (.t 6) (.sq (.rd [jM 0 0 7 0, jN 1 1 8 7, jF 2 3 9 8 0, jL 3 7 10 9, jN 4 15 11 10, jF 5 31 12 11 1, jL 6 63 13 12, jM 7 0 14 0, jN 8 128 15 14, jF 9 384 16 15 8, jL 10 896 17 16, jG 11 1920 [17] 18 (.bs 3 1 [ii 0] [(0, 1, (.t 17))]), jG 12 4095 [13, 18] 19 (.ca 184 [.t 13, .t 18])]) (.rg [kM 20 0, kN 21 20, kF 22 21 8, kS (.st (.t 22) (.c (ii (-1))) 1)])) .sk)) (.sq (.rg [kM 23 0, kM 24 0, kM 25 0, kN 26 25, kF 27 26 0, kL 28 27, kG 29 (.ca 128 [.t 28]), kN 30 23, kF 31 30 12, kS (.st (.t 31) (.t 29) 1), kN 32 24, kF 33 32 4, kS (.st (.t 33) (kI 6) 1)]) (.rg [kM 34 0, kM 35 0, kN 36 35, kF 37 36 12, kL 38 37, kN 39 38, kF 40 39 2, kL 41 40, kN 42 34, kF 43 42 20, kS (.st (.t 43) (.t 41) 1)])))⟩
theorem k177 : kQ Tryz.f177 c177 := kr_
def c178 : Fu := ⟨28, [.t 4], (.sq (.rg [kG 4 (.mv (kI 0))]) (.sq (.sq (.rg [kM 7 1, kG 8 (.ca 173 [.t 7, (kI 1), (kI 1024)]), kG 9 (.nt (.t 8))]) (.cd (.t 9) (.sq (.rg [kG 4 (.mv (kI 0))]) .rt) .sk)) (.sq (.rg [kG 5 (.mv (kI 1))]) (.sq (.sq (.rg [kG 6 (.mv (kI 0))]) (.bl 0 (.lp (.sq (.sq (.rg [kM 10 6, kM 11 0, kG 12 (.ib .lss (.t 10) (.t 11)), kM 13 12, kH 14 13 true (.mv (.t 6)), kH 15 13 true (.ib .lss (.t 14) (kI 3)), kG 16 (.pk (.t 13) (.t 15) kU)]) (.cd (.t 16) .sk (.ex 0))) (.sq (.bl 1 (.rg [kM 19 5, kG 20 (.ib .mul (kI 2) (.t 19)), kM 5 20])) (.rg [kM 17 6, kG 18 (.ib .add (.t 17) (kI 1)), kM 6 18])))))) (.sq (.bl 2 (.lp (.sq (.sq (.rg [kM 21 1, kM 22 5, kG 23 (.ib .rem (.t 21) (.t 22)), kG 24 (.ib .neq (.t 23) (kI 0))]) (.cd (.t 24) .sk (.ex 2))) (.bl 3 (.rg [kM 25 1, kG 26 (.ib .add (.t 25) (kI 1)), kM 1 26]))))) (.sq (.rg [kM 27 1, kM 4 27]) .rt))))))⟩
theorem k178 : kQ Tryz.f178 c178 := kr_
def c179 : Fu := ⟨27, [.t 6], (.sq (.rg [kG 6 (.mv kU)]) (.sq (.rg [kM 7 0, kM 8 2, kG 9 (.ca 186 [.t 7, .t 8]), kM 10 9, kH 11 10 true (.mv (.t 0)), kH 12 10 true (.mv (.t 2)), kH 13 10 true (.ca 187 [.t 11, .t 12]), kH 14 10 true (.nt (.t 13)), kG 15 (.pk (.t 10) (.t 14) kU), kM 16 15, kH 17 16 true (.mv (.t 1)), kH 18 16 true (.ib .geq (.t 17) (kI 0)), kG 19 (.pk (.t 16) (.t 18) kU), kM 20 19, kH 21 20 true (.mv (.t 1)), kH 22 20 true (.mv (.t 0)), kH 23 20 true (.mv (.t 2)), kH 24 20 true (.ib .sub (.t 22) (.t 23)), kH 25 20 true (.ib .leq (.t 21) (.t 24)), kG 26 (.pk (.t 20) (.t 25) kU), kM 6 26]) .rt))⟩
theorem k179 : kQ Tryz.f179 c179 := kr_
def c180 : Fu := ⟨25, [.t 2], (.sq (.rg [kG 2 (.mv kP)]) (.sq (.rg [kM 4 0, kG 5 (.bd [(.pointer none), ii 0, ii 0, ii 0, (.pointer none), (.bool false)] [(0, 1, (.t 4)), (2, 1, (.c (ii (-1)))), (3, 1, (.c (ii (-1))))]), kG 6 (.bx 186 (.t 5)), kM 3 6]) (.sq (.rg [kM 7 3, kG 8 (.ca 182 [.t 7])]) (.sq (.sq (.rg [kM 9 3, kN 10 9, kF 11 10 5, kL 12 11, kG 13 (.nt (.t 12)), kM 14 13, kH 15 14 true (.mv (.t 0)), kH 16 14 true (.nc (.t 15)), kH 17 14 true (.fa (.t 16) 2), kH 18 14 true (.ld (.t 17) 1 false), kH 19 14 true (.ca 229 [.t 18]), kH 20 14 true (.ib .eql (.t 19) (kI 0)), kG 21 (.pk (.t 14) (.t 20) kU)]) (.cd (.t 21) (.rg [kM 22 3, kG 23 (.ca 183 [.t 22])]) .sk)) (.sq (.rg [kM 24 3, kM 2 24]) .rt)))))⟩
theorem k180 : kQ Tryz.f180 c180 := kr_
def c181 : Fu := ⟨20, [.t 4], (.sq (.rg [kG 4 (.mv (kI 0))]) (.sq (.rg [kM 6 0, kN 7 6, kF 8 7 2, kL 9 8, kM 10 1, kG 11 (.ca 230 [.t 9, .t 10]), kM 5 11]) (.sq (.rg [kM 12 0, kN 13 12, kF 14 13 1, kL 15 14, kM 16 5, kG 17 (.ca 184 [.t 15, .t 16])]) (.sq (.rg [kM 18 5, kG 19 (.len (.t 18)), kM 4 19]) .rt))))⟩
theorem k181 : kQ Tryz.f181 c181 := kr_
def c182 : Fu := ⟨23, [], (.sq (.rg [kM 5 0, kN 6 5, kF 7 6 0, kL 8 7, kN 9 8, kF 10 9 1, kL 11 10, kG 12 (.ca 231 [.t 11]), kM 4 12, kG 13 (.ex (.t 4) 0), kG 14 (.ex (.t 4) 1), kM 2 13, kM 3 14]) (.sq (.rg [kM 15 3]) (.cd (.t 15) (.rg [kM 16 0, kM 17 0, kM 18 2, kN 19 16, kF 20 19 2, kS (.st (.t 20) (.t 18) 1), kN 21 17, kF 22 21 5, kS (.st (.t 22) kT 1)]) .sk)))⟩
theorem k182 : kQ Tryz.f182 c182 := kr_
def c183 : Fu := ⟨30, [], (.rd [jM 0 0 2 0, jM 1 0 3 0, jM 2 0 4 0, jN 3 4 5 4, jF 4 12 6 5 0, jL 5 28 7 6, jN 6 60 8 7, jF 7 124 9 8 0, jL 8 252 10 9, jN 9 508 11 10, jF 10 1020 12 11 7, jL 11 2044 13 12, jM 12 0 14 0, jN 13 4096 15 14, jF 14 12288 16 15 0, jL 15 28672 17 16, jN 16 61440 18 17, jF 17 126976 19 18 0, jL 18 258048 20 19, jN 19 520192 21 20, jF 20 1044480 22 21 0, jF 21 2093056 23 22 5, jL 22 4190208 24 23, jG 23 8388604 [13, 24] 25 (.ca 166 [.t 13, .t 24]), jN 24 16777213 26 2, jF 25 33554429 27 26 1, ⟨26, 67108861, [27], kS (.st (.t 27) (kI 1) 1)⟩, jN 27 134217727 28 3, jF 28 268435455 29 28 4, ⟨29, 536870911, [29, 25], kS (.st (.t 29) (.t 25) 1)⟩])⟩
theorem k183 : kQ Tryz.f183 c183 := kr_
def c184 : Fu := ⟨14, [], (.rg [kM 4 0, kM 5 0, kN 6 5, kF 7 6 1, kL 8 7, kG 9 (.ap 53 3 1 8 [ii 0] (.c (.slice none 0 0)) (.t 8)), kM 10 1, kG 11 (.ap 53 3 1 8 [ii 0] (.t 9) (.t 10)), kN 12 4, kF 13 12 1, kS (.st (.t 13) (.t 11) 1)])⟩
theorem k184 : kQ Tryz.f184 c184 := kr_
def c185 : Fu := ⟨37, [.t 2], (.sq (.rg [kG 1 (.bx 24 (.t 0)), kG 2 (.mv kU)]) (.sq (.rg [kF 3 1 0, kL 4 3, kG 5 (.ca 173 [.t 4, (kI 1), (kI 64)]), kM 6 5, kH 7 6 true (.fa (.t 1) 1), kH 8 6 true (.ld (.t 7) 1 false), kH 9 6 true (.ca 173 [.t 8, (kI 1), (kI 4096)]), kG 10 (.pk (.t 6) (.t 9) kU), kM 11 10, kH 12 11 true (.fa (.t 1) 2), kH 13 11 true (.ld (.t 12) 1 false), kH 14 11 true (.ca 173 [.t 13, (kI 8), (kI 1024)]), kG 15 (.pk (.t 11) (.t 14) kU), kM 16 15, kH 17 16 true (.fa (.t 1) 2), kH 18 16 true (.ld (.t 17) 1 false), kH 19 16 true (.ib .rem (.t 18) (kI 8)), kH 20 16 true (.ib .eql (.t 19) (kI 0)), kG 21 (.pk (.t 16) (.t 20) kU), kM 22 21, kH 23 22 true (.fa (.t 1) 3), kH 24 22 true (.ld (.t 23) 1 false), kH 25 22 true (.ca 173 [.t 24, (kI 1), (kI 4096)]), kG 26 (.pk (.t 22) (.t 25) kU), kM 27 26, kH 28 27 true (.fa (.t 1) 4), kH 29 27 true (.ld (.t 28) 1 false), kH 30 27 true (.ca 173 [.t 29, (kI 0), (kI 64)]), kG 31 (.pk (.t 27) (.t 30) kU), kM 32 31, kH 33 32 true (.fa (.t 1) 5), kH 34 32 true (.ld (.t 33) 1 false), kH 35 32 true (.ca 173 [.t 34, (kI 1), (kI 8)]), kG 36 (.pk (.t 32) (.t 35) kU), kM 2 36]) .rt))⟩
theorem k185 : kQ Tryz.f185 c185 := kr_
def c186 : Fu := ⟨12, [.t 4], (.sq (.rg [kG 4 (.mv kU)]) (.sq (.rg [kM 5 0, kG 6 (.ca 173 [.t 5, (kI 1), (kI 1024)]), kM 7 6, kH 8 7 true (.mv (.t 1)), kH 9 7 true (.mv (.t 0)), kH 10 7 true (.ca 173 [.t 8, (kI 1), .t 9]), kG 11 (.pk (.t 7) (.t 10) kU), kM 4 11]) .rt))⟩
theorem k186 : kQ Tryz.f186 c186 := kr_
def c187 : Fu := ⟨15, [.t 4], (.sq (.rg [kG 4 (.mv kU)]) (.sq (.rg [kM 5 0, kM 6 1, kG 7 (.ca 186 [.t 5, .t 6]), kM 8 7, kH 9 8 true (.mv (.t 1)), kH 10 8 true (.mv (.t 0)), kH 11 8 true (.mv (.t 1)), kH 12 8 true (.ib .sub (.t 10) (.t 11)), kH 13 8 true (.ib .gtr (.t 9) (.t 12)), kG 14 (.pk (.t 8) (.t 13) kU), kM 4 14]) .rt))⟩
theorem k187 : kQ Tryz.f187 c187 := kr_
def c188 : Fu := ⟨7, [.t 2], (.sq (.rg [kG 2 (.mv kU)]) (.sq (.rg [kM 3 0, kN 4 3, kF 5 4 0, kG 6 (.ca 92 [.t 5]), kM 2 6]) .rt))⟩
theorem k188 : kQ Tryz.f188 c188 := kr_
def c189 : Fu := ⟨8, [.t 2], (.sq (.rg [kG 2 (.mv (.c (.slice none 0 0)))]) (.sq (.sq (.rg [kM 3 0, kG 4 (.en 1 false (.t 3) (.c (.slice none 0 0)))]) (.cd (.t 4) (.sq (.rg [kG 2 (.mv (.c (.slice none 0 0)))]) .rt) .sk)) (.sq (.rg [kG 5 (.bs 3 0 [] []), kM 6 0, kG 7 (.ap 53 3 1 8 [ii 0] (.t 5) (.t 6)), kM 2 7]) .rt)))⟩
theorem k189 : kQ Tryz.f189 c189 := kr_
def c190 : Fu := ⟨17, [], (.sq (.sq (.rg [kM 2 0, kN 3 2, kF 4 3 2, kL 5 4, kG 6 (.cl (.t 5) [])]) (.cd (.t 6) (.sq (.rg [kM 7 0, kN 8 7, kF 9 8 3, kL 10 9, kG 11 (.cl (.t 10) [])]) .rt) .sk)) (.rg [kM 12 0, kM 13 0, kG 14 (.mf (.func 232) [.t 13] []), kN 15 12, kF 16 15 0, kS (.st (.t 16) (.t 14) 1)]))⟩
theorem k190 : kQ Tryz.f190 c190 := kr_
def c191 : Fu := ⟨55, [], (.sq (.rg [kM 7 0, kN 8 7, kF 9 8 5, kL 10 9, kN 11 10, kF 12 11 0, kL 13 12, kG 14 (.ca 151 [.t 13, (kI 2)]), kM 6 14, kG 15 (.ex (.t 6) 0), kG 16 (.ex (.t 6) 1), kM 2 15, kM 3 16]) (.sq (.rg [kM 17 0, kM 18 2, kG 19 (.ca 233 [.t 18]), kN 20 17, kF 21 20 11, kS (.st (.t 21) (.t 19) 1)]) (.sq (.rd [jM 0 0 23 0, jN 1 1 24 23, jF 2 3 25 24 5, jL 3 7 26 25, jN 4 15 27 26, jF 5 31 28 27 2, jL 6 63 29 28, jM 7 0 30 0, jN 8 128 31 30, jF 9 384 32 31 12, jL 10 896 33 32, jG 11 2047 [29, 33] 34 (.ca 234 [.t 29, .t 33]), jM 12 4095 22 34, jG 13 8191 [22] 35 (.ex (.t 22) 0), jG 14 8191 [22] 36 (.ex (.t 22) 1), jM 15 16383 4 35, jM 16 65535 5 36]) (.sq (.sq (.rg [kM 37 5, kG 38 (.ib .neq (.t 37) (kI 0))]) (.cd (.t 38) (.sq (.rg [kM 39 0, kG 40 (.ca 192 [.t 39])]) .rt) .sk)) (.sq (.rg [kM 41 0, kM 42 4, kN 43 41, kF 44 43 9, kS (.st (.t 44) (.t 42) 1)]) (.rg [kM 45 0, kN 46 45, kF 47 46 0, kM 48 4, kG 49 (.mf (.func 235) [.t 48] []), kM 50 4, kG 51 (.mf (.func 236) [.t 50] []), kM 52 0, kG 53 (.mf (.func 237) [.t 52] []), kG 54 (.ca 119 [.t 47, .t 49, .t 51, .t 53])]))))))⟩
theorem k191 : kQ Tryz.f191 c191 := kr_
def c192 : Fu := ⟨34, [], (.sq (.rg [kM 4 0, kN 5 4, kF 6 5 12, kS (.st (.t 6) (.c (ii (-1))) 1)]) (.sq (.rd [jM 0 0 8 0, jN 1 1 9 8, jF 2 3 10 9 5, jL 3 7 11 10, jN 4 15 12 11, jF 5 31 13 12 1, jL 6 63 14 13, jM 7 0 15 0, jN 8 128 16 15, jF 9 384 17 16 7, jL 10 896 18 17, jG 11 2047 [14, 18] 19 (.ca 238 [.t 14, .t 18]), jM 12 4095 7 19, jG 13 8191 [7] 20 (.ex (.t 7) 0), jG 14 8191 [7] 21 (.ex (.t 7) 1), jM 15 16383 2 20, jM 16 65535 3 21]) (.sq (.rg [kM 22 3, kG 23 (.ib .eql (.t 22) (kI 0))]) (.cd (.t 23) (.rg [kM 24 0, kN 25 24, kF 26 25 0, kM 27 2, kG 28 (.mf (.func 239) [.t 27] []), kM 29 2, kG 30 (.mf (.func 240) [.t 29] []), kM 31 0, kG 32 (.mf (.func 241) [.t 31] []), kG 33 (.ca 119 [.t 26, .t 28, .t 30, .t 32])]) .sk))))⟩
theorem k192 : kQ Tryz.f192 c192 := kr_
def c193 : Fu := ⟨13, [.t 4], (.sq (.rg [kG 4 (.mv kP)]) (.sq (.rg [kM 5 0, kM 6 1, kG 7 (.ap 53 3 1 8 [ii 0] (.c (.slice none 0 0)) (.t 6)), kM 8 1, kG 9 (.len (.t 8)), kG 10 (.ib .eql (.t 9) (kI 0)), kG 11 (.bd [(.pointer none), (.slice none 0 0), ii 0, (.int .u64 0), (.bool false)] [(0, 1, (.t 5)), (1, 1, (.t 7)), (4, 1, (.t 10))]), kG 12 (.bx 206 (.t 11)), kM 4 12]) .rt))⟩
theorem k193 : kQ Tryz.f193 c193 := kr_
def c194 : Fu := ⟨85, [.t 6, .t 7], (.sq (.rg [kG 6 (.mv (.c (.slice none 0 0))), kG 7 (.mv kU)]) (.sq (.sq (.rg [kM 10 2, kG 11 (.len (.t 10)), kG 12 (.ib .eql (.t 11) (kI 0)), kM 13 12, kH 14 13 false (.mv (.t 1)), kH 15 13 false (.ib .lss (.t 14) (kI 0)), kG 16 (.pk (.t 13) kT (.t 15)), kM 17 16, kH 18 17 false (.mv (.t 1)), kH 19 17 false (.ib .gtr (.t 18) (kI 4611686018427387903)), kG 20 (.pk (.t 17) kT (.t 19)), kM 21 20, kH 22 21 false (.mv (.t 1)), kH 23 21 false (.mv (.t 0)), kH 24 21 false (.nc (.t 23)), kH 25 21 false (.fa (.t 24) 6), kH 26 21 false (.ld (.t 25) 1 false), kH 27 21 false (.ib .lss (.t 22) (.t 26)), kG 28 (.pk (.t 21) kT (.t 27))]) (.cd (.t 28) (.sq (.rg [kG 6 (.mv (.c (.slice none 0 0))), kG 7 (.mv kU)]) .rt) .sk)) (.sq (.rg [kM 29 0, kM 30 1, kN 31 29, kF 32 31 6, kS (.st (.t 32) (.t 30) 1)]) (.sq (.rg [kM 33 1, kG 34 (.ib .rem (.t 33) (kI 3)), kM 8 34]) (.sq (.rg [kG 9 (.mv (.c (.slice none 0 0)))]) (.sq (.sq (.rg [kM 35 0, kM 36 8, kN 37 35, kF 38 37 3, kG 39 (.iaa (.t 38) (.t 36) 3 1), kL 40 39, kG 41 (.len (.t 40)), kG 42 (.ib .gtr (.t 41) (kI 0)), kM 43 42, kH 44 43 true (.mv (.t 0)), kH 45 43 true (.mv (.t 8)), kH 46 43 true (.nc (.t 44)), kH 47 43 true (.fa (.t 46) 0), kH 48 43 true (.iaa (.t 47) (.t 45) 3 1), kH 49 43 true (.ld (.t 48) 1 false), kH 50 43 true (.mv (.t 1)), kH 51 43 true (.ib .lss (.t 49) (.t 50)), kG 52 (.pk (.t 43) (.t 51) kU)]) (.cd (.t 52) (.sq (.rg [kM 53 0, kM 54 8, kN 55 53, kF 56 55 3, kG 57 (.iaa (.t 56) (.t 54) 3 1), kL 58 57, kM 9 58]) (.rg [kM 59 0, kM 60 8, kN 61 59, kF 62 61 3, kG 63 (.iaa (.t 62) (.t 60) 3 1), kS (.st (.t 63) (.c (.slice none 0 0)) 1)])) .sk)) (.sq (.rg [kM 64 0, kM 65 8, kM 66 1, kN 67 64, kF 68 67 0, kG 69 (.iaa (.t 68) (.t 65) 3 1), kS (.st (.t 69) (.t 66) 1)]) (.sq (.rd [jM 0 0 70 0, jM 1 0 71 8, jM 2 0 72 0, jM 3 0 73 8, jN 4 4 74 72, jF 5 20 75 74 3, jG 6 60 [75, 73] 76 (.iaa (.t 75) (.t 73) 3 1), jL 7 124 77 76, jG 8 252 [77] 78 (.ap 53 3 1 8 [ii 0] (.c (.slice none 0 0)) (.t 77)), jM 9 0 79 2, jG 10 1020 [78, 79] 80 (.ap 53 3 1 8 [ii 0] (.t 78) (.t 79)), jN 11 1 81 70, jF 12 2049 82 81 3, jG 13 8191 [82, 71] 83 (.iaa (.t 82) (.t 71) 3 1), ⟨14, 16383, [83, 80], kS (.st (.t 83) (.t 80) 1)⟩]) (.sq (.rg [kM 84 9, kM 6 84, kG 7 (.mv kT)]) .rt)))))))))⟩
theorem k194 : kQ Tryz.f194 c194 := kr_
def c195 : Fu := ⟨16, [.t 4], (.sq (.rg [kG 4 (.mv (.c (.int .u64 0)))]) (.sq (.rg [kM 8 0, kG 9 (.ca 200 [.t 8]), kM 10 1, kG 11 (.ca 242 [.t 9, .t 10]), kG 12 (.ca 204 [.t 11]), kM 7 12, kG 13 (.ex (.t 7) 0), kG 14 (.ex (.t 7) 1), kM 5 13, kM 6 14]) (.sq (.rg [kM 15 5, kM 4 15]) .rt)))⟩
theorem k195 : kQ Tryz.f195 c195 := kr_
def c196 : Fu := ⟨21, [.t 4], (.sq (.rg [kG 4 (.mv kP)]) (.sq (.rg [kM 5 0, kN 6 5, kF 7 6 0, kL 8 7, kN 9 8, kF 10 9 7, kL 11 10, kM 12 1, kG 13 (.ca 193 [.t 11, .t 12]), kM 14 1, kG 15 (.ap 53 3 1 8 [ii 0] (.c (.slice none 0 0)) (.t 14)), kM 16 1, kG 17 (.len (.t 16)), kG 18 (.ib .eql (.t 17) (kI 0)), kG 19 (.bd [(.pointer none), (.slice none 0 0), (.bool false)] [(0, 1, (.t 13)), (1, 1, (.t 15)), (2, 1, (.t 18))]), kG 20 (.bx 189 (.t 19)), kM 4 20]) .rt))⟩
theorem k196 : kQ Tryz.f196 c196 := kr_
def c197 : Fu := ⟨34, [.t 2], (.sq (.rg [kG 2 (.mv (.c (.slice none 0 0)))]) (.sq (.rd [jM 0 0 5 0, jN 1 1 6 5, jF 2 3 7 6 1, jL 3 7 8 7, jG 4 15 [8] 9 (.len (.t 8)), jM 5 0 10 0, jN 6 32 11 10, jF 7 96 12 11 0, jL 8 224 13 12, jG 9 511 [9, 13] 14 (.ib .sub (.t 9) (.t 13)), jG 10 1023 [14] 15 (.mm true (.t 14) (kI 0)), jM 11 2047 3 15]) (.sq (.rg [kM 16 0, kN 17 16, kF 18 17 1, kL 19 18, kM 20 3, kG 21 (.sl 1 (.t 19) none (some (.t 20)) none), kG 22 (.ap 53 3 1 8 [ii 0] (.c (.slice none 0 0)) (.t 21)), kM 4 22]) (.sq (.rg [kM 23 0, kM 24 0, kN 25 24, kF 26 25 1, kL 27 26, kM 28 3, kG 29 (.sl 1 (.t 27) (some (.t 28)) none none), kG 30 (.ap 53 3 1 8 [ii 0] (.c (.slice none 0 0)) (.t 29)), kN 31 23, kF 32 31 1, kS (.st (.t 32) (.t 30) 1)]) (.sq (.rg [kM 33 4, kM 2 33]) .rt)))))⟩
theorem k197 : kQ Tryz.f197 c197 := kr_
def c198 : Fu := ⟨16, [.t 4], (.sq (.rg [kG 4 (.mv kU)]) (.sq (.rg [kM 5 1, kG 6 (.ib .geq (.t 5) (kI 0)), kM 7 6, kH 8 7 true (.mv (.t 1)), kH 9 7 true (.mv (.t 0)), kH 10 7 true (.nc (.t 9)), kH 11 7 true (.fa (.t 10) 1), kH 12 7 true (.fa (.t 11) 1), kH 13 7 true (.ld (.t 12) 1 false), kH 14 7 true (.ib .lss (.t 8) (.t 13)), kG 15 (.pk (.t 7) (.t 14) kU), kM 4 15]) .rt))⟩
theorem k198 : kQ Tryz.f198 c198 := kr_
def c199 : Fu := ⟨16, [.t 4], (.sq (.rg [kG 4 (.mv (kI 0))]) (.sq (.sq (.rg [kM 5 1, kM 6 0, kN 7 6, kF 8 7 1, kF 9 8 1, kL 10 9, kG 11 (.cv .u64 (.t 10)), kG 12 (.ib .gtr (.t 5) (.t 11))]) (.cd (.t 12) (.sq (.rg [kG 4 (.mv (.c (ii (-1))))]) .rt) .sk)) (.sq (.rg [kM 13 1, kG 14 (.cv .i64 (.t 13)), kG 15 (.ib .sub (.t 14) (kI 1)), kM 4 15]) .rt)))⟩
theorem k199 : kQ Tryz.f199 c199 := kr_
def c200 : Fu := ⟨11, [.c 2 2 true], (.sq (.rg [kG 2 (.al 264 [ii 0, ii 0])]) (.sq (.rg [kM 3 0, kG 4 (.ib .rem (.t 3) (.c (.int .u64 4294967296))), kG 5 (.cv .i64 (.t 4)), kG 6 (.ib .sub (.t 5) (kI 1)), kM 7 0, kG 8 (.ib .quo (.t 7) (.c (.int .u64 4294967296))), kG 9 (.cv .i64 (.t 8)), kG 10 (.bd [ii 0, ii 0] [(0, 1, (.t 6)), (1, 1, (.t 9))]), kS (.st (.t 2) (.t 10) 2)]) .rt))⟩
theorem k200 : kQ Tryz.f200 c200 := kr_
def c201 : Fu := ⟨20, [.t 4], (.sq (.rg [kG 4 (.mv kU)]) (.sq (.rg [kM 5 0, kN 6 5, kF 7 6 1, kL 8 7, kG 9 (.len (.t 8)), kG 10 (.ib .gtr (.t 9) (kI 0)), kM 11 10, kH 12 11 true (.mv (.t 0)), kH 13 11 true (.nc (.t 12)), kH 14 11 true (.fa (.t 13) 0), kH 15 11 true (.ld (.t 14) 1 false), kH 16 11 true (.mv (.t 1)), kH 17 11 true (.ib .sub (.t 16) (kI 2)), kH 18 11 true (.ib .leq (.t 15) (.t 17)), kG 19 (.pk (.t 11) (.t 18) kU), kM 4 19]) .rt))⟩
theorem k201 : kQ Tryz.f201 c201 := kr_
def c202 : Fu := ⟨12, [.t 3], (.sq (.rg [kG 3 (.mv kU)]) (.sq (.rg [kM 4 0, kG 5 (.ib .geq (.t 4) (kI 0)), kM 6 5, kH 7 6 true (.mv (.t 0)), kH 8 6 true (.ld (.t 1) 1 false), kH 9 6 true (.ca 137 [.t 8]), kH 10 6 true (.ib .lss (.t 7) (.t 9)), kG 11 (.pk (.t 6) (.t 10) kU), kM 3 11]) .rt))⟩
theorem k202 : kQ Tryz.f202 c202 := kr_
def c203 : Fu := ⟨31, [.t 2, .t 3], (.sq (.rg [kG 1 (.bx 238 (.t 0)), kG 2 (.mv (.c (.int .u64 0))), kG 3 (.mv kU)]) (.sq (.sq (.rg [kF 6 1 0, kL 7 6, kG 8 (.ca 243 [.t 7, (.c (ii (-1))), (kI 4294967294)]), kG 9 (.nt (.t 8)), kM 10 9, kH 11 10 false (.fa (.t 1) 1), kH 12 10 false (.ld (.t 11) 1 false), kH 13 10 false (.ca 243 [.t 12, (kI 0), (kI 4294967295)]), kH 14 10 false (.nt (.t 13)), kG 15 (.pk (.t 10) kT (.t 14))]) (.cd (.t 15) (.sq (.rg [kG 2 (.mv (.c (.int .u64 0))), kG 3 (.mv kU)]) .rt) .sk)) (.sq (.rg [kF 17 1 0, kL 18 17, kG 19 (.ib .add (.t 18) (kI 1)), kG 20 (.cv .u64 (.t 19)), kG 21 (.ca 244 [(.c (.int .u64 0)), (kI 0), (kI 32), .t 20]), kM 16 21, kG 22 (.ex (.t 16) 0), kG 23 (.ex (.t 16) 1), kM 4 22, kM 5 23]) (.sq (.rg [kM 24 4, kF 25 1 1, kL 26 25, kG 27 (.cv .u64 (.t 26)), kG 28 (.ca 244 [.t 24, (kI 32), (kI 32), .t 27]), kG 29 (.ex (.t 28) 0), kG 30 (.ex (.t 28) 1), kM 2 29, kM 3 30]) .rt))))⟩
theorem k203 : kQ Tryz.f203 c203 := kr_
def c204 : Fu := ⟨31, [.t 2, .t 3], (.sq (.rg [kG 1 (.bx 264 (.t 0)), kG 2 (.mv (.c (.int .u64 0))), kG 3 (.mv kU)]) (.sq (.sq (.rg [kF 4 1 0, kL 5 4, kG 6 (.ib .lss (.t 5) (.c (ii (-1)))), kM 7 6, kH 8 7 false (.fa (.t 1) 0), kH 9 7 false (.ld (.t 8) 1 false), kH 10 7 false (.ib .geq (.t 9) (kI 4294967295)), kG 11 (.pk (.t 7) kT (.t 10)), kM 12 11, kH 13 12 false (.fa (.t 1) 1), kH 14 12 false (.ld (.t 13) 1 false), kH 15 12 false (.ib .lss (.t 14) (kI 0)), kG 16 (.pk (.t 12) kT (.t 15)), kM 17 16, kH 18 17 false (.fa (.t 1) 1), kH 19 17 false (.ld (.t 18) 1 false), kH 20 17 false (.ib .gtr (.t 19) (kI 4294967295)), kG 21 (.pk (.t 17) kT (.t 20))]) (.cd (.t 21) (.sq (.rg [kG 2 (.mv (.c (.int .u64 0))), kG 3 (.mv kU)]) .rt) .sk)) (.sq (.rg [kF 22 1 1, kL 23 22, kG 24 (.cv .u64 (.t 23)), kG 25 (.ib .mul (.t 24) (.c (.int .u64 4294967296))), kF 26 1 0, kL 27 26, kG 28 (.ib .add (.t 27) (kI 1)), kG 29 (.cv .u64 (.t 28)), kG 30 (.ib .add (.t 25) (.t 29)), kM 2 30, kG 3 (.mv kT)]) .rt)))⟩
theorem k204 : kQ Tryz.f204 c204 := kr_
def c205 : Fu := ⟨43, [.t 10], (.sq (.rg [kG 10 (.mv (.c (.int .u64 0)))]) (.sq (.rg [kM 12 0, kN 13 12, kF 14 13 0, kL 15 14, kM 16 2, kG 17 (.ia (.t 15) (.t 16) 1), kL 18 17, kM 11 18]) (.sq (.rg [kM 19 0, kN 20 19, kF 21 20 0, kL 22 21, kM 23 2, kM 24 3, kG 25 (.ia (.t 22) (.t 23) 1), kS (.st (.t 25) (.t 24) 1)]) (.sq (.rg [kM 26 0, kN 27 26, kF 28 27 1, kL 29 28, kG 30 (.ib .add (.t 29) (kI 1)), kN 31 26, kF 32 31 1, kS (.st (.t 32) (.t 30) 1)]) (.sq (.rg [kM 33 0, kM 34 1, kM 35 2, kM 36 11, kM 37 3, kM 38 4, kG 39 (.bd [ii 0, ii 0, (.int .u64 0), (.int .u64 0), (.bool false)] [(0, 1, (.t 34)), (1, 1, (.t 35)), (2, 1, (.t 36)), (3, 1, (.t 37)), (4, 1, (.t 38))]), kN 40 33, kF 41 40 2, kS (.st (.t 41) (.t 39) 5)]) (.sq (.rg [kM 42 11, kM 10 42]) .rt))))))⟩
theorem k205 : kQ Tryz.f205 c205 := kr_
def c206 : Fu := ⟨10, [], (.rg [kM 4 0, kN 5 4, kF 6 5 8, kL 7 6, kM 8 1, kG 9 (.ca 136 [.t 7, .t 8])])⟩
theorem k206 : kQ Tryz.f206 c206 := kr_
def c207 : Fu := ⟨10, [.t 2], (.sq (.rg [kG 2 (.mv kP)]) (.sq (.rg [kM 3 0, kM 4 0, kN 5 4, kF 6 5 8, kL 7 6, kG 8 (.ca 246 [.t 7]), kG 9 (.ca 245 [.t 3, .t 8]), kM 2 9]) .rt))⟩
theorem k207 : kQ Tryz.f207 c207 := kr_
def c208 : Fu := ⟨7, [.t 2], (.sq (.rg [kG 2 (.mv kU)]) (.sq (.rg [kM 3 0, kN 4 3, kF 5 4 0, kG 6 (.ca 91 [.t 5]), kM 2 6]) .rt))⟩
theorem k208 : kQ Tryz.f208 c208 := kr_
def c209 : Fu := ⟨2, [], .sk⟩
theorem k209 : kQ Tryz.f209 c209 := kr_
def c210 : Fu := ⟨20, [.t 4], (.sq (.rg [kG 4 (.mv kU)]) (.sq (.rg [kM 5 0, kG 6 (.ib .geq (.t 5) (kI 1)), kM 7 6, kH 8 7 true (.mv (.t 0)), kH 9 7 true (.ib .leq (.t 8) (kI 1024)), kG 10 (.pk (.t 7) (.t 9) kU), kM 11 10, kH 12 11 true (.mv (.t 1)), kH 13 11 true (.ib .geq (.t 12) (kI 1)), kG 14 (.pk (.t 11) (.t 13) kU), kM 15 14, kH 16 15 true (.mv (.t 1)), kH 17 15 true (.mv (.t 0)), kH 18 15 true (.ib .leq (.t 16) (.t 17)), kG 19 (.pk (.t 15) (.t 18) kU), kM 4 19]) .rt))⟩
theorem k210 : kQ Tryz.f210 c210 := kr_
def c211 : Fu := ⟨14, [.t 4], (.sq (.rg [kG 4 (.mv kU)]) (.sq (.rg [kM 5 0, kM 6 1, kG 7 (.ca 210 [.t 5, .t 6]), kM 8 7, kH 9 8 true (.mv (.t 1)), kH 10 8 true (.ib .mul (kI 2) (.t 9)), kH 11 8 true (.mv (.t 0)), kH 12 8 true (.ib .gtr (.t 10) (.t 11)), kG 13 (.pk (.t 8) (.t 12) kU), kM 4 13]) .rt))⟩
theorem k211 : kQ Tryz.f211 c211 := kr_
def c212 : Fu := ⟨45, [.t 4], (.sq (.rg [kG 3 (.bx 68 (.t 1)), kG 4 (.mv kU)]) (.sq (.rg [kG 10 (.ld (.t 3) 4 true), kG 11 (.ca 227 [.t 10]), kM 9 11, kG 12 (.ex (.t 9) 0), kG 13 (.ex (.t 9) 1), kM 5 12, kM 6 13]) (.sq (.sq (.rg [kM 14 6, kG 15 (.nt (.t 14))]) (.cd (.t 15) (.sq (.rg [kG 4 (.mv kU)]) .rt) .sk)) (.sq (.rd [jM 0 0 17 0, jN 1 1 18 17, jF 2 3 19 18 5, jL 3 7 20 19, jN 4 15 21 20, jF 5 31 22 21 0, jL 6 63 23 22, jM 7 0 24 0, jN 8 128 25 24, jF 9 384 26 25 5, jL 10 896 27 26, jN 11 1920 28 27, jF 12 3968 29 28 1, jG 13 8064 [29] 30 (.ld (.t 29) 6 true), jM 14 0 31 0, jN 15 16384 32 31, jF 16 49152 33 32 7, jL 17 114688 34 33, jG 18 262016 [30, 34] 35 (.ca 94 [.t 30, .t 34]), jM 19 0 36 0, jN 20 524288 37 36, jF 21 1572864 38 37 16, jL 22 3670016 39 38, jM 23 0 40 5, jG 24 16777215 [23, 35, 39, 40] 41 (.ca 228 [.t 23, .t 35, .t 39, .t 40]), jM 25 33554431 16 41, jG 26 67108863 [16] 42 (.ex (.t 16) 0), jG 27 67108863 [16] 43 (.ex (.t 16) 1), jM 28 134217727 7 42, jM 29 536870911 8 43]) (.sq (.rg [kM 44 7, kM 4 44]) .rt)))))⟩
theorem k212 : kQ Tryz.f212 c212 := kr_
def c213 : Fu := ⟨9, [.t 2], (.sq (.rg [kG 1 (.bx 68 (.t 0)), kG 2 (.mv (kI 0))]) (.sq (.sq (.rg [kF 3 1 1, kL 4 3, kG 5 (.ib .lss (.t 4) (kI 2))]) (.cd (.t 5) (.sq (.rg [kG 2 (.mv (.c (ii (-1))))]) .rt) .sk)) (.sq (.rg [kF 6 1 1, kL 7 6, kG 8 (.ib .sub (.t 7) (kI 2)), kM 2 8]) .rt)))⟩
theorem k213 : kQ Tryz.f213 c213 := kr_
def c214 : Fu := ⟨15, [.t 6], (.sq (.rg [kG 6 (.mv (kI 0))]) (.sq (.sq (.rg [kM 7 0, kM 8 1, kG 9 (.ca 81 [.t 7, .t 8]), kG 10 (.nt (.t 9))]) (.cd (.t 10) (.sq (.rg [kG 6 (.mv (kI 1))]) .rt) .sk)) (.sq (.rg [kM 11 0, kM 12 1, kM 13 2, kG 14 (.ca 205 [.t 11, (kI 2), .t 12, .t 13, kT])]) (.sq (.rg [kG 6 (.mv (kI 0))]) .rt))))⟩
theorem k214 : kQ Tryz.f214 c214 := kr_
def c215 : Fu := ⟨61, [], (.sq (.rg [kM 4 0, kN 5 4, kF 6 5 17, kG 7 (.ld (.t 6) 4 true), kG 2 (.al 68 [ii 0, ii 0, ii 0, ii 0]), kS (.st (.t 2) (.t 7) 4)]) (.sq (.rd [jM 0 0 8 0, jN 1 1 9 8, jF 2 3 10 9 10, jL 3 7 11 10, jG 4 15 [11] 12 (.ib .add (kI 2) (.t 11)), jM 5 0 13 0, jN 6 32 14 13, jF 7 96 15 14 5, jL 8 224 16 15, jN 9 480 17 16, jF 10 992 18 17 1, jF 11 2016 19 18 2, jL 12 4064 20 19, jM 13 0 21 0, jN 14 8192 22 21, jF 15 24576 23 22 14, jL 16 57344 24 23, jG 17 131040 [20, 24] 25 (.ca 247 [.t 20, .t 24]), jF 18 31 26 2 1, ⟨19, 524287, [26, 12], kS (.st (.t 26) (.t 12) 1)⟩, jF 20 1048575 27 2 3, ⟨21, 2097151, [27, 25], kS (.st (.t 27) (.t 25) 1)⟩]) (.sq (.sq (.rg [kM 28 0, kG 29 (.ld (.t 2) 4 true), kG 30 (.ca 212 [.t 28, .t 29]), kG 31 (.nt (.t 30))]) (.cd (.t 31) (.sq (.rg [kM 32 0, kN 33 32, kF 34 33 0, kM 35 0, kG 36 (.mf (.func 80) [.t 35] []), kG 37 (.ca 79 [.t 34, .t 36])]) .rt) .sk)) (.sq (.rg [kM 38 0, kN 39 38, kF 40 39 10, kL 41 40, kM 3 41]) (.sq (.rg [kM 42 0, kN 43 42, kF 44 43 10, kS (.st (.t 44) (.c (ii (-1))) 1)]) (.rd [jM 0 0 45 0, jM 1 0 46 0, jN 2 2 47 46, jF 3 6 48 47 7, jL 4 14 49 48, jM 5 0 50 0, jN 6 32 51 50, jF 7 96 52 51 8, jL 8 224 53 52, jM 9 0 54 3, jM 10 0 55 0, jN 11 1024 56 55, jF 12 3072 57 56 9, jL 13 7168 58 57, jG 14 16382 [49, 53, 54, 58] 59 (.bd [ii 0, ii 0, ii 0, ii 0, ii 0] [(0, 1, (.t 49)), (1, 1, (.t 53)), (2, 1, (.t 54)), (4, 1, (.t 58))]), jG 15 32767 [45, 59] 60 (.ca 153 [.t 45, (kI 0), .t 59])]))))))⟩
theorem k215 : kQ Tryz.f215 c215 := kr_
def c216 : Fu := ⟨24, [.t 2], (.sq (.rg [kG 2 (.mv kU)]) (.sq (.rg [kM 4 0, kM 5 0, kM 6 0, kN 7 6, kF 8 7 5, kL 9 8, kN 10 9, kF 11 10 8, kL 12 11, kG 13 (.ca 248 [.t 12]), kM 3 13, kG 14 (.ex (.t 3) 0), kG 15 (.ex (.t 3) 1), kN 16 4, kF 17 16 7, kS (.st (.t 17) (.t 14) 1), kN 18 5, kF 19 18 9, kS (.st (.t 19) (.t 15) 1)]) (.sq (.rg [kM 20 0, kN 21 20, kF 22 21 9, kL 23 22, kM 2 23]) .rt)))⟩
theorem k216 : kQ Tryz.f216 c216 := kr_
def c217 : Fu := ⟨20, [.t 2], (.sq (.rg [kG 2 (.mv (kI 0))]) (.sq (.rg [kG 3 (.mv (kI 0))]) (.sq (.sq (.rg [kM 6 0, kN 7 6, kF 8 7 0, kG 9 (.ld (.t 8) 6 true), kG 10 (.mv (kI 0))]) (.bl 0 (.lp (.sq (.rg [kG 11 (.ib .lss (.t 10) (kI 3))]) (.sq (.cd (.t 11) .sk (.ex 0)) (.sq (.bl 1 (.sq (.rg [kG 12 (.iv (.t 9) (.t 10) 3 2 true), kG 5 (.al 252 [ii 0, (.slice none 0 0)]), kS (.st (.t 5) (.t 12) 2)]) (.rg [kM 13 3, kF 14 5 1, kL 15 14, kG 16 (.len (.t 15)), kG 17 (.ib .add (.t 13) (.t 16)), kM 3 17]))) (.rg [kG 18 (.ib .add (.t 10) (kI 1)), kM 10 18]))))))) (.sq (.rg [kM 19 3, kM 2 19]) .rt))))⟩
theorem k217 : kQ Tryz.f217 c217 := kr_
def c218 : Fu := ⟨34, [], (.sq (.rg [kM 5 0, kN 6 5, kF 7 6 5, kL 8 7, kN 9 8, kF 10 9 0, kL 11 10, kG 12 (.ca 151 [.t 11, (kI 2)]), kM 4 12, kG 13 (.ex (.t 4) 0), kG 14 (.ex (.t 4) 1), kM 2 13, kM 3 14]) (.sq (.rg [kM 15 0, kM 16 2, kG 17 (.ca 233 [.t 16]), kN 18 15, kF 19 18 8, kS (.st (.t 19) (.t 17) 1)]) (.sq (.rd [jM 0 0 20 0, jN 1 1 21 20, jF 2 3 22 21 5, jL 3 7 23 22, jM 4 0 24 0, jN 5 16 25 24, jF 6 48 26 25 8, jL 7 112 27 26, jG 8 255 [23, 27] 28 (.ca 67 [.t 23, .t 27])]) (.sq (.rg [kM 29 0, kG 30 (.ca 216 [.t 29]), kG 31 (.nt (.t 30))]) (.cd (.t 31) (.rg [kM 32 0, kG 33 (.ca 219 [.t 32])]) .sk)))))⟩
theorem k218 : kQ Tryz.f218 c218 := kr_
def c219 : Fu := ⟨37, [], (.sq (.rd [jM 0 0 2 0, jM 1 0 3 0, jN 2 2 4 3, jF 3 6 5 4 5, jL 4 14 6 5, jN 5 30 7 6, jF 6 62 8 7 7, jL 7 126 9 8, jM 8 0 10 0, jN 9 256 11 10, jF 10 768 12 11 5, jL 11 1792 13 12, jN 12 3840 14 13, jF 13 7936 15 14 1, jF 14 16128 16 15 5, jL 15 32512 17 16, jG 16 65534 [9, 17] 18 (.ca 162 [.t 9, .t 17]), jN 17 131071 19 2, jF 18 262143 20 19 6, ⟨19, 524287, [20, 18], kS (.st (.t 20) (.t 18) 1)⟩]) (.rd [jM 0 0 21 0, jN 1 1 22 21, jF 2 3 23 22 0, jM 3 0 24 0, jN 4 8 25 24, jF 5 24 26 25 6, jL 6 56 27 26, jG 7 120 [27] 28 (.mf (.func 163) [.t 27] []), jM 8 0 29 0, jN 9 256 30 29, jF 10 768 31 30 6, jL 11 1792 32 31, jG 12 3840 [32] 33 (.mf (.func 164) [.t 32] []), jM 13 0 34 0, jG 14 8192 [34] 35 (.mf (.func 249) [.t 34] []), jG 15 32767 [23, 28, 33, 35] 36 (.ca 119 [.t 23, .t 28, .t 33, .t 35])]))⟩
theorem k219 : kQ Tryz.f219 c219 := kr_
def c220 : Fu := ⟨15, [.t 2, .t 3], (.sq (.rg [kG 2 (.mv (kI 0)), kG 3 (.mv kU)]) (.sq (.sq (.rg [kM 4 0, kG 5 (.ca 160 [.t 4]), kG 6 (.nt (.t 5))]) (.cd (.t 6) (.sq (.rg [kG 2 (.mv (kI 0)), kG 3 (.mv kU)]) .rt) .sk)) (.sq (.rd [jM 0 0 7 0, jN 1 1 8 7, jF 2 3 9 8 7, jL 3 7 10 9, jM 4 0 11 0, jN 5 16 12 11, jF 6 48 13 12 9, jL 7 112 14 13, jM 8 15 2 10, jM 9 511 3 14]) .rt)))⟩
theorem k220 : kQ Tryz.f220 c220 := kr_
def c221 : Fu := ⟨58, [], (.sq (.rd [jM 0 0 2 0, jN 1 1 3 2, jF 2 3 4 3 5, jL 3 7 5 4, jN 4 15 6 5, jF 5 31 7 6 0, jL 6 63 8 7, jM 7 0 9 0, jN 8 128 10 9, jF 9 384 11 10 5, jL 10 896 12 11, jN 11 1920 13 12, jF 12 3968 14 13 1, jG 13 8064 [14] 15 (.ld (.t 14) 6 true), jM 14 0 16 0, jN 15 16384 17 16, jF 16 49152 18 17 10, jL 17 114688 19 18, jM 18 0 20 0, jN 19 262144 21 20, jF 20 786432 22 21 11, jL 21 1835008 23 22, jG 22 4194176 [15, 19, 23] 24 (.ca 24 [.t 15, .t 19, .t 23]), jG 23 8388607 [8, 24] 25 (.ca 214 [.t 8, .t 24, (.c (.int .u64 0))])]) (.sq (.rg [kM 26 0, kN 27 26, kF 28 27 11, kL 29 28, kG 30 (.ib .add (.t 29) (kI 1)), kN 31 26, kF 32 31 11, kS (.st (.t 32) (.t 30) 1)]) (.sq (.rd [jM 0 0 33 0, jN 1 1 34 33, jF 2 3 35 34 11, jL 3 7 36 35, jM 4 0 37 0, jN 5 16 38 37, jF 6 48 39 38 5, jL 7 112 40 39, jN 8 240 41 40, jF 9 496 42 41 1, jF 10 1008 43 42 2, jL 11 2032 44 43, jG 12 4095 [36, 44] 45 (.ib .lss (.t 36) (.t 44))]) (.cd (.t 45) (.rg [kM 46 0, kN 47 46, kF 48 47 0, kM 49 0, kG 50 (.mf (.func 221) [.t 49] []), kG 51 (.ca 79 [.t 48, .t 50])]) (.rg [kM 52 0, kN 53 52, kF 54 53 0, kM 55 0, kG 56 (.mf (.func 157) [.t 55] []), kG 57 (.ca 79 [.t 54, .t 56])])))))⟩
theorem k221 : kQ Tryz.f221 c221 := kr_
def c222 : Fu := ⟨54, [], (.sq (.rd [jM 0 0 4 0, jM 1 0 5 0, jN 2 2 6 5, jF 3 6 7 6 5, jL 4 14 8 7, jN 5 30 9 8, jF 6 62 10 9 0, jL 7 126 11 10, jM 8 0 12 0, jN 9 256 13 12, jF 10 768 14 13 5, jL 11 1792 15 14, jN 12 3840 16 15, jF 13 7936 17 16 1, jL 14 16128 18 17, jG 15 32766 [11, 18] 19 (.ca 151 [.t 11, .t 18]), jM 16 65534 3 19, jG 17 131070 [3] 20 (.ex (.t 3) 0), jG 18 131070 [3] 21 (.ex (.t 3) 1), jN 19 262143 22 4, jF 20 786431 23 22 8, ⟨21, 1835007, [23, 20], kS (.st (.t 23) (.t 20) 1)⟩]) (.sq (.rg [kM 24 0, kN 25 24, kF 26 25 9, kS (.st (.t 26) (.c (.slice none 0 0)) 1)]) (.sq (.rd [jM 0 0 27 0, jN 1 1 28 27, jF 2 3 29 28 5, jL 3 7 30 29, jM 4 0 31 0, jN 5 16 32 31, jF 6 48 33 32 8, jL 7 112 34 33, jG 8 255 [30, 34] 35 (.ca 95 [.t 30, .t 34]), jM 9 511 2 35]) (.sq (.rg [kM 36 2, kG 37 (.ib .geq (.t 36) (kI 0))]) (.cd (.t 37) (.sq (.rg [kM 38 0, kM 39 0, kN 40 39, kF 41 40 9, kL 42 41, kM 43 2, kG 44 (.bs 3 1 [ii 0] [(0, 1, (.t 43))]), kG 45 (.ap 53 3 1 8 [ii 0] (.t 42) (.t 44)), kN 46 38, kF 47 46 9, kS (.st (.t 47) (.t 45) 1)]) (.rg [kM 48 0, kN 49 48, kF 50 49 0, kM 51 0, kG 52 (.mf (.func 250) [.t 51] []), kG 53 (.ca 79 [.t 50, .t 52])])) .sk)))))⟩
theorem k222 : kQ Tryz.f222 c222 := kr_
def c223 : Fu := ⟨11, [.t 2], (.sq (.rg [kG 2 (.mv (.c (.slice none 0 0)))]) (.sq (.sq (.rg [kM 3 0, kG 4 (.ca 164 [.t 3]), kG 5 (.nt (.t 4))]) (.cd (.t 5) (.sq (.rg [kG 2 (.mv (.c (.slice none 0 0)))]) .rt) .sk)) (.sq (.rg [kM 6 0, kN 7 6, kF 8 7 9, kL 9 8, kG 10 (.ca 189 [.t 9]), kM 2 10]) .rt)))⟩
theorem k223 : kQ Tryz.f223 c223 := kr_
def c224 : Fu := ⟨28, [], (.sq (.rd [jM 0 0 5 0, jN 1 1 6 5, jF 2 3 7 6 5, jL 3 7 8 7, jM 4 0 9 0, jN 5 16 10 9, jF 6 48 11 10 8, jL 7 112 12 11, jG 8 255 [8, 12] 13 (.ca 174 [.t 8, .t 12]), jM 9 511 4 13, jG 10 1023 [4] 14 (.ex (.t 4) 0), jG 11 1023 [4] 15 (.ex (.t 4) 1), jG 12 0 [] 3 (.al 68 [ii 0, ii 0, ii 0, ii 0]), jM 13 6143 2 14, ⟨14, 16383, [3, 15], kS (.st (.t 3) (.t 15) 4)⟩]) (.sq (.rg [kM 16 0, kM 17 0, kG 18 (.ld (.t 3) 4 true), kG 19 (.ca 251 [.t 17, .t 18]), kN 20 16, kF 21 20 10, kS (.st (.t 21) (.t 19) 4)]) (.rg [kM 22 0, kN 23 22, kF 24 23 0, kM 25 0, kG 26 (.mf (.func 252) [.t 25] []), kG 27 (.ca 79 [.t 24, .t 26])])))⟩
theorem k224 : kQ Tryz.f224 c224 := kr_
def c225 : Fu := ⟨21, [.t 4], (.sq (.rg [kG 4 (.mv kU)]) (.sq (.rg [kM 5 1, kG 6 (.ib .geq (.t 5) (kI 0)), kM 7 6, kH 8 7 true (.mv (.t 1)), kH 9 7 true (.ib .leq (.t 8) (kI 64)), kG 10 (.pk (.t 7) (.t 9) kU), kM 11 10, kH 12 11 true (.mv (.t 0)), kH 13 11 true (.ib .geq (.t 12) (kI 0)), kG 14 (.pk (.t 11) (.t 13) kU), kM 15 14, kH 16 15 true (.mv (.t 0)), kH 17 15 true (.mv (.t 1)), kH 18 15 true (.ib .sub (kI 64) (.t 17)), kH 19 15 true (.ib .leq (.t 16) (.t 18)), kG 20 (.pk (.t 15) (.t 19) kU), kM 4 20]) .rt))⟩
theorem k225 : kQ Tryz.f225 c225 := kr_
def c226 : Fu := ⟨8, [.t 2], (.sq (.rg [kG 2 (.mv (.c (.int .u64 0)))]) (.sq (.rg [kM 3 0, kG 4 (.mm true (.t 3) (kI 0)), kG 5 (.mm false (.t 4) (kI 64)), kG 6 (.ib .shl (.c (.int .u64 1)) (.t 5)), kG 7 (.ib .sub (.t 6) (.c (.int .u64 1))), kM 2 7]) .rt))⟩
theorem k226 : kQ Tryz.f226 c226 := kr_
def c227 : Fu := ⟨58, [.t 2, .t 3], (.sq (.rg [kG 1 (.bx 68 (.t 0)), kG 2 (.mv (.c (.int .u64 0))), kG 3 (.mv kU)]) (.sq (.sq (.rg [kF 6 1 0, kL 7 6, kG 8 (.ca 243 [.t 7, (kI 0), (kI 4294967295)]), kG 9 (.nt (.t 8)), kM 10 9, kH 11 10 false (.fa (.t 1) 1), kH 12 10 false (.ld (.t 11) 1 false), kH 13 10 false (.ca 243 [.t 12, (kI 0), (kI 4097)]), kH 14 10 false (.nt (.t 13)), kG 15 (.pk (.t 10) kT (.t 14)), kM 16 15, kH 17 16 false (.fa (.t 1) 2), kH 18 16 false (.ld (.t 17) 1 false), kH 19 16 false (.ca 243 [.t 18, (kI 0), (kI 3)]), kH 20 16 false (.nt (.t 19)), kG 21 (.pk (.t 16) kT (.t 20)), kM 22 21, kH 23 22 false (.fa (.t 1) 3), kH 24 22 false (.ld (.t 23) 1 false), kH 25 22 false (.ca 243 [.t 24, (kI 0), (kI 1024)]), kH 26 22 false (.nt (.t 25)), kG 27 (.pk (.t 22) kT (.t 26))]) (.cd (.t 27) (.sq (.rg [kG 2 (.mv (.c (.int .u64 0))), kG 3 (.mv kU)]) .rt) .sk)) (.sq (.rg [kF 29 1 3, kL 30 29, kG 31 (.cv .u64 (.t 30)), kG 32 (.ca 244 [(.c (.int .u64 0)), (kI 0), (kI 12), .t 31]), kM 28 32, kG 33 (.ex (.t 28) 0), kG 34 (.ex (.t 28) 1), kM 4 33, kM 5 34]) (.sq (.rg [kM 36 4, kF 37 1 2, kL 38 37, kG 39 (.cv .u64 (.t 38)), kG 40 (.ca 244 [.t 36, (kI 12), (kI 4), .t 39]), kM 35 40, kG 41 (.ex (.t 35) 0), kG 42 (.ex (.t 35) 1), kM 4 41]) (.sq (.rg [kM 44 4, kF 45 1 1, kL 46 45, kG 47 (.cv .u64 (.t 46)), kG 48 (.ca 244 [.t 44, (kI 16), (kI 16), .t 47]), kM 43 48, kG 49 (.ex (.t 43) 0), kG 50 (.ex (.t 43) 1), kM 4 49]) (.sq (.rg [kM 51 4, kF 52 1 0, kL 53 52, kG 54 (.cv .u64 (.t 53)), kG 55 (.ca 244 [.t 51, (kI 32), (kI 32), .t 54]), kG 56 (.ex (.t 55) 0), kG 57 (.ex (.t 55) 1), kM 2 56, kM 3 57]) .rt))))))⟩
theorem k227 : kQ Tryz.f227 c227 := kr_
def c228 : Fu := ⟨37, [.t 8, .t 9], (.sq (.rg [kG 8 (.mv kU), kG 9 (.mv (kI 0))]) (.sq (.sq (.rg [kM 10 0, kM 11 1, kG 12 (.ca 81 [.t 10, .t 11]), kG 13 (.nt (.t 12))]) (.cd (.t 13) (.sq (.rg [kG 8 (.mv kU), kG 9 (.mv (kI 1))]) .rt) .sk)) (.sq (.sq (.rg [kM 14 0, kN 15 14, kF 16 15 0, kL 17 16, kM 18 1, kG 19 (.ia (.t 17) (.t 18) 1), kL 20 19, kM 21 2, kG 22 (.ib .neq (.t 20) (.t 21))]) (.cd (.t 22) (.sq (.rg [kM 23 0, kM 24 1, kM 25 0, kN 26 25, kF 27 26 0, kL 28 27, kM 29 1, kG 30 (.ia (.t 28) (.t 29) 1), kL 31 30, kG 32 (.ca 205 [.t 23, (kI 3), .t 24, .t 31, kU])]) (.sq (.rg [kG 8 (.mv kU), kG 9 (.mv (kI 0))]) .rt)) .sk)) (.sq (.rg [kM 33 0, kM 34 1, kM 35 3, kG 36 (.ca 205 [.t 33, (kI 3), .t 34, .t 35, kT])]) (.sq (.rg [kG 8 (.mv kT), kG 9 (.mv (kI 0))]) .rt)))))⟩
theorem k228 : kQ Tryz.f228 c228 := kr_
def c229 : Fu := ⟨23, [.t 2], (.sq (.rg [kG 2 (.mv (kI 0))]) (.sq (.rd [jM 0 0 3 0, jN 1 1 4 3, jF 2 3 5 4 3, jG 3 7 [5] 6 (.iaa (.t 5) (kI 0) 3 1), jL 4 15 7 6, jG 5 31 [7] 8 (.len (.t 7)), jM 6 0 9 0, jN 7 64 10 9, jF 8 192 11 10 3, jG 9 448 [11] 12 (.iaa (.t 11) (kI 1) 3 1), jL 10 960 13 12, jG 11 1984 [13] 14 (.len (.t 13)), jG 12 4095 [8, 14] 15 (.ib .add (.t 8) (.t 14)), jM 13 0 16 0, jN 14 8192 17 16, jF 15 24576 18 17 3, jG 16 57344 [18] 19 (.iaa (.t 18) (kI 2) 3 1), jL 17 122880 20 19, jG 18 253952 [20] 21 (.len (.t 20)), jG 19 524287 [15, 21] 22 (.ib .add (.t 15) (.t 21)), jM 20 1048575 2 22]) .rt))⟩
theorem k229 : kQ Tryz.f229 c229 := kr_
def c230 : Fu := ⟨27, [.t 4], (.sq (.rg [kG 4 (.mv (.c (.slice none 0 0)))]) (.sq (.rg [kG 5 (.mv (.c (.slice none 0 0)))]) (.sq (.bl 0 (.lp (.sq (.sq (.rg [kM 7 0, kM 8 1, kG 9 (.ca 253 [.t 7, .t 8])]) (.cd (.t 9) .sk (.ex 0))) (.bl 1 (.sq (.rg [kM 10 0, kM 11 1, kG 12 (.ca 254 [.t 10, .t 11]), kM 6 12]) (.sq (.rg [kM 13 5, kM 14 0, kM 15 6, kN 16 14, kF 17 16 3, kG 18 (.iaa (.t 17) (.t 15) 3 1), kL 19 18, kG 20 (.ap 53 3 1 8 [ii 0] (.t 13) (.t 19)), kM 5 20]) (.rg [kM 21 0, kM 22 6, kN 23 21, kF 24 23 3, kG 25 (.iaa (.t 24) (.t 22) 3 1), kS (.st (.t 25) (.c (.slice none 0 0)) 1)]))))))) (.sq (.rg [kM 26 5, kM 4 26]) .rt))))⟩
theorem k230 : kQ Tryz.f230 c230 := kr_
def c231 : Fu := ⟨33, [.t 2, .t 3], (.sq (.rg [kG 2 (.mv (kI 0)), kG 3 (.mv kU)]) (.sq (.rg [kM 6 0, kN 7 6, kF 8 7 1, kL 9 8, kG 10 (.len (.t 9)), kM 4 10]) (.sq (.sq (.rg [kM 11 4, kG 12 (.ib .eql (.t 11) (kI 0))]) (.cd (.t 12) (.sq (.rg [kG 2 (.mv (kI 0)), kG 3 (.mv kU)]) .rt) .sk)) (.sq (.rg [kM 13 0, kN 14 13, kF 15 14 1, kL 16 15, kM 17 4, kG 18 (.ib .sub (.t 17) (kI 1)), kG 19 (.ia (.t 16) (.t 18) 1), kL 20 19, kM 5 20]) (.sq (.rg [kM 21 0, kM 22 0, kN 23 22, kF 24 23 1, kL 25 24, kM 26 4, kG 27 (.ib .sub (.t 26) (kI 1)), kG 28 (.sl 1 (.t 25) none (some (.t 27)) none), kG 29 (.ap 53 3 1 8 [ii 0] (.c (.slice none 0 0)) (.t 28)), kN 30 21, kF 31 30 1, kS (.st (.t 31) (.t 29) 1)]) (.sq (.rg [kM 32 5, kM 2 32, kG 3 (.mv kT)]) .rt))))))⟩
theorem k231 : kQ Tryz.f231 c231 := kr_
def c232 : Fu := ⟨9, [], (.sq (.rg [kM 2 0, kN 3 2, kF 4 3 1, kL 5 4, kG 6 (.cl (.t 5) [])]) (.rg [kM 7 0, kG 8 (.ca 190 [.t 7])]))⟩
theorem k232 : kQ Tryz.f232 c232 := kr_
def c233 : Fu := ⟨6, [.t 2], (.sq (.rg [kG 2 (.mv (kI 0))]) (.sq (.rg [kM 3 0, kG 4 (.mm false (.t 3) (.c (.int .u64 4611686018427387903))), kG 5 (.cv .i64 (.t 4)), kM 2 5]) .rt))⟩
theorem k233 : kQ Tryz.f233 c233 := kr_
def c234 : Fu := ⟨23, [.t 4, .t 5], (.sq (.rg [kG 4 (.mv kP), kG 5 (.mv (kI 0))]) (.sq (.sq (.rg [kM 7 0, kM 8 1, kG 9 (.ca 198 [.t 7, .t 8]), kG 10 (.nt (.t 9))]) (.cd (.t 10) (.sq (.rg [kG 4 (.mv kP), kG 5 (.mv (kI 1))]) .rt) .sk)) (.sq (.rg [kM 11 0, kM 12 1, kG 13 (.bs 3 1 [ii 0] [(0, 1, (.t 12))]), kG 14 (.bd [.nilFunc, .nilFunc, .nilFunc, .nilFunc, ii 0, (.pointer none), (.slice none 0 0)] [(5, 1, (.t 11)), (6, 1, (.t 13))]), kG 15 (.bx 292 (.t 14)), kM 6 15]) (.sq (.rg [kM 16 6, kN 17 16, kF 18 17 0, kM 19 6, kG 20 (.mf (.func 255) [.t 19] []), kG 21 (.ca 79 [.t 18, .t 20])]) (.sq (.rg [kM 22 6, kM 4 22, kG 5 (.mv (kI 0))]) .rt)))))⟩
theorem k234 : kQ Tryz.f234 c234 := kr_
def c235 : Fu := ⟨7, [.t 2], (.sq (.rg [kG 2 (.mv kU)]) (.sq (.rg [kM 3 0, kN 4 3, kF 5 4 0, kG 6 (.ca 91 [.t 5]), kM 2 6]) .rt))⟩
theorem k235 : kQ Tryz.f235 c235 := kr_
def c236 : Fu := ⟨7, [.t 2], (.sq (.rg [kG 2 (.mv kU)]) (.sq (.rg [kM 3 0, kN 4 3, kF 5 4 0, kG 6 (.ca 92 [.t 5]), kM 2 6]) .rt))⟩
theorem k236 : kQ Tryz.f236 c236 := kr_
def c237 : Fu := ⟨18, [], (.sq (.rd [jM 0 0 2 0, jN 1 1 3 2, jF 2 3 4 3 6, jL 3 7 5 4, jM 4 0 6 0, jN 5 16 7 6, jF 6 48 8 7 11, jL 7 112 9 8, jM 8 0 10 0, jN 9 256 11 10, jF 10 768 12 11 9, jL 11 1792 13 12, jG 12 3840 [13] 14 (.ca 257 [.t 13]), jG 13 8191 [5, 9, 14] 15 (.ca 256 [.t 5, .t 9, .t 14])]) (.rg [kM 16 0, kG 17 (.ca 192 [.t 16])]))⟩
theorem k237 : kQ Tryz.f237 c237 := kr_
def c238 : Fu := ⟨15, [.t 4, .t 5], (.sq (.rg [kG 4 (.mv kP), kG 5 (.mv (kI 0))]) (.sq (.rg [kM 6 0, kN 7 6, kF 8 7 7, kL 9 8, kM 10 1, kG 11 (.bs 3 1 [ii 0] [(0, 1, (.t 10))]), kG 12 (.ca 258 [.t 9, .t 11]), kG 13 (.ex (.t 12) 0), kG 14 (.ex (.t 12) 1), kM 4 13, kM 5 14]) .rt))⟩
theorem k238 : kQ Tryz.f238 c238 := kr_
def c239 : Fu := ⟨7, [.t 2], (.sq (.rg [kG 2 (.mv kU)]) (.sq (.rg [kM 3 0, kN 4 3, kF 5 4 0, kG 6 (.ca 91 [.t 5]), kM 2 6]) .rt))⟩
theorem k239 : kQ Tryz.f239 c239 := kr_
def c240 : Fu := ⟨7, [.t 2], (.sq (.rg [kG 2 (.mv kU)]) (.sq (.rg [kM 3 0, kN 4 3, kF 5 4 0, kG 6 (.ca 92 [.t 5]), kM 2 6]) .rt))⟩
theorem k240 : kQ Tryz.f240 c240 := kr_
def c241 : Fu := ⟨36, [], (.sq (.rg [kM 2 0, kM 3 0, kM 4 0, kN 5 4, kF 6 5 0, kG 7 (.ca 175 [.t 6]), kN 8 2, kF 9 8 15, kS (.st (.t 9) (.t 7) 1), kN 10 3, kF 11 10 13, kS (.st (.t 11) (.c (ii (-1))) 1)]) (.sq (.rg [kM 12 0, kM 13 0, kN 14 13, kF 15 14 6, kL 16 15, kG 17 (.ca 207 [.t 16]), kN 18 12, kF 19 18 10, kS (.st (.t 19) (.t 17) 1)]) (.rd [jM 0 0 20 0, jN 1 1 21 20, jF 2 3 22 21 0, jM 3 0 23 0, jN 4 8 24 23, jF 5 24 25 24 10, jL 6 56 26 25, jG 7 120 [26] 27 (.mf (.func 208) [.t 26] []), jM 8 0 28 0, jN 9 256 29 28, jF 10 768 30 29 10, jL 11 1792 31 30, jG 12 3840 [31] 32 (.mf (.func 188) [.t 31] []), jM 13 0 33 0, jG 14 8192 [33] 34 (.mf (.func 259) [.t 33] []), jG 15 32767 [22, 27, 32, 34] 35 (.ca 119 [.t 22, .t 27, .t 32, .t 34])])))⟩
theorem k241 : kQ Tryz.f241 c241 := kr_
def c242 : Fu := ⟨20, [.c 4 2 true], (.sq (.rg [kG 2 (.bx 264 (.t 0)), kG 4 (.al 264 [ii 0, ii 0])]) (.sq (.sq (.rg [kF 5 2 1, kL 6 5, kG 7 (.ib .lss (.t 6) (kI 0)), kM 8 7, kH 9 8 false (.fa (.t 2) 1), kH 10 8 false (.ld (.t 9) 1 false), kH 11 8 false (.ib .geq (.t 10) (kI 4294967295)), kG 12 (.pk (.t 8) kT (.t 11))]) (.cd (.t 12) (.sq (.rg [kM 13 1, kG 14 (.bd [ii 0, ii 0] [(0, 1, (.t 13)), (1, 1, (kI 0))]), kS (.st (.t 4) (.t 14) 2)]) .rt) .sk)) (.sq (.rg [kM 15 1, kF 16 2 1, kL 17 16, kG 18 (.ib .add (.t 17) (kI 1)), kG 19 (.bd [ii 0, ii 0] [(0, 1, (.t 15)), (1, 1, (.t 18))]), kS (.st (.t 4) (.t 19) 2)]) .rt)))⟩
theorem k242 : kQ Tryz.f242 c242 := kr_
def c243 : Fu := ⟨15, [.t 6], (.sq (.rg [kG 6 (.mv kU)]) (.sq (.rg [kM 7 0, kM 8 1, kG 9 (.ib .geq (.t 7) (.t 8)), kM 10 9, kH 11 10 true (.mv (.t 0)), kH 12 10 true (.mv (.t 2)), kH 13 10 true (.ib .leq (.t 11) (.t 12)), kG 14 (.pk (.t 10) (.t 13) kU), kM 6 14]) .rt))⟩
theorem k243 : kQ Tryz.f243 c243 := kr_
def c244 : Fu := ⟨30, [.t 8, .t 9], (.sq (.rg [kG 8 (.mv (.c (.int .u64 0))), kG 9 (.mv kU)]) (.sq (.sq (.rg [kM 10 1, kM 11 2, kG 12 (.ca 225 [.t 10, .t 11]), kG 13 (.nt (.t 12)), kM 14 13, kH 15 14 false (.mv (.t 3)), kH 16 14 false (.mv (.t 2)), kH 17 14 false (.ca 260 [.t 15, .t 16]), kH 18 14 false (.nt (.t 17)), kG 19 (.pk (.t 14) kT (.t 18))]) (.cd (.t 19) (.sq (.rg [kG 8 (.mv (.c (.int .u64 0))), kG 9 (.mv kU)]) .rt) .sk)) (.sq (.rd [jM 0 0 20 0, jM 1 0 21 2, jG 2 2 [21] 22 (.ca 226 [.t 21]), jM 3 0 23 1, jG 4 14 [22, 23] 24 (.ib .shl (.t 22) (.t 23)), jG 5 31 [20, 24] 25 (.ib .andNot (.t 20) (.t 24)), jM 6 0 26 3, jM 7 0 27 1, jG 8 192 [26, 27] 28 (.ib .shl (.t 26) (.t 27)), jG 9 511 [25, 28] 29 (.ib .or (.t 25) (.t 28)), jM 10 1023 8 29, jG 11 2047 [] 9 (.mv kT)]) .rt)))⟩
theorem k244 : kQ Tryz.f244 c244 := kr_
end
section
set_option maxRecDepth 100000
def c245 : Fu := ⟨33, [.t 4], (.sq (.rg [kG 4 (.mv kP)]) (.sq (.rg [kM 8 1, kG 9 (.bd [.nilFunc, .nilFunc, .nilFunc, .nilFunc, ii 0, (.slice none 0 0)] [(5, 1, (.t 8))]), kG 10 (.bx 248 (.t 9)), kM 5 10]) (.sq (.sq (.rg [kM 12 0, kN 13 12, kF 14 13 7, kL 15 14, kM 16 1, kG 17 (.ca 258 [.t 15, .t 16]), kM 11 17, kG 18 (.ex (.t 11) 0), kG 19 (.ex (.t 11) 1), kM 6 18, kM 7 19]) (.sq (.rg [kM 20 7, kG 21 (.ib .eql (.t 20) (kI 0))]) (.cd (.t 21) (.rg [kM 22 5, kN 23 22, kF 24 23 0, kM 25 6, kG 26 (.mf (.func 239) [.t 25] []), kM 27 6, kG 28 (.mf (.func 240) [.t 27] []), kM 29 5, kG 30 (.mf (.func 261) [.t 29] []), kG 31 (.ca 119 [.t 24, .t 26, .t 28, .t 30])]) .sk))) (.sq (.rg [kM 32 5, kM 4 32]) .rt))))⟩
theorem k245 : kQ Tryz.f245 c245 := kr_
def c246 : Fu := ⟨16, [.t 2], (.sq (.rg [kG 2 (.mv (.c (.slice none 0 0)))]) (.sq (.rd [jM 0 0 3 0, jM 1 0 4 0, jN 2 2 5 4, jF 3 6 6 5 1, jL 4 14 7 6, jG 5 30 [7] 8 (.len (.t 7)), jM 6 0 9 0, jN 7 64 10 9, jF 8 192 11 10 0, jL 9 448 12 11, jG 10 1022 [8, 12] 13 (.ib .sub (.t 8) (.t 12)), jG 11 2046 [13] 14 (.mm true (.t 13) (kI 0)), jG 12 4095 [3, 14] 15 (.ca 262 [.t 3, .t 14]), jM 13 8191 2 15]) .rt))⟩
theorem k246 : kQ Tryz.f246 c246 := kr_
def c247 : Fu := ⟨16, [.t 4], (.sq (.rg [kG 4 (.mv (kI 0))]) (.sq (.bl 0 (.sq (.rg [kM 6 0, kM 7 1, kG 8 (.ca 210 [.t 6, .t 7]), kG 9 (.nt (.t 8)), kM 5 9]) (.cd (.t 5) (.sq (.rg [kG 4 (.mv (kI 0))]) .rt) (.sq (.rg [kM 11 0, kM 12 1, kG 13 (.ca 211 [.t 11, .t 12]), kM 10 13]) (.cd (.t 10) (.sq (.rg [kM 14 0, kM 4 14]) .rt) .sk))))) (.sq (.rg [kM 15 1, kM 4 15]) .rt)))⟩
theorem k247 : kQ Tryz.f247 c247 := kr_
def c248 : Fu := ⟨35, [.t 2, .t 3], (.sq (.rg [kG 2 (.mv (kI 0)), kG 3 (.mv kU)]) (.sq (.sq (.rg [kM 6 0, kN 7 6, kF 8 7 1, kL 9 8, kG 10 (.len (.t 9)), kG 11 (.ib .eql (.t 10) (kI 0))]) (.cd (.t 11) (.sq (.rg [kG 2 (.mv (kI 0)), kG 3 (.mv kU)]) .rt) .sk)) (.sq (.rg [kM 12 0, kN 13 12, kF 14 13 1, kL 15 14, kG 16 (.len (.t 15)), kG 17 (.ib .sub (.t 16) (kI 1)), kM 4 17]) (.sq (.rg [kM 18 0, kN 19 18, kF 20 19 1, kL 21 20, kM 22 4, kG 23 (.ia (.t 21) (.t 22) 1), kL 24 23, kM 5 24]) (.sq (.rg [kM 25 0, kM 26 0, kN 27 26, kF 28 27 1, kL 29 28, kM 30 4, kG 31 (.sl 1 (.t 29) none (some (.t 30)) none), kN 32 25, kF 33 32 1, kS (.st (.t 33) (.t 31) 1)]) (.sq (.rg [kM 34 5, kM 2 34, kG 3 (.mv kT)]) .rt))))))⟩
theorem k248 : kQ Tryz.f248 c248 := kr_
def c249 : Fu := ⟨27, [], (.sq (.rg [kM 3 0, kN 4 3, kF 5 4 6, kL 6 5, kG 7 (.ca 223 [.t 6]), kM 2 7]) (.sq (.rg [kM 8 2, kG 9 (.len (.t 8)), kG 10 (.ib .gtr (.t 9) (kI 0))]) (.cd (.t 10) (.sq (.rg [kM 11 0, kM 12 0, kM 13 2, kG 14 (.ia (.t 13) (kI 0) 1), kL 15 14, kN 16 11, kF 17 16 7, kS (.st (.t 17) (.t 15) 1), kN 18 12, kF 19 18 9, kS (.st (.t 19) kT 1)]) (.rd [jM 0 0 20 0, jN 1 1 21 20, jF 2 3 22 21 5, jL 3 7 23 22, jM 4 0 24 2, jG 5 16 [24] 25 (.sl 1 (.t 24) (some (kI 1)) none none), jG 6 63 [23, 25] 26 (.ca 206 [.t 23, .t 25])])) .sk)))⟩
theorem k249 : kQ Tryz.f249 c249 := kr_
def c250 : Fu := ⟨86, [], (.sq (.rd [jM 0 0 5 0, jN 1 1 6 5, jF 2 3 7 6 5, jL 3 7 8 7, jN 4 15 9 8, jF 5 31 10 9 0, jL 6 63 11 10, jM 7 0 12 0, jN 8 128 13 12, jF 9 384 14 13 5, jL 10 896 15 14, jN 11 1920 16 15, jF 12 3968 17 16 2, jL 13 8064 18 17, jM 14 0 19 0, jN 15 16384 20 19, jF 16 49152 21 20 9, jL 17 114688 22 21, jM 18 0 23 0, jN 19 262144 24 23, jF 20 786432 25 24 9, jL 21 1835008 26 25, jG 22 3932160 [26] 27 (.len (.t 26)), jG 23 8126464 [27] 28 (.ib .sub (.t 27) (kI 1)), jG 24 16760832 [22, 28] 29 (.ia (.t 22) (.t 28) 1), jL 25 33538048 30 29, jG 26 67108736 [18, 30] 31 (.ib .add (.t 18) (.t 30)), jG 27 134217727 [11, 31] 32 (.ca 151 [.t 11, .t 31]), jM 28 268435455 4 32, jG 29 536870911 [4] 33 (.ex (.t 4) 0), jG 30 536870911 [4] 34 (.ex (.t 4) 1), jM 31 1073741823 2 33, jM 32 4294967295 3 34]) (.sq (.rg [kM 35 0, kM 36 0, kN 37 36, kF 38 37 5, kL 39 38, kM 40 2, kG 41 (.ca 96 [.t 39, .t 40]), kN 42 35, kF 43 42 7, kS (.st (.t 43) (.t 41) 1)]) (.sq (.rd [jM 0 0 44 0, jN 1 1 45 44, jF 2 3 46 45 7, jL 3 7 47 46, jG 4 15 [47] 48 (.ib .geq (.t 47) (kI 0)), jM 5 31 49 48, ⟨6, 63, [0, 49], kH 50 49 true (.mv (.t 0))⟩, ⟨7, 127, [50, 49], kH 51 49 true (.nc (.t 50))⟩, ⟨8, 255, [51, 49], kH 52 49 true (.fa (.t 51) 9)⟩, ⟨9, 511, [52, 49], kH 53 49 true (.ld (.t 52) 1 false)⟩, ⟨10, 1023, [53, 49], kH 54 49 true (.len (.t 53))⟩, ⟨11, 63, [0, 49], kH 55 49 true (.mv (.t 0))⟩, ⟨12, 2111, [55, 49], kH 56 49 true (.nc (.t 55))⟩, ⟨13, 6207, [56, 49], kH 57 49 true (.fa (.t 56) 6)⟩, ⟨14, 14399, [57, 49], kH 58 49 true (.ld (.t 57) 1 false)⟩, ⟨15, 32767, [54, 58, 49], kH 59 49 true (.ib .lss (.t 54) (.t 58))⟩, jG 16 65535 [49, 59] 60 (.pk (.t 49) (.t 59) kU)]) (.cd (.t 60) (.sq (.rd [jM 0 0 61 0, jM 1 0 62 0, jN 2 2 63 62, jF 3 6 64 63 9, jL 4 14 65 64, jM 5 0 66 0, jN 6 32 67 66, jF 7 96 68 67 7, jL 8 224 69 68, jG 9 480 [69] 70 (.bs 3 1 [ii 0] [(0, 1, (.t 69))]), jG 10 1022 [65, 70] 71 (.ap 53 3 1 8 [ii 0] (.t 65) (.t 70)), jN 11 2047 72 61, jF 12 4095 73 72 9, ⟨13, 8191, [73, 71], kS (.st (.t 73) (.t 71) 1)⟩]) (.rg [kM 74 0, kN 75 74, kF 76 75 0, kM 77 0, kG 78 (.mf (.func 250) [.t 77] []), kG 79 (.ca 79 [.t 76, .t 78])])) (.rg [kM 80 0, kN 81 80, kF 82 81 0, kM 83 0, kG 84 (.mf (.func 263) [.t 83] []), kG 85 (.ca 79 [.t 82, .t 84])])))))⟩
theorem k250 : kQ Tryz.f250 c250 := kr_
def c251 : Fu := ⟨18, [.c 4 4 true], (.sq (.rg [kG 3 (.bx 68 (.t 1)), kG 4 (.al 68 [ii 0, ii 0, ii 0, ii 0])]) (.sq (.rg [kG 5 (.mv (kI 0))]) (.sq (.sq (.rg [kF 6 3 0, kL 7 6, kG 8 (.ib .lss (.t 7) (kI 4294967295))]) (.cd (.t 8) (.rg [kF 9 3 0, kL 10 9, kG 11 (.ib .add (.t 10) (kI 1)), kM 5 11]) .sk)) (.sq (.rg [kM 12 5, kM 13 0, kN 14 13, kF 15 14 6, kL 16 15, kG 17 (.bd [ii 0, ii 0, ii 0, ii 0] [(0, 1, (.t 12)), (1, 1, (kI 1)), (2, 1, (.t 16))]), kS (.st (.t 4) (.t 17) 4)]) .rt))))⟩
theorem k251 : kQ Tryz.f251 c251 := kr_
def c252 : Fu := ⟨33, [], (.sq (.rg [kM 5 0, kN 6 5, kF 7 6 10, kG 8 (.ld (.t 7) 4 true), kG 9 (.ca 227 [.t 8]), kM 4 9, kG 10 (.ex (.t 4) 0), kG 11 (.ex (.t 4) 1), kM 2 10, kM 3 11]) (.rd [jM 0 0 12 0, jN 1 1 13 12, jF 2 3 14 13 5, jL 3 7 15 14, jN 4 15 16 15, jF 5 31 17 16 0, jL 6 63 18 17, jM 7 0 19 0, jN 8 128 20 19, jF 9 384 21 20 5, jL 10 896 22 21, jN 11 1920 23 22, jF 12 3968 24 23 1, jG 13 8064 [24] 25 (.ld (.t 24) 6 true), jM 14 0 26 0, jN 15 16384 27 26, jF 16 49152 28 27 8, jL 17 114688 29 28, jG 18 262016 [25, 29] 30 (.ca 94 [.t 25, .t 29]), jM 19 0 31 2, jG 20 1048575 [18, 30, 31] 32 (.ca 214 [.t 18, .t 30, .t 31])]))⟩
theorem k252 : kQ Tryz.f252 c252 := kr_
def c253 : Fu := ⟨13, [.t 4], (.sq (.rg [kG 4 (.mv kU)]) (.sq (.rg [kM 5 1, kG 6 (.ib .geq (.t 5) (kI 2)), kM 7 6, kH 8 7 true (.mv (.t 0)), kH 9 7 true (.mv (.t 1)), kH 10 7 true (.ca 254 [.t 8, .t 9]), kH 11 7 true (.ib .geq (.t 10) (kI 0)), kG 12 (.pk (.t 7) (.t 11) kU), kM 4 12]) .rt))⟩
theorem k253 : kQ Tryz.f253 c253 := kr_
def c254 : Fu := ⟨51, [.t 4], (.sq (.rg [kG 4 (.mv (kI 0))]) (.sq (.rg [kG 5 (.mv (.c (ii (-1))))]) (.sq (.sq (.rg [kG 6 (.mv (kI 0))]) (.bl 0 (.lp (.sq (.sq (.rg [kM 7 6, kG 8 (.ib .lss (.t 7) (kI 3))]) (.cd (.t 8) .sk (.ex 0))) (.sq (.bl 1 (.sq (.rd [jM 0 0 11 0, jM 1 0 12 6, jN 2 1 13 11, jF 3 5 14 13 3, jG 4 15 [14, 12] 15 (.iaa (.t 14) (.t 12) 3 1), jL 5 31 16 15, jG 6 63 [16] 17 (.len (.t 16)), jG 7 127 [17] 18 (.ib .gtr (.t 17) (kI 0)), jM 8 255 19 18, ⟨9, 511, [0, 19], kH 20 19 true (.mv (.t 0))⟩, ⟨10, 511, [6, 19], kH 21 19 true (.mv (.t 6))⟩, ⟨11, 1023, [20, 19], kH 22 19 true (.nc (.t 20))⟩, ⟨12, 3071, [22, 19], kH 23 19 true (.fa (.t 22) 0)⟩, ⟨13, 8191, [23, 21, 19], kH 24 19 true (.iaa (.t 23) (.t 21) 3 1)⟩, ⟨14, 16383, [24, 19], kH 25 19 true (.ld (.t 24) 1 false)⟩, ⟨15, 511, [1, 19], kH 26 19 true (.mv (.t 1))⟩, ⟨16, 33279, [26, 19], kH 27 19 true (.ib .sub (.t 26) (kI 2))⟩, ⟨17, 131071, [25, 27, 19], kH 28 19 true (.ib .leq (.t 25) (.t 27))⟩, jG 18 262143 [19, 28] 29 (.pk (.t 19) (.t 28) kU), jM 19 524287 30 29, ⟨20, 1048575, [5, 30], kH 31 30 true (.mv (.t 5))⟩, ⟨21, 2097151, [31, 30], kH 32 30 true (.ib .lss (.t 31) (kI 0))⟩, ⟨22, 4194303, [32, 30], kH 33 30 true (.mv (.t 32))⟩, ⟨23, 8388607, [0, 33], kH 34 33 false (.mv (.t 0))⟩, ⟨24, 8388607, [6, 33], kH 35 33 false (.mv (.t 6))⟩, ⟨25, 16777215, [34, 33], kH 36 33 false (.nc (.t 34))⟩, ⟨26, 50331647, [36, 33], kH 37 33 false (.fa (.t 36) 0)⟩, ⟨27, 134217727, [37, 35, 33], kH 38 33 false (.iaa (.t 37) (.t 35) 3 1)⟩, ⟨28, 268435455, [38, 33], kH 39 33 false (.ld (.t 38) 1 false)⟩, ⟨29, 8388607, [0, 33], kH 40 33 false (.mv (.t 0))⟩, ⟨30, 8388607, [5, 33], kH 41 33 false (.mv (.t 5))⟩, ⟨31, 545259519, [40, 33], kH 42 33 false (.nc (.t 40))⟩, ⟨32, 2692743167, [42, 33], kH 43 33 false (.fa (.t 42) 0)⟩, ⟨33, 8061452287, [43, 41, 33], kH 44 33 false (.iaa (.t 43) (.t 41) 3 1)⟩, ⟨34, 16651386879, [44, 33], kH 45 33 false (.ld (.t 44) 1 false)⟩, ⟨35, 34359738367, [39, 45, 33], kH 46 33 false (.ib .lss (.t 39) (.t 45))⟩, ⟨36, 68719476735, [33, 46, 30], kH 47 30 true (.pk (.t 33) kT (.t 46))⟩, jG 37 137438953471 [30, 47] 48 (.pk (.t 30) (.t 47) kU)]) (.cd (.t 48) (.rg [kM 49 6, kM 5 49]) .sk))) (.rg [kM 9 6, kG 10 (.ib .add (.t 9) (kI 1)), kM 6 10])))))) (.sq (.rg [kM 50 5, kM 4 50]) .rt))))⟩
theorem k254 : kQ Tryz.f254 c254 := kr_
def c255 : Fu := ⟨76, [], (.sq (.rd [jM 0 0 6 0, jN 1 1 7 6, jF 2 3 8 7 5, jL 3 7 9 8, jN 4 15 10 9, jF 5 31 11 10 0, jL 6 63 12 11, jM 7 0 13 0, jN 8 128 14 13, jF 9 384 15 14 5, jL 10 896 16 15, jN 11 1920 17 16, jF 12 3968 18 17 1, jG 13 8064 [18] 19 (.ld (.t 18) 6 true), jM 14 0 20 0, jN 15 16384 21 20, jF 16 49152 22 21 6, jL 17 114688 23 22, jM 18 0 24 0, jN 19 262144 25 24, jF 20 786432 26 25 6, jL 21 1835008 27 26, jG 22 3932160 [27] 28 (.len (.t 27)), jG 23 8126464 [28] 29 (.ib .sub (.t 28) (kI 1)), jG 24 16760832 [23, 29] 30 (.ia (.t 23) (.t 29) 1), jL 25 33538048 31 30, jG 26 67108736 [19, 31] 32 (.ca 139 [.t 19, .t 31]), jG 27 134217727 [12, 32] 33 (.ca 151 [.t 12, .t 32]), jM 28 268435455 5 33, jG 29 536870911 [5] 34 (.ex (.t 5) 0), jG 30 536870911 [5] 35 (.ex (.t 5) 1), jM 31 1073741823 2 34, jM 32 4294967295 3 35]) (.sq (.rg [kM 36 0, kN 37 36, kF 38 37 5, kL 39 38, kM 40 2, kG 41 (.ca 199 [.t 39, .t 40]), kM 4 41]) (.sq (.rd [jM 0 0 42 4, jG 1 1 [42] 43 (.ib .geq (.t 42) (kI 0)), jM 2 3 44 43, ⟨3, 7, [0, 44], kH 45 44 true (.mv (.t 0))⟩, ⟨4, 15, [45, 44], kH 46 44 true (.nc (.t 45))⟩, ⟨5, 31, [46, 44], kH 47 44 true (.fa (.t 46) 6)⟩, ⟨6, 63, [47, 44], kH 48 44 true (.ld (.t 47) 1 false)⟩, ⟨7, 127, [48, 44], kH 49 44 true (.len (.t 48))⟩, ⟨8, 7, [0, 44], kH 50 44 true (.mv (.t 0))⟩, ⟨9, 263, [50, 44], kH 51 44 true (.nc (.t 50))⟩, ⟨10, 775, [51, 44], kH 52 44 true (.fa (.t 51) 5)⟩, ⟨11, 1799, [52, 44], kH 53 44 true (.ld (.t 52) 1 false)⟩, ⟨12, 3847, [53, 44], kH 54 44 true (.nc (.t 53))⟩, ⟨13, 7943, [54, 44], kH 55 44 true (.fa (.t 54) 1)⟩, ⟨14, 16135, [55, 44], kH 56 44 true (.fa (.t 55) 1)⟩, ⟨15, 32519, [56, 44], kH 57 44 true (.ld (.t 56) 1 false)⟩, ⟨16, 65535, [49, 57, 44], kH 58 44 true (.ib .lss (.t 49) (.t 57))⟩, jG 17 131071 [44, 58] 59 (.pk (.t 44) (.t 58) kU)]) (.cd (.t 59) (.sq (.rg [kM 60 0, kM 61 0, kN 62 61, kF 63 62 6, kL 64 63, kM 65 4, kG 66 (.bs 3 1 [ii 0] [(0, 1, (.t 65))]), kG 67 (.ap 53 3 1 8 [ii 0] (.t 64) (.t 66)), kN 68 60, kF 69 68 6, kS (.st (.t 69) (.t 67) 1)]) (.rg [kM 70 0, kN 71 70, kF 72 71 0, kM 73 0, kG 74 (.mf (.func 255) [.t 73] []), kG 75 (.ca 79 [.t 72, .t 74])])) .sk))))⟩
theorem k255 : kQ Tryz.f255 c255 := kr_
def c256 : Fu := ⟨26, [.t 6], (.sq (.rg [kG 6 (.mv (kI 0))]) (.sq (.rg [kM 10 0, kN 11 10, kF 12 11 9, kL 13 12, kM 14 1, kM 15 2, kG 16 (.ca 264 [.t 13, .t 14, .t 15]), kM 9 16, kG 17 (.ex (.t 9) 0), kG 18 (.ex (.t 9) 1), kM 7 17, kM 8 18]) (.sq (.rg [kM 19 0, kN 20 19, kF 21 20 8, kL 22 21, kM 23 7, kG 24 (.ca 136 [.t 22, .t 23])]) (.sq (.rg [kM 25 8, kM 6 25]) .rt))))⟩
theorem k256 : kQ Tryz.f256 c256 := kr_
def c257 : Fu := ⟨11, [.t 2], (.sq (.rg [kG 2 (.mv (.c (.slice none 0 0)))]) (.sq (.sq (.rg [kM 3 0, kG 4 (.ca 236 [.t 3]), kG 5 (.nt (.t 4))]) (.cd (.t 5) (.sq (.rg [kG 2 (.mv (.c (.slice none 0 0)))]) .rt) .sk)) (.sq (.rg [kM 6 0, kN 7 6, kF 8 7 6, kL 9 8, kG 10 (.ca 189 [.t 9]), kM 2 10]) .rt)))⟩
theorem k257 : kQ Tryz.f257 c257 := kr_
def c258 : Fu := ⟨58, [.t 4, .t 5], (.sq (.rg [kG 4 (.mv kP), kG 5 (.mv (kI 0))]) (.sq (.sq (.rg [kM 9 1, kG 10 (.len (.t 9)), kG 11 (.mv (kI 0))]) (.bl 0 (.lp (.sq (.rg [kG 12 (.ib .lss (.t 11) (.t 10))]) (.sq (.cd (.t 12) .sk (.ex 0)) (.sq (.bl 1 (.sq (.rg [kM 13 11, kG 14 (.ia (.t 9) (.t 11) 1), kL 15 14, kM 6 13, kM 7 15]) (.sq (.rg [kM 16 7, kG 17 (.ib .lss (.t 16) (kI 0)), kM 18 17, kH 19 18 false (.mv (.t 7)), kH 20 18 false (.mv (.t 0)), kH 21 18 false (.nc (.t 20)), kH 22 18 false (.fa (.t 21) 3), kH 23 18 false (.ld (.t 22) 1 false), kH 24 18 false (.ib .geq (.t 19) (.t 23)), kG 25 (.pk (.t 18) kT (.t 24)), kM 26 25, kH 27 26 false (.mv (.t 1)), kH 28 26 false (.mv (.t 6)), kH 29 26 false (.sl 1 (.t 27) none (some (.t 28)) none), kH 30 26 false (.mv (.t 7)), kH 31 26 false (.ca 265 [.t 29, .t 30]), kG 32 (.pk (.t 26) kT (.t 31))]) (.cd (.t 32) (.sq (.rg [kG 4 (.mv kP), kG 5 (.mv (kI 1))]) .rt) .sk)))) (.rg [kG 33 (.ib .add (.t 11) (kI 1)), kM 11 33]))))))) (.sq (.rg [kM 34 0, kM 35 1, kG 36 (.ca 189 [.t 35]), kG 37 (.bd [.nilFunc, .nilFunc, .nilFunc, .nilFunc, ii 0, (.pointer none), (.slice none 0 0), ii 0, (.int .u64 0)] [(5, 1, (.t 34)), (6, 1, (.t 36))]), kG 38 (.bx 296 (.t 37)), kM 8 38]) (.sq (.sq (.rg [kM 39 1, kG 40 (.len (.t 39))]) (.bl 2 (.sq (.rg [kG 48 (.ib .eql (.t 40) (kI 0)), kM 47 48]) (.cd (.t 47) .sk (.sq (.rg [kG 50 (.ib .eql (.t 40) (kI 1)), kM 49 50]) (.cd (.t 49) (.rg [kM 51 8, kN 52 51, kF 53 52 0, kM 54 8, kG 55 (.mf (.func 266) [.t 54] []), kG 56 (.ca 79 [.t 53, .t 55])]) (.rg [kM 41 8, kN 42 41, kF 43 42 0, kM 44 8, kG 45 (.mf (.func 267) [.t 44] []), kG 46 (.ca 79 [.t 43, .t 45])]))))))) (.sq (.rg [kM 57 8, kM 4 57, kG 5 (.mv (kI 0))]) .rt)))))⟩
theorem k258 : kQ Tryz.f258 c258 := kr_
def c259 : Fu := ⟨2, [], .sk⟩
theorem k259 : kQ Tryz.f259 c259 := kr_
def c260 : Fu := ⟨10, [.t 4], (.sq (.rg [kG 4 (.mv kU)]) (.sq (.rg [kM 5 0, kM 6 1, kG 7 (.ca 226 [.t 6]), kG 8 (.ib .andNot (.t 5) (.t 7)), kG 9 (.ib .eql (.t 8) (.c (.int .u64 0))), kM 4 9]) .rt))⟩
theorem k260 : kQ Tryz.f260 c260 := kr_
def c261 : Fu := ⟨2, [], .sk⟩
theorem k261 : kQ Tryz.f261 c261 := kr_
def c262 : Fu := ⟨24, [.t 4], (.sq (.rg [kG 4 (.mv (.c (.slice none 0 0)))]) (.sq (.rg [kM 6 0, kN 7 6, kF 8 7 1, kL 9 8, kM 10 1, kG 11 (.sl 1 (.t 9) none (some (.t 10)) none), kG 12 (.ca 189 [.t 11]), kM 5 12]) (.sq (.rg [kM 13 0, kM 14 0, kN 15 14, kF 16 15 1, kL 17 16, kM 18 1, kG 19 (.sl 1 (.t 17) (some (.t 18)) none none), kG 20 (.ca 189 [.t 19]), kN 21 13, kF 22 21 1, kS (.st (.t 22) (.t 20) 1)]) (.sq (.rg [kM 23 5, kM 4 23]) .rt))))⟩
theorem k262 : kQ Tryz.f262 c262 := kr_
def c263 : Fu := ⟨22, [], (.sq (.rd [jM 0 0 2 0, jN 1 1 3 2, jF 2 3 4 3 5, jL 3 7 5 4, jM 4 0 6 0, jN 5 16 7 6, jF 6 48 8 7 8, jL 7 112 9 8, jM 8 0 10 0, jN 9 256 11 10, jF 10 768 12 11 7, jL 11 1792 13 12, jG 12 4095 [5, 9, 13] 14 (.ca 268 [.t 5, .t 9, .t 13]), jG 13 8191 [14] 15 (.nt (.t 14))]) (.cd (.t 15) (.rg [kM 16 0, kN 17 16, kF 18 17 0, kM 19 0, kG 20 (.mf (.func 222) [.t 19] []), kG 21 (.ca 79 [.t 18, .t 20])]) .sk))⟩
theorem k263 : kQ Tryz.f263 c263 := kr_
def c264 : Fu := ⟨66, [.t 6, .t 7], (.sq (.rg [kG 6 (.mv (.c (.slice none 0 0))), kG 7 (.mv (kI 0))]) (.sq (.sq (.rg [kM 10 2, kG 11 (.len (.t 10)), kG 12 (.ib .eql (.t 11) (kI 0)), kM 13 12, kH 14 13 false (.mv (.t 1)), kH 15 13 false (.ib .lss (.t 14) (kI 0)), kG 16 (.pk (.t 13) kT (.t 15)), kM 17 16, kH 18 17 false (.mv (.t 1)), kH 19 17 false (.ib .gtr (.t 18) (kI 4611686018427387903)), kG 20 (.pk (.t 17) kT (.t 19)), kM 21 20, kH 22 21 false (.mv (.t 1)), kH 23 21 false (.mv (.t 0)), kH 24 21 false (.nc (.t 23)), kH 25 21 false (.fa (.t 24) 6), kH 26 21 false (.ld (.t 25) 1 false), kH 27 21 false (.ib .lss (.t 22) (.t 26)), kG 28 (.pk (.t 21) kT (.t 27))]) (.cd (.t 28) (.sq (.rg [kG 6 (.mv (.c (.slice none 0 0))), kG 7 (.mv (kI 1))]) .rt) .sk)) (.sq (.rg [kM 29 0, kM 30 1, kN 31 29, kF 32 31 6, kS (.st (.t 32) (.t 30) 1)]) (.sq (.rg [kM 33 0, kM 34 1, kG 35 (.ib .rem (.t 34) (kI 3)), kN 36 33, kF 37 36 0, kG 38 (.iaa (.t 37) (.t 35) 3 2), kM 8 38]) (.sq (.rg [kG 9 (.mv (.c (.slice none 0 0)))]) (.sq (.sq (.rg [kM 39 8, kN 40 39, kF 41 40 0, kL 42 41, kM 43 1, kG 44 (.ib .lss (.t 42) (.t 43))]) (.cd (.t 44) (.sq (.rg [kM 45 8, kN 46 45, kF 47 46 1, kL 48 47, kM 9 48]) (.rg [kM 49 8, kN 50 49, kF 51 50 1, kS (.st (.t 51) (.c (.slice none 0 0)) 1)])) .sk)) (.sq (.rg [kM 52 8, kM 53 1, kN 54 52, kF 55 54 0, kS (.st (.t 55) (.t 53) 1)]) (.sq (.rg [kM 56 8, kM 57 8, kN 58 57, kF 59 58 1, kL 60 59, kM 61 2, kG 62 (.ap 53 3 1 8 [ii 0] (.t 60) (.t 61)), kN 63 56, kF 64 63 1, kS (.st (.t 64) (.t 62) 1)]) (.sq (.rg [kM 65 9, kM 6 65, kG 7 (.mv (kI 0))]) .rt)))))))))⟩
theorem k264 : kQ Tryz.f264 c264 := kr_
def c265 : Fu := ⟨9, [.t 4], (.sq (.rg [kG 4 (.mv kU)]) (.sq (.rg [kM 5 0, kM 6 1, kG 7 (.ca 269 [.t 5, .t 6]), kG 8 (.ib .geq (.t 7) (kI 0)), kM 4 8]) .rt))⟩
theorem k265 : kQ Tryz.f265 c265 := kr_
def c266 : Fu := ⟨29, [], (.sq (.rd [jM 0 0 3 0, jM 1 0 4 0, jN 2 2 5 4, jF 3 6 6 5 5, jL 4 14 7 6, jN 5 30 8 7, jF 6 62 9 8 0, jL 7 126 10 9, jM 8 0 11 0, jN 9 256 12 11, jF 10 768 13 12 5, jL 11 1792 14 13, jN 12 3840 15 14, jF 13 7936 16 15 1, jL 14 16128 17 16, jG 15 32766 [10, 17] 18 (.ca 151 [.t 10, .t 17]), jM 16 65534 2 18, jG 17 131070 [2] 19 (.ex (.t 2) 0), jG 18 131070 [2] 20 (.ex (.t 2) 1), jN 19 262143 21 3, jF 20 786431 22 21 8, ⟨21, 1835007, [22, 19], kS (.st (.t 22) (.t 19) 1)⟩]) (.rg [kM 23 0, kN 24 23, kF 25 24 0, kM 26 0, kG 27 (.mf (.func 270) [.t 26] []), kG 28 (.ca 79 [.t 25, .t 27])]))⟩
theorem k266 : kQ Tryz.f266 c266 := kr_
def c267 : Fu := ⟨71, [], (.sq (.rd [jM 0 0 2 0, jN 1 1 3 2, jF 2 3 4 3 5, jL 3 7 5 4, jN 4 15 6 5, jF 5 31 7 6 0, jL 6 63 8 7, jM 7 0 9 0, jN 8 128 10 9, jF 9 384 11 10 5, jL 10 896 12 11, jN 11 1920 13 12, jF 12 3968 14 13 2, jL 13 8064 15 14, jM 14 0 16 0, jN 15 16384 17 16, jF 16 49152 18 17 6, jL 17 114688 19 18, jM 18 0 20 0, jN 19 262144 21 20, jF 20 786432 22 21 7, jL 21 1835008 23 22, jG 22 4177920 [19, 23] 24 (.ia (.t 19) (.t 23) 1), jL 23 8372224 25 24, jG 24 16777088 [15, 25] 26 (.ib .add (.t 15) (.t 25)), jM 25 0 27 0, jN 26 33554432 28 27, jF 27 100663296 29 28 6, jL 28 234881024 30 29, jM 29 0 31 0, jN 30 536870912 32 31, jF 31 1610612736 33 32 7, jL 32 3758096384 34 33, jG 33 8053063680 [34] 35 (.ib .add (.t 34) (kI 1)), jG 34 17146314752 [30, 35] 36 (.ia (.t 30) (.t 35) 1), jL 35 34326183936 37 36, jG 36 68685922304 [37] 38 (.ib .add (.t 37) (kI 1)), jG 37 137405399040 [38] 39 (.cv .u64 (.t 38)), jG 38 274877906943 [8, 26, 39] 40 (.ca 214 [.t 8, .t 26, .t 39])]) (.sq (.rg [kM 41 0, kN 42 41, kF 43 42 7, kL 44 43, kG 45 (.ib .add (.t 44) (kI 1)), kN 46 41, kF 47 46 7, kS (.st (.t 47) (.t 45) 1)]) (.sq (.rd [jM 0 0 48 0, jN 1 1 49 48, jF 2 3 50 49 7, jL 3 7 51 50, jM 4 0 52 0, jN 5 16 53 52, jF 6 48 54 53 6, jL 7 112 55 54, jG 8 240 [55] 56 (.len (.t 55)), jG 9 496 [56] 57 (.ib .sub (.t 56) (kI 1)), jG 10 1023 [51, 57] 58 (.ib .lss (.t 51) (.t 57))]) (.cd (.t 58) (.rg [kM 59 0, kN 60 59, kF 61 60 0, kM 62 0, kG 63 (.mf (.func 267) [.t 62] []), kG 64 (.ca 79 [.t 61, .t 63])]) (.rg [kM 65 0, kN 66 65, kF 67 66 0, kM 68 0, kG 69 (.mf (.func 266) [.t 68] []), kG 70 (.ca 79 [.t 67, .t 69])])))))⟩
theorem k267 : kQ Tryz.f267 c267 := kr_
def c268 : Fu := ⟨34, [.t 6], (.sq (.rg [kG 6 (.mv kU)]) (.sq (.rg [kM 12 1, kG 13 (.ca 171 [.t 12]), kM 14 2, kG 15 (.ca 271 [.t 13, .t 14]), kG 16 (.ca 203 [.t 15]), kM 11 16, kG 17 (.ex (.t 11) 0), kG 18 (.ex (.t 11) 1), kM 7 17, kM 8 18]) (.sq (.rd [jM 0 0 20 0, jN 1 1 21 20, jF 2 3 22 21 0, jL 3 7 23 22, jM 4 0 24 0, jN 5 16 25 24, jF 6 48 26 25 1, jL 7 112 27 26, jM 8 0 28 1, jM 9 0 29 7, jG 10 1023 [23, 27, 28, 29] 30 (.ca 228 [.t 23, .t 27, .t 28, .t 29]), jM 11 2047 19 30, jG 12 4095 [19] 31 (.ex (.t 19) 0), jG 13 4095 [19] 32 (.ex (.t 19) 1), jM 14 8191 9 31, jM 15 32767 10 32]) (.sq (.rg [kM 33 9, kM 6 33]) .rt))))⟩
theorem k268 : kQ Tryz.f268 c268 := kr_
def c269 : Fu := ⟨19, [.t 4], (.sq (.rg [kG 4 (.mv (kI 0))]) (.sq (.sq (.rg [kM 6 0, kG 7 (.len (.t 6)), kG 8 (.mv (kI 0))]) (.bl 0 (.lp (.sq (.rg [kG 9 (.ib .lss (.t 8) (.t 7))]) (.sq (.cd (.t 9) .sk (.ex 0)) (.sq (.bl 1 (.sq (.rg [kM 10 8, kM 5 10]) (.sq (.rg [kM 11 1, kM 12 0, kM 13 5, kG 14 (.ia (.t 12) (.t 13) 1), kL 15 14, kG 16 (.ib .eql (.t 11) (.t 15))]) (.cd (.t 16) (.sq (.rg [kM 17 5, kM 4 17]) .rt) .sk)))) (.rg [kG 18 (.ib .add (.t 8) (kI 1)), kM 8 18]))))))) (.sq (.rg [kG 4 (.mv (.c (ii (-1))))]) .rt)))⟩
theorem k269 : kQ Tryz.f269 c269 := kr_
def c270 : Fu := ⟨47, [], (.sq (.rd [jM 0 0 2 0, jN 1 1 3 2, jF 2 3 4 3 5, jL 3 7 5 4, jN 4 15 6 5, jF 5 31 7 6 0, jL 6 63 8 7, jM 7 0 9 0, jN 8 128 10 9, jF 9 384 11 10 5, jL 10 896 12 11, jN 11 1920 13 12, jF 12 3968 14 13 2, jL 13 8064 15 14, jM 14 0 16 0, jN 15 16384 17 16, jF 16 49152 18 17 6, jL 17 114688 19 18, jM 18 0 20 0, jN 19 262144 21 20, jF 20 786432 22 21 6, jL 21 1835008 23 22, jG 22 3932160 [23] 24 (.len (.t 23)), jG 23 8126464 [24] 25 (.ib .sub (.t 24) (kI 1)), jG 24 16760832 [19, 25] 26 (.ia (.t 19) (.t 25) 1), jL 25 33538048 27 26, jG 26 67108736 [15, 27] 28 (.ib .add (.t 15) (.t 27)), jM 27 0 29 0, jN 28 134217728 30 29, jF 29 402653184 31 30 5, jL 30 939524096 32 31, jM 31 0 33 0, jN 32 2147483648 34 33, jF 33 6442450944 35 34 8, jL 34 15032385536 36 35, jG 35 34225520640 [32, 36] 37 (.ca 95 [.t 32, .t 36]), jG 36 68585259008 [37] 38 (.ib .add (.t 37) (kI 1)), jG 37 137304735744 [38] 39 (.cv .u64 (.t 38)), jG 38 274877906943 [8, 28, 39] 40 (.ca 214 [.t 8, .t 28, .t 39])]) (.rg [kM 41 0, kN 42 41, kF 43 42 0, kM 44 0, kG 45 (.mf (.func 272) [.t 44] []), kG 46 (.ca 79 [.t 43, .t 45])]))⟩
theorem k270 : kQ Tryz.f270 c270 := kr_
def c271 : Fu := ⟨15, [.c 4 2 true], (.sq (.rg [kG 2 (.bx 238 (.t 0)), kG 4 (.al 238 [ii 0, ii 0])]) (.sq (.rg [kG 5 (.mv (kI 0))]) (.sq (.sq (.rg [kF 6 2 1, kL 7 6, kG 8 (.ca 243 [.t 7, (kI 0), (kI 4294967294)])]) (.cd (.t 8) (.rg [kF 9 2 1, kL 10 9, kG 11 (.ib .add (.t 10) (kI 1)), kM 5 11]) .sk)) (.sq (.rg [kM 12 1, kM 13 5, kG 14 (.bd [ii 0, ii 0] [(0, 1, (.t 12)), (1, 1, (.t 13))]), kS (.st (.t 4) (.t 14) 2)]) .rt))))⟩
theorem k271 : kQ Tryz.f271 c271 := kr_
def c272 : Fu := ⟨24, [], (.sq (.rd [jM 0 0 2 0, jN 1 1 3 2, jF 2 3 4 3 5, jL 3 7 5 4, jM 4 0 6 0, jN 5 16 7 6, jF 6 48 8 7 8, jL 7 112 9 8, jM 8 0 10 0, jN 9 256 11 10, jF 10 768 12 11 6, jL 11 1792 13 12, jG 12 3840 [13] 14 (.ia (.t 13) (kI 0) 1), jL 13 7936 15 14, jG 14 16383 [5, 9, 15] 16 (.ca 268 [.t 5, .t 9, .t 15]), jG 15 32767 [16] 17 (.nt (.t 16))]) (.cd (.t 17) (.rg [kM 18 0, kN 19 18, kF 20 19 0, kM 21 0, kG 22 (.mf (.func 266) [.t 21] []), kG 23 (.ca 79 [.t 20, .t 22])]) .sk))⟩
theorem k272 : kQ Tryz.f272 c272 := kr_
end
end
section
open Go
attribute [local irreducible] Sx Cx Rx Fx Krg Ksq Kbl Klp Kr
def ints (xs : List Int) : List Value := xs.map (Value.int .i64)
theorem length_ints (xs : List Int) : (ints xs).length = xs.length := by simp [ints]
theorem ones_ints (xs : List Int) : ones (ints xs) = true := by simp [ones, ints, Value.oneCell']
theorem ints_append (xs ys : List Int) : ints (xs ++ ys) = ints xs ++ ints ys := by simp [ints]
theorem ints_take (xs : List Int) (n : Nat) : (ints xs).take n = ints (xs.take n) := by simp [ints, List.map_take]
theorem ints_drop (xs : List Int) (n : Nat) : (ints xs).drop n = ints (xs.drop n) := by simp [ints, List.map_drop]
section
variable {L F : St}
theorem Ent.rownil (E sz : Nat) : Ent L (pt none (Row E sz 0 0 []) :: L) := .of fun h H =>
 ⟨Hp.no, h, fun _ => .inl rfl, by funext k; simp [Hp.join, Hp.no], ⟨by simp, .inl ⟨rfl, rfl, rfl, rfl⟩⟩, H⟩
theorem Row.shrink {E sz n cap m : Nat} {xs : List Value} {a : OA} (hm : m ≤ n) : ∀ g, pt a (Row E sz n cap xs) g → pt a (Row E sz m cap (xs.take (m * sz))) g := by
 rintro h ⟨hx, hh⟩
 have hms : m * sz ≤ n * sz := Nat.mul_le_mul_right _ hm
 refine ⟨by rw [List.length_take, hx]; omega, ?_⟩
 rcases hh with ⟨h1, h2, h3, h4⟩ | ⟨g, cur, h1, h2, h3, h4, h5, h6⟩
 ·exact .inl ⟨h1, by omega, h3, h4⟩
 ·refine .inr ⟨g, cur, h1, h2, by omega, h4, h5, ?_⟩
  rw [← h6, List.take_take, Nat.min_eq_left hms]
theorem clone {a : OA} {m c : Nat} {vs : List Value} (hr : Rd L 1 a m vs) (h1 : ones vs = true) (hm : m ≤ 1000000000) :
  FX 189 [.slice a m c] L (fun v L' => ∃ a' c', v = .slice a' m c' ∧ L' = pt a' (Row 3 1 m c' vs) :: L) := by
 refine Fm Tryz.func189 k189 ?_
 dsimp only [c189, eL]
 cases a with
 | none =>
   refine go ?_
   have hm0 : m = 0 := by
    rcases hr.2 with h | ⟨b, o, h, _⟩
    ·exact h
    ·cases h
   subst hm0
   have hv : vs = [] := nz_ (by simpa using hr.1)
   subst hv
   exact Ko rfl (Ent.rownil _ _) ⟨none, 0, rfl, rfl⟩
 | some a =>
   refine go ?_
   refine Sx.bs (sz := 1) rfl rfl fun g => (go ?_)
   refine Sx.ap rfl rfl (hr.ent Ed) h1 (by simp [maxLen]; omega) (by omega) fun ra ca hc => (go ?_)
   refine Ko rfl (Er _) ⟨ra, ca, ?_, ?_⟩
   ·simp
   ·simp
def StashT (T : TypeId) (most : Int) (xs : List Int) (a : OA) : As :=
 exs fun (y : OA × Nat) => [pt a (Blk T [ii most, .slice y.1 xs.length y.2]), pt y.1 (Row 3 1 xs.length y.2 (ints xs))]
abbrev StashO := StashT 250
theorem StashO.close {T : TypeId} {most : Int} {xs : List Int} {a r : OA} {cap n : Nat} {v : Value} {vs : List Value} {F G : St} [t : Take L a (Blk T [v, .slice r n cap]) F] [u : Take F r (Row 3 1 n cap vs) G]
  (hn : n = xs.length) (hv : v = ii most) (hvs : vs = ints xs) : Ent L (pt a (StashT T most xs) :: G) := by
 subst hn; subst hv; subst hvs
 exact (Em (t := t) (Eo u.out)).trans (Ent.close (f := fun (y : OA × Nat) => [pt a (Blk T [ii most, .slice y.1 xs.length y.2]), pt y.1 (Row 3 1 xs.length y.2 (ints xs))]) rfl (r, cap))
theorem stashNew (m : Int) : FX 147 [ii m] L (fun v L' => ∃ g, v = zp g ∧ L' = pt (ad g) (StashO (min (max m 0) 64) []) :: L) := by
 refine Fm Tryz.func147 k147 ?_
 dsimp only [c147, eL]
 refine go ?_
 refine Sx.bx rfl rfl fun g => (go ?_)
 refine Ko rfl (Et (Ent.rownil 3 1) (StashO.close (xs := []) rfl ?_ rfl)) ⟨g, rfl, rfl⟩
 simp only [cond_true, cond_false]
 congr 1
 omega
theorem stashGive {b : Nat} {most : Int} {xs ys : List Int} {ya : OA} {m c : Nat} {F : St} [t : Take L (ad b) (StashO most xs) F] (hr : Rd F 1 ya m (ints ys)) (hb : xs.length + m ≤ 1000000000) :
  FX 136 [zp b, .slice ya m c] L (fun v L' => v = .tuple #[] ∧ L' = pt (ad b) (StashO most (xs ++ ys)) :: F) := by
 refine Fm Tryz.func136 k136 ?_
 dsimp only [c136, eL]
 refine Xo (t := t) rfl ?_
 rintro ⟨r, cap⟩
 simp only [lc, ln]
 refine go ?_
 refine Sx.ap rfl rfl (hr.ent (Ent.drop.trans Ed)) (ones_ints ys) (by simp [maxLen]; omega) (by omega) fun ra ca hc => (go ?_)
 have hm : m = ys.length := by have := hr.1; simp [length_ints] at this; omega
 exact Kr.none (.inl rfl) (StashO.close (by simp [hm]) rfl (by simp [ints])) ⟨rfl, rfl⟩
theorem stashTakeNone {b : Nat} {most : Int} {F : St} [t : Take L (ad b) (StashO most []) F] :
  FX 248 [zp b] L (fun v L' => v = .tuple #[ii 0, .bool false] ∧ L' = pt (ad b) (StashO most []) :: F) := by
 refine Fm Tryz.func248 k248 ?_
 dsimp only [c248, eL]
 refine Xo (t := t) rfl ?_
 rintro ⟨r, cap⟩
 simp only [lc, ln]
 refine go ?_
 exact Kr.two (.inr rfl) rfl rfl (StashO.close rfl rfl rfl) ⟨rfl, rfl⟩
theorem stashTakeSome {b : Nat} {most : Int} {xs : List Int} {x : Int} {F : St} [t : Take L (ad b) (StashO most (xs ++ [x])) F] (hb : xs.length ≤ 1000000000) :
  FX 248 [zp b] L (fun v L' => v = .tuple #[ii x, .bool true] ∧ L' = pt (ad b) (StashO most xs) :: F) := by
 refine Fm Tryz.func248 k248 ?_
 dsimp only [c248, eL]
 refine Xo (t := t) rfl ?_
 rintro ⟨r, cap⟩
 simp only [lc, ln]
 generalize hn : (xs ++ [x]).length = n
 have hn' : n = xs.length + 1 := by simp at hn; omega
 clear hn
 refine Cx.rowkey (a := r) fun _ hnc _ hk => ?_
 obtain ⟨g, rfl⟩ : ∃ g, r = ad g := by
  rcases hk with h | h
  ·exfalso; omega
  ·exact h
 have hw : IntKind.i64.wrap ((n : Int) - 1) = (xs.length : Int) := by rw [w64 (by omega) (by omega)]; omega
 refine go ?_
 refine Xn rfl (by simp; omega) (go ?_)
 rw [hw]
 refine go ?_
 refine Sv rfl ⟨by omega, by omega⟩ ?_
 refine Sx.ldr rfl (v := ii x) ?_ ?_
 ·simp [ints]
 refine go ?_
 refine Sv rfl ⟨by omega, by omega⟩ (go ?_)
 refine Kr.two (.inr rfl) rfl rfl ?_ ⟨rfl, rfl⟩
 refine Et (Em (a := ad g) (Er _)) (Et (Ent.head (Row.shrink (m := xs.length) (by omega))) ?_)
 refine StashO.close (by simp) rfl ?_
 simp [ints]
theorem Rd.prefix_ {a : OA} {E sz n cap m : Nat} {xs : List Value} [t : Take L a (Row E sz n cap xs) F] (hx : xs.length = n * sz) (hk : (a = none ∧ n = 0 ∧ cap = 0) ∨ ∃ g, a = ad g) (hm : m ≤ n) : Rd L sz a m (xs.take (m * sz)) := by
 have hms : m * sz ≤ n * sz := Nat.mul_le_mul_right _ hm
 refine ⟨by rw [List.length_take]; omega, ?_⟩
 rcases hk with ⟨_, h, _⟩ | ⟨g, rfl⟩
 ·left; omega
 ·right
  have h := Has.row (L := L) (b := g) (E := E) (sz := sz) (n := n) (cap := cap) (xs := xs) (off := 0) (m := m * sz)
  rw [List.drop_zero] at h
  exact ⟨g, 0, rfl, h⟩
theorem Rd.suffix_ {g : Nat} {E sz n cap i : Nat} {xs : List Value} [t : Take L (ad g) (Row E sz n cap xs) F] (hx : xs.length = n * sz) (hn : n ≤ cap) (hi : i ≤ n) : Rd L sz (some ⟨g, 0 + skp cap i sz, none⟩) (n - i) (xs.drop (i * sz)) := by
 have hms : i * sz ≤ n * sz := Nat.mul_le_mul_right _ hi
 refine ⟨by rw [List.length_drop, hx, Nat.sub_mul], ?_⟩
 by_cases hc : cap = i
 ·left; omega
 ·right
  refine ⟨g, 0 + skp cap i sz, rfl, ?_⟩
  have h := Has.row (L := L) (b := g) (E := E) (sz := sz) (n := n) (cap := cap) (xs := xs) (off := i * sz) (m := (xs.drop (i * sz)).length)
  rw [List.take_length] at h
  simp only [skp, hc, if_false, Nat.zero_add]
  exact h
theorem stashCut {b : Nat} {most : Int} {xs : List Int} {k : Nat} {F : St} [t : Take L (ad b) (StashO most xs) F] (hb : xs.length ≤ 1000000000) (hk : k ≤ xs.length) :
  FX 262 [zp b, ii k] L (fun v L' => ∃ a c, v = .slice a k c ∧ L' = pt a (Row 3 1 k c (ints (xs.take k))) :: pt (ad b) (StashO most (xs.drop k)) :: F) := by
 refine Fm Tryz.func262 k262 ?_
 dsimp only [c262, eL]
 refine Xo (t := t) rfl ?_
 rintro ⟨r, cap⟩
 simp only [lc, ln]
 refine Cx.rowkey (a := r) fun hx hnc _ hkey => (go ?_)
 refine Sv rfl ⟨by omega, by omega⟩ ?_
 have h1 := Rd.prefix_ (L := pt (ad b) (Blk 250 [ii most, .slice r xs.length cap]) :: pt r (Row 3 1 xs.length cap (ints xs)) :: F) (a := r) hx hkey hk
 simp only [Nat.mul_one, ints_take] at h1
 refine Sa rfl (clone (by simpa using h1) (ones_ints _) (by omega)) ?_
 rintro v L' ⟨a1, c1, rfl, rfl⟩
 refine go ?_
 rcases hkey with ⟨rfl, h0, rfl⟩ | ⟨g, rfl⟩
 ·have hx0 : xs = [] := nz_ h0
  subst hx0
  have hk0 : k = 0 := by simpa using hk
  subst hk0
  refine Sv rfl (by simp) ?_
  refine Sa rfl (clone (vs := []) (Rd.nil _ _ _) rfl (by omega)) ?_
  rintro v L' ⟨a2, c2, rfl, rfl⟩
  refine go ?_
  refine Ko rfl ?_ ⟨a1, c1, rfl, rfl⟩
  refine Et (StashO.close (a := ad b) (r := a2) (xs := []) rfl rfl rfl) ?_
  simp only [tn, List.take_nil, List.drop_nil, ints, List.map_nil]
  exact ent
 ·refine Sv rfl ⟨by omega, by omega⟩ ?_
  have h2 := Rd.suffix_ (L := pt a1 (Row 3 1 k c1 (ints (xs.take k))) :: pt (ad b) (Blk 250 [ii most, .slice (ad g) xs.length cap]) :: pt (ad g) (Row 3 1 xs.length cap (ints xs)) :: F) (g := g) hx hnc hk
  simp only [Nat.mul_one, ints_drop] at h2
  refine Sa rfl (clone (vs := ints (xs.drop k)) (by simpa using h2) (ones_ints _) (by omega)) ?_
  rintro v L' ⟨a2, c2, rfl, rfl⟩
  refine go ?_
  refine Ko rfl ?_ ⟨a1, c1, rfl, rfl⟩
  refine Et (StashO.close (a := ad b) (r := a2) (xs := xs.drop k) (by simp) rfl rfl) ?_
  simp only [tn]
  exact ent
theorem stashList {b : Nat} {most : Int} {xs : List Int} {F : St} [t : Take L (ad b) (StashO most xs) F] (hb : xs.length ≤ 1000000000) :
  FX 118 [zp b] L (fun v L' => ∃ a c, v = .slice a xs.length c ∧ L' = pt a (Row 3 1 xs.length c (ints xs)) :: pt (ad b) (StashO most xs) :: F) := by
 refine Fm Tryz.func118 k118 ?_
 dsimp only [c118, eL]
 refine Xo (t := t) rfl ?_
 rintro ⟨r, cap⟩
 simp only [lc, ln]
 refine Cx.rowkey (a := r) fun hx hnc _ hkey => (go ?_)
 have h1 := Rd.prefix_ (L := pt (ad b) (Blk 250 [ii most, .slice r xs.length cap]) :: pt r (Row 3 1 xs.length cap (ints xs)) :: F) (a := r) hx hkey (Nat.le_refl _)
 simp only [Nat.mul_one, ints_take, List.take_length] at h1
 refine Sa rfl (clone h1 (ones_ints _) (by omega)) ?_
 rintro v L' ⟨a1, c1, rfl, rfl⟩
 refine go ?_
 refine Ko rfl ?_ ⟨a1, c1, rfl, rfl⟩
 refine Et (StashO.close (a := ad b) (r := r) (xs := xs) rfl rfl rfl) ?_
 exact ent
def overK (most : Int) (xs : List Int) : Nat := (max ((xs.length : Int) - most) 0).toNat
theorem stashOver {b : Nat} {most : Int} {xs : List Int} {F : St} [t : Take L (ad b) (StashO most xs) F] (hb : xs.length ≤ 1000000000) (hm : 0 ≤ most) (hm2 : most ≤ 64) :
  FX 246 [zp b] L (fun v L' => ∃ a c, v = .slice a (overK most xs) c ∧ L' = pt a (Row 3 1 (overK most xs) c (ints (xs.take (overK most xs)))) :: pt (ad b) (StashO most (xs.drop (overK most xs))) :: F) := by
 refine Fm Tryz.func246 k246 ?_
 dsimp only [c246, eL]
 refine Xo (t := t) rfl ?_
 rintro ⟨r, cap⟩
 simp only [lc, ln]
 refine go ?_
 refine Cx.rd ?_
 refine Rx.pvs rfl ?_
 refine Rx.ldbS 0 rfl rfl rfl (by rfl) rfl rfl ?_
 refine Rx.pvs rfl ?_
 refine Rx.ldbS 0 rfl rfl rfl (by rfl) rfl rfl ?_
 refine Rx.pvs rfl ?_
 refine Rx.one rfl rfl rfl ?_
 refine Se_ (StashO.close (a := ad b) (r := r) (xs := xs) rfl rfl rfl) ?_
 have hw : IntKind.i64.wrap ((xs.length : Int) - most) = (xs.length : Int) - most := w64 (by omega) (by omega)
 have hk : (if (xs.length : Int) - most < 0 then 0 else (xs.length : Int) - most) = (overK most xs : Int) := by unfold overK; omega
 rw [hw]
 simp only [cond_true, hk]
 refine Sa rfl (stashCut (b := b) (most := most) (xs := xs) (k := overK most xs) hb (by unfold overK; omega)) ?_
 rintro v L' ⟨a, c, rfl, rfl⟩
 refine Sx.nil ⟨trivial, ?_⟩
 refine Rx.pvs rfl ?_
 refine Rx.nil (go ?_)
 exact Ko rfl (Er _) ⟨a, c, rfl, rfl⟩
end
section
variable {P : Program} {N : Nat} {e : En} {K : En → St → Prop} {L F : St} {l : List G}
theorem Sx.apn {d : Option Nat} {T E sz by_ : Nat} {z : List Value} {x y : X} {ya : OA} {m c : Nat} {ys : List Value}
  (hx : x.get e = some (.slice none 0 0)) (hy : y.get e = some (.slice ya m c)) (hr : Rd L sz ya m ys) (h1 : ones ys = true) (hm : m ≤ maxLen) (hb : m * by_ ≤ 140737488355328)
  (k : ∀ ra' cap', m ≤ cap' → Sx P N l (e.put d (.slice ra' m cap')) K (pt ra' (Row E sz m cap' ys) :: L)) : Sx P N (⟨d, none, .ap T E sz by_ z x y⟩ :: l) e K L := by
 refine Se_ (Ent.rownil E sz) ?_
 refine Sx.ap (ra := none) (n := 0) (cap := 0) (xs := []) hx hy (hr.ent Ed) h1 (by omega) (by simpa using hb) fun ra ca hc => ?_
 simp only [Nat.zero_add, ln] at hc ⊢
 exact k ra ca hc
theorem Has.at_ {b o i : Nat} {vs : List Value} {v : Value} (h : Has L b o vs) (hv : vs[i]? = some v) : Has L b (o + i) [v] := by
 have := Has.sub (i := i) (n := 1) h
 rwa [take_one hv] at this
end
section
variable {L F : St}
theorem number (v n : Int) (hn : 0 < n) (hn2 : n ≤ 4611686018427387904) : FX 16 [ii v, ii n] L (fun r L' => r = ii (v % n) ∧ L = L') := by
 have h1 := Int.tmod_lt_of_pos v hn
 have h2 : v % n = if v.tmod n < 0 then v.tmod n + n else v.tmod n := by
  rw [Int.tmod_eq_emod]
  have h3 := Int.emod_nonneg v (show n ≠ 0 by omega)
  have h4 := Int.emod_lt_of_pos v hn
  have h5 : (n.natAbs : Int) = n := by omega
  split <;> split <;> omega
 have h6 : -n < v.tmod n := by
  rw [Int.tmod_eq_emod]
  have h3 := Int.emod_nonneg v (show n ≠ 0 by omega)
  have h4 := Int.emod_lt_of_pos v hn
  have h5 : (n.natAbs : Int) = n := by omega
  split <;> omega
 refine Fm Tryz.func16 k16 ?_
 dsimp only [c16, eL]
 refine go ?_
 refine Sv rfl (by omega) (go ?_)
 refine Xi rfl (fun h => ?_) (fun h => ?_)
 ·refine go ?_
  refine Ko rfl (Er _) ⟨?_, rfl⟩
  rw [w64 (by omega) (by omega), h2, if_pos h]
 ·refine go ?_
  refine Ko rfl (Er _) ⟨?_, rfl⟩
  rw [h2, if_neg h]
theorem sameInts {xs ys : List Int} {a b : OA} {n m c d : Nat} (h1 : Rd L 1 a n (ints xs)) (h2 : Rd L 1 b m (ints ys)) (hb : n ≤ 1000000000) :
  FX 62 [.slice a n c, .slice b m d] L (fun v L' => v = .bool (decide (xs = ys)) ∧ L = L') := by
 have hn : n = xs.length := by have := h1.1; simp [ints] at this; omega
 have hm : m = ys.length := by have := h2.1; simp [ints] at this; omega
 refine Fm Tryz.func62 k62 ?_
 dsimp only [c62, eL]
 refine go ?_
 refine Cx.ifn rfl (fun h => ?_) (fun h => ?_)
 ·refine go ?_
  have hne : xs ≠ ys := fun he => h (by rw [hn, hm, he])
  exact Ko rfl (Er _) ⟨by simp [hne], rfl⟩
 ·refine go ?_
  have hnm : n = m := by omega
  refine Cx.lp (α := {i : Nat // i ≤ n ∧ xs.take i = ys.take i}) (fun i => [(0, .slice a n c), (1, .slice b m d), (5, ii i.1)]) (fun _ => L) (fun i => n - i.1) ⟨0, by omega, rfl⟩ sb3 (Er _) ?_
  rintro ⟨i, hi, heq⟩
  dsimp only
  refine go ?_
  refine Xi rfl (fun h => ?_) (fun h => ?_)
  ·have hlt : i < n := by omega
   obtain ⟨_, h0 | ⟨ga, oa, rfl, ha⟩⟩ := h1
   ·omega
   obtain ⟨_, h0 | ⟨gb, ob, rfl, hbb⟩⟩ := h2
   ·omega
   have hx : (ints xs)[i]? = some (ii xs[i]) := by simp [ints]
   have hy : (ints ys)[i]? = some (ii ys[i]) := by simp [ints]
   refine go ?_
   refine Cx.rd ?_
   refine Rx.pvs rfl ?_
   refine Rx.pv 0 rfl rfl rfl ⟨by omega, by omega⟩ rfl rfl ?_
   refine Rx.pv 1 rfl rfl rfl ⟨by omega, by omega⟩ rfl rfl ?_
   refine Rx.ldS 0 rfl rfl rfl (by simpa using ha.at_ hx) rfl rfl rfl ?_
   refine Rx.ldS 0 rfl rfl rfl (by simpa using hbb.at_ hy) rfl rfl rfl ?_
   refine Rx.pvs rfl ?_
   refine Rx.nil (go ?_)
   refine Cx.ifn rfl (fun hne => ?_) (fun he => ?_)
   ·refine go ?_
    have hxy : xs ≠ ys := fun he => by subst he; exact hne rfl
    exact Ko rfl (Er _) ⟨by simp [hxy], rfl⟩
   ·refine go ?_
    rw [w64 (by omega) (by omega)]
    refine Kn ⟨i + 1, by omega, ?_⟩ (sub.cons rfl (sub.cons rfl (sub.cons (by simp [En.get, En.put]) sub.nil))) (Er _) (by simp; omega)
    rw [List.take_succ_eq_append_getElem (by omega), List.take_succ_eq_append_getElem (by omega), heq, he]
  ·refine go ?_
   have hin : i = n := by omega
   subst hin
   have hxy : xs = ys := by
    rw [hn, List.take_length] at heq
    rw [heq, ← hn, hnm, hm, List.take_length]
   exact Ko rfl (Er _) ⟨by simp [hxy], rfl⟩
abbrev RefO := StashT 191
theorem refNew (m : Int) : FX 149 [ii m] L (fun v L' => ∃ g, v = zp g ∧ L' = pt (ad g) (RefO (min (max m 0) 64) []) :: L) := by
 refine Fm Tryz.func149 k149 ?_
 dsimp only [c149, eL]
 refine go ?_
 refine Sx.bx rfl rfl fun g => (go ?_)
 refine Ko rfl (Et (Ent.rownil 3 1) (StashO.close (xs := []) rfl ?_ rfl)) ⟨g, rfl, rfl⟩
 simp only [cond_true, cond_false]
 congr 1
 omega
theorem refGive {b : Nat} {most : Int} {xs ys : List Int} {ya : OA} {m c : Nat} [t : Take L (ad b) (RefO most xs) F] (hr : Rd F 1 ya m (ints ys)) (hb : xs.length + m ≤ 1000000000) :
  FX 184 [zp b, .slice ya m c] L (fun v L' => v = .tuple #[] ∧ L' = pt (ad b) (RefO most (xs ++ ys)) :: F) := by
 refine Fm Tryz.func184 k184 ?_
 dsimp only [c184, eL]
 refine Xo (t := t) rfl ?_
 rintro ⟨r, cap⟩
 simp only [lc, ln]
 refine Cx.rowkey (a := r) fun hx hnc _ hkey => (go ?_)
 refine Sx.apn rfl rfl (Rd.any (a := r) hx (hkey.imp (fun h => h.2.1) id)) (ones_ints xs) (by simp [maxLen]; omega) (by omega) fun r1 c1 h1 => (go ?_)
 refine Sx.ap rfl rfl (hr.ent (Ent.drop.trans (Ent.drop.trans Ed))) (ones_ints ys) (by simp [maxLen]; omega) (by omega) fun r2 c2 h2 => (go ?_)
 have hm : m = ys.length := by have := hr.1; simp [length_ints] at this; omega
 refine Kr.none (.inl rfl) ?_ ⟨rfl, rfl⟩
 refine Et (StashO.close (a := ad b) (r := r2) (xs := xs ++ ys) (by simp [hm]) rfl (by simp [ints])) ?_
 exact ent
theorem refTakeNone {b : Nat} {most : Int} [t : Take L (ad b) (RefO most []) F] :
  FX 231 [zp b] L (fun v L' => v = .tuple #[ii 0, .bool false] ∧ L' = pt (ad b) (RefO most []) :: F) := by
 refine Fm Tryz.func231 k231 ?_
 dsimp only [c231, eL]
 refine Xo (t := t) rfl ?_
 rintro ⟨r, cap⟩
 simp only [lc, ln]
 refine go ?_
 exact Kr.two (.inr rfl) rfl rfl (StashO.close rfl rfl rfl) ⟨rfl, rfl⟩
theorem refTakeSome {b : Nat} {most : Int} {xs : List Int} {x : Int} [t : Take L (ad b) (RefO most (xs ++ [x])) F] (hb : xs.length ≤ 100000000) :
  FX 231 [zp b] L (fun v L' => v = .tuple #[ii x, .bool true] ∧ L' = pt (ad b) (RefO most xs) :: F) := by
 refine Fm Tryz.func231 k231 ?_
 dsimp only [c231, eL]
 refine Xo (t := t) rfl ?_
 rintro ⟨r, cap⟩
 simp only [lc, ln]
 generalize hn : (xs ++ [x]).length = n
 have hn' : n = xs.length + 1 := by simp at hn; omega
 clear hn
 refine Cx.rowkey (a := r) fun hx hnc _ hk => ?_
 obtain ⟨g, rfl⟩ : ∃ g, r = ad g := by
  rcases hk with h | h
  ·exfalso; omega
  ·exact h
 have hw : IntKind.i64.wrap ((n : Int) - 1) = (xs.length : Int) := by rw [w64 (by omega) (by omega)]; omega
 refine go ?_
 refine Xn rfl (by simp; omega) (go ?_)
 rw [hw]
 refine go ?_
 refine Sv rfl ⟨by omega, by omega⟩ ?_
 refine Sx.ldr rfl (v := ii x) ?_ ?_
 ·simp [ints]
 refine go ?_
 rw [hw]
 refine go ?_
 refine Sv rfl ⟨by omega, by omega⟩ ?_
 have h1 := Rd.prefix_ (L := pt (ad b) (Blk 191 [ii most, .slice (ad g) n cap]) :: pt (ad g) (Row 3 1 n cap (ints (xs ++ [x]))) :: F) (m := xs.length) (a := ad g) hx (.inr ⟨g, rfl⟩) (by omega)
 have h2 : (ints (xs ++ [x])).take (xs.length * 1) = ints xs := by simp [ints]
 rw [h2] at h1
 refine Sx.apn rfl rfl (by simpa using h1) (ones_ints xs) (by simp [maxLen]; omega) (by omega) fun r1 c1 h3 => (go ?_)
 refine Kr.two (.inr rfl) rfl rfl ?_ ⟨rfl, rfl⟩
 refine Et (StashO.close (a := ad b) (r := r1) (xs := xs) (by simp) rfl rfl) ?_
 exact ent
theorem refOver {b : Nat} {most : Int} {xs : List Int} [t : Take L (ad b) (RefO most xs) F] (hb : xs.length ≤ 100000000) (hm : 0 ≤ most) (hm2 : most ≤ 64) :
  FX 197 [zp b] L (fun v L' => ∃ a c, v = .slice a (overK most xs) c ∧ L' = pt a (Row 3 1 (overK most xs) c (ints (xs.take (overK most xs)))) :: pt (ad b) (RefO most (xs.drop (overK most xs))) :: F) := by
 refine Fm Tryz.func197 k197 ?_
 dsimp only [c197, eL]
 refine Xo (t := t) rfl ?_
 rintro ⟨r, cap⟩
 simp only [lc, ln]
 refine Cx.rowkey (a := r) fun hx hnc _ hkey => (go ?_)
 refine Cx.rd ?_
 refine Rx.pvs rfl ?_
 refine Rx.ldbS 0 rfl rfl rfl (by rfl) rfl rfl ?_
 refine Rx.pvs rfl ?_
 refine Rx.ldbS 0 rfl rfl rfl (by rfl) rfl rfl ?_
 refine Rx.pvs rfl ?_
 refine Rx.nil ?_
 have hw : IntKind.i64.wrap ((xs.length : Int) - most) = (xs.length : Int) - most := w64 (by omega) (by omega)
 have hk : (if (xs.length : Int) - most < 0 then 0 else (xs.length : Int) - most) = (overK most xs : Int) := by unfold overK; omega
 have hkl : overK most xs ≤ xs.length := by unfold overK; omega
 rw [hw]
 simp only [cond_true, hk]
 refine go ?_
 refine Sv rfl ⟨by omega, by omega⟩ ?_
 have h1 := Rd.prefix_ (L := pt (ad b) (Blk 191 [ii most, .slice r xs.length cap]) :: pt r (Row 3 1 xs.length cap (ints xs)) :: F) (a := r) hx hkey hkl
 simp only [Nat.mul_one, ints_take] at h1
 refine Sx.apn rfl rfl (by simpa using h1) (ones_ints _) (by simp [maxLen]; omega) (by omega) fun r1 c1 h3 => (go ?_)
 rcases hkey with ⟨rfl, h0, rfl⟩ | ⟨g, rfl⟩
 ·have hx0 : xs = [] := nz_ h0
  subst hx0
  have hk0 : overK most [] = 0 := by simpa using hkl
  rw [hk0] at h3 ⊢
  refine Sv rfl (by simp) ?_
  refine Sx.apn rfl rfl (Rd.nil _ _ _) rfl (by simp) (by simp) fun r2 c2 h4 => (go ?_)
  refine Ko rfl ?_ ⟨r1, c1, rfl, rfl⟩
  refine Et (StashO.close (a := ad b) (r := r2) (xs := []) rfl rfl rfl) ?_
  simp only [tn, List.take_nil, List.drop_nil, ints, List.map_nil]
  exact ent
 ·refine Sv rfl ⟨by omega, by omega⟩ ?_
  have h2 := Rd.suffix_ (L := pt r1 (Row 3 1 (overK most xs) c1 (ints (xs.take (overK most xs)))) :: pt (ad b) (Blk 191 [ii most, .slice (ad g) xs.length cap]) :: pt (ad g) (Row 3 1 xs.length cap (ints xs)) :: F) (g := g) hx hnc hkl
  simp only [Nat.mul_one, ints_drop] at h2
  refine Sx.apn rfl rfl (ys := ints (xs.drop (overK most xs))) (by simpa using h2) (ones_ints _) (by simp [maxLen]; omega) (by omega) fun r2 c2 h4 => (go ?_)
  refine Ko rfl ?_ ⟨r1, c1, rfl, rfl⟩
  refine Et (StashO.close (a := ad b) (r := r2) (xs := xs.drop (overK most xs)) (by simp) rfl rfl) ?_
  simp only [tn]
  exact ent
end
end
section
open Go
section
variable {P : Program} {N : Nat} {L M F : St}
theorem Fx.kept {f : FuncId} {vs : List Value} {v : Value} {a : OA} {R : OA → As} [t : Take L a R F] (h : Fx P f vs L (fun v' L' => v' = v ∧ L' = pt a R :: F)) : Fx P f vs L (fun v' L' => v' = v ∧ L = L') :=
 fun w0 w s => (h w0 w s).mono fun en w' ⟨v', L', he, ⟨hv, hL⟩, hS⟩ => ⟨v', L, he, ⟨hv, rfl⟩, hS.ent (by subst hL; exact Eo t.back)⟩
theorem Fx.pure {f : FuncId} {vs : List Value} {R : Value → St → Prop} (x : Fx P f vs L R) {p : Value → St → Prop} (hp : ∀ v L', R v L' → ∀ h, holds L' h → p v L') : Fx P f vs L (fun v L' => R v L' ∧ p v L') :=
 fun w0 w s => (x w0 w s).mono fun en w' ⟨v, L', he, hR, hS⟩ => by
  obtain ⟨h, hh, _⟩ := hS.heap
  exact ⟨v, L', he, ⟨hR, hp v L' hR h hh⟩, hS⟩
class Mono (Kf : En → St → Prop) : Prop where
 le : ∀ e e' L, sub e e' → Kf e L → Kf e' L
instance Mono.cx {c : C} {K : Kx} : Mono (fun e L => Cx P N c e K L) := ⟨fun _ _ _ hs h => Cx.less hs h⟩
instance Mono.sq {c : C} {K : Kx} : Mono (fun e L => Ksq P N c K .nm e L) := ⟨fun _ _ _ hs h => Cx.less hs h⟩
instance Mono.bl {K : Kx} {i : Nat} [m : Mono (fun e L => K .nm e L)] : Mono (fun e L => Kbl i K .nm e L) := ⟨fun e e' L hs h => m.le e e' L hs h⟩
instance Mono.lp {α : Type _} {K : Kx} {T : α → En} {S : α → St} {μ : α → Nat} {x : α} : Mono (fun e L => Klp K T S μ x .nm e L) := ⟨fun _ _ _ hs h => Klp.mono _ _ hs h⟩
instance Mono.jn {β : Type _} {K : Kx} {T : β → En} {S : β → St} : Mono (fun e L => Kjn K T S .nm e L) := ⟨fun _ _ _ hs h => Kjn.mono _ _ hs h⟩
instance Mono.kr {rs : List RV} {R : Value → St → Prop} : Mono (fun e L => Kr P N rs R .nm e L) := ⟨fun e e' L hs ⟨h1, v, L', h2, h3, h4⟩ => ⟨h1, v, L', fun fn a w0 w hr ok s => h2 fn a w0 w hr (ok.sub hs) s, h3, h4⟩⟩
theorem Ev.same {Kf : En → St → Prop} {rem : List It} {ms : List (Nat × (St → Prop))} {e : En} {L : St} (h : Ev P N Kf rem ms e L) : ∀ {rem2 : List It}, (∀ x, x ∈ rem2 ↔ x ∈ rem) → Ev P N Kf rem2 ms e L := by
 induction h with
 | nil h =>
   intro rem2 hm
   cases rem2 with
   | nil => exact .nil h
   | cons x r => exact absurd ((hm x).1 (by simp)) (by simp)
 | free x hx v h k ih => exact fun hm => .free x ((hm x).2 hx) v h (ih fun y => by rw [mem_without, mem_without, hm])
 | looks x hx v Φ hΦ h k ih => exact fun hm => .looks x ((hm x).2 hx) v Φ hΦ h (ih fun y => by rw [mem_without, mem_without, hm])
 | turns x hx R h1 h2 h k ih =>
   intro rem2 hm
   refine .turns x ((hm x).2 hx) R (List.all_eq_true.2 fun y hy => List.all_eq_true.1 h1 y ?_) h2 h fun v L' hR => ih v L' hR fun y => by rw [mem_without, mem_without, hm]
   rw [mem_without] at hy ⊢
   exact ⟨(hm y).1 hy.1, hy.2⟩
def pull : Nat → List It → Option (It × List It)
 | _, [] => none
 | 0, x :: r => some (x, r)
 | n + 1, x :: r => match pull n r with
   | some (y, k) => some (y, x :: k)
   | none => none
theorem pull_mem : ∀ {n : Nat} {l : List It} {x : It} {r : List It}, pull n l = some (x, r) → ∀ y, y ∈ l ↔ y ∈ x :: r
 | 0, [], _, _, h, _ => by cases h
 | n + 1, [], _, _, h, _ => by cases h
 | 0, a :: l, x, r, h, y => by cases h; rfl
 | n + 1, a :: l, x, r, h, y => by
   simp only [pull] at h
   split at h
   ·rename_i z k hz
    cases h
    have := pull_mem hz y
    simp only [List.mem_cons] at this ⊢
    rw [this]
    constructor
    ·rintro (h | h | h) <;> simp [h]
    ·rintro (h | h | h) <;> simp [h]
   ·cases h
section
variable {Kf : En → St → Prop} {e : En} {rem rem' r : List It} {ms : List (Nat × (St → Prop))} {i ds sz : Nat} {rs : List Nat} {d : Option Nat} {g : Option (Nat × Bool)}
theorem Ev.bring (j : Nat) {x : It} (h : pull j rem = some (x, r)) (k : Ev P N Kf (x :: r) ms e L) : Ev P N Kf rem ms e L := k.same fun y => pull_mem h y
def dist : List It → Bool
 | [] => true
 | x :: l => l.all (fun y => !(Nat.beq y.i x.i)) && dist l
theorem without_head {x : It} (h : r.all (fun y => !(Nat.beq y.i x.i)) = true) : without (x :: r) x.i = r := by
 unfold without
 rw [List.filter_cons]
 simp only [Nat.beq_refl, Bool.not_true, bf, if_false]
 rw [List.filter_eq_self]
 exact fun y hy => List.all_eq_true.1 h y hy
theorem dist_move {x : It} {r : List It} : ∀ {pre : List It}, dist (pre ++ x :: r) = true → dist (x :: (pre ++ r)) = true
 | [], hd => hd
 | y :: pre, hd => by
   simp only [lc, dist, Bool.and_eq_true, List.all_append, List.all_cons] at hd
   obtain ⟨⟨h1, h2, h3⟩, h4⟩ := hd
   have := dist_move h4
   simp only [lc, dist, Bool.and_eq_true, List.all_append, List.all_cons] at this ⊢
   refine ⟨⟨?_, this.1⟩, ⟨h1, h3⟩, this.2⟩
   simp only [Bool.not_eq_true'] at h2 ⊢
   cases hb : Nat.beq y.i x.i with
   | false => rfl
   | true => rw [bq hb] at h2; simp at h2
def pass : Nat → List It → En → Option (List It × En)
 | _, [], _ => none
 | n, x :: r, e => match stepM x e with
   | some v => match x.g.d with
     | some t => match pass n r ((t, v) :: e) with
       | some q => some q
       | none => some (r, (t, v) :: e)
     | none => match pass n r e with
       | some q => some q
       | none => some (r, e)
   | none => match n with
     | 0 => none
     | n + 1 => match pass n r e with
       | some (k, e') => some (x :: k, e')
       | none => none
theorem pass_ev : ∀ {n : Nat} {r : List It} {e : En} {rem' : List It} {e' : En}, pass n r e = some (rem', e') → ∀ pre : List It, dist (pre ++ r) = true → Ev P N Kf (pre ++ rem') ms e' L → Ev P N Kf (pre ++ r) ms e L
 | _, [], _, _, _, h, _, _, _ => by cases h
 | n, x :: r, e, rem', e', h, pre, hd, k => by
   have hd' : dist (x :: (pre ++ r)) = true := dist_move hd
   have hd2 : (pre ++ r).all (fun y => !(Nat.beq y.i x.i)) = true ∧ dist (pre ++ r) = true := by simpa [dist] using hd'
   rw [pass.eq_def] at h
   simp only at h
   have tell : ∀ {v : Value}, stepM x e = some v → Ev P N Kf (pre ++ r) ms (e.put x.g.d v) L → Ev P N Kf (pre ++ x :: r) ms e L := by
    intro v hv k
    refine Ev.same (rem := x :: (pre ++ r)) (Ev.stp (x := x) (by simp) hv ?_) fun y => by simp only [List.mem_append, List.mem_cons]; constructor <;> (rintro (h | h | h) <;> simp [h])
    rw [without_head hd2.1]
    exact k
   split at h
   ·rename_i v hv
    refine tell hv ?_
    split at h
    ·rename_i t ht
     rw [ht]
     split at h
     ·rename_i q hq
      cases h
      exact pass_ev hq pre hd2.2 k
     ·cases h
      exact k
    ·rename_i ht
     rw [ht]
     split at h
     ·rename_i q hq
      cases h
      exact pass_ev hq pre hd2.2 k
     ·cases h
      exact k
   ·cases n with
    | zero => cases h
    | succ n =>
      simp only at h
      split at h
      ·rename_i kk ee hq
       cases h
       have := pass_ev hq (pre ++ [x]) (by simpa using hd) (by simpa using k)
       simpa using this
      ·cases h
theorem Ev.pass (n : Nat) {e' : En} (h : Proofs.YtflalhdofhobmaaGreat.pass n rem e = some (rem', e')) (hd : dist rem = true) (k : Ev P N Kf rem' ms e' L) : Ev P N Kf rem ms e L := pass_ev h [] hd k
theorem Ev.stpH {x : It} {v : Value} {e' : En} (hd : dist (x :: r) = true) (h : stepM x e = some v) (he : (match x.g.d with | some t => (t, v) :: e | none => e) = e') (k : Ev P N Kf r ms e' L) : Ev P N Kf (x :: r) ms e L := by
 refine Ev.stp (x := x) (by simp) h ?_
 rw [without_head (by simp only [dist, Bool.and_eq_true] at hd; exact hd.1)]
 subst he
 cases hx : x.g.d with
 | none => rw [hx] at k; exact k
 | some t => rw [hx] at k; exact k
theorem only_sub {T e : En} (hs : sub T e) (rs : List Nat) : sub (T.only rs) (e.only rs) := by
 intro t u h
 have ⟨hm, hu⟩ := only_get h
 have hu' := hs t u hu
 clear h hu hs
 induction rs with
 | nil => cases hm
 | cons a r ih =>
   unfold En.only
   by_cases hat : a = t
   ·subst hat
    rw [hu']
    simp [En.get]
   ·have hm' : t ∈ r := by
     rcases List.mem_cons.1 hm with h | h
     ·exact absurd h.symm hat
     ·exact h
    have hb : Nat.beq a t = false := by
     cases hb : Nat.beq a t with
     | false => rfl
     | true => exact absurd (bq hb) hat
    split
    ·simp only [En.get, hb, cond_false]; exact ih hm'
    ·exact ih hm'
theorem sub.trans {a b c : En} (h : sub a b) (k : sub b c) : sub a c := fun i v x => k i v (h i v x)
theorem sub.put {a b : En} (h : sub a b) (d : Option Nat) (v : Value) : sub (a.put d v) (b.put d v) := by
 intro i u hi
 cases d with
 | none => exact h i u hi
 | some t =>
   simp only [En.put, En.get] at hi ⊢
   cases hb : Nat.beq t i with
   | true => simp only [hb, cond_true] at hi ⊢; exact hi
   | false => simp only [hb, cond_false] at hi ⊢; exact h i u hi
theorem Ev.less {T : En} (hK : ∀ e e' L, sub e e' → Kf e L → Kf e' L) (h : Ev P N Kf rem ms T L) : ∀ {e : En}, sub T e → Ev P N Kf rem ms e L := by
 induction h with
 | nil h => exact fun hs => .nil (hK _ _ _ hs h)
 | free x hx v h k ih => exact fun hs => .free x hx v (fun L e' he => h L e' ((only_sub hs _).trans he)) (ih (hs.put _ _))
 | looks x hx v Φ hΦ h k ih => exact fun hs => .looks x hx v Φ hΦ (fun M hM e' he => h M hM e' ((only_sub hs _).trans he)) (ih (hs.put _ _))
 | turns x hx R h1 h2 h k ih => exact fun hs => .turns x hx R h1 h2 (fun e' he => h e' ((only_sub hs _).trans he)) fun v L' hR => ih v L' hR (hs.put _ _)
theorem sub_learn {t : Nat} {p q : Value} (h : e.get t = some p) (hq : p = q) : sub ((t, q) :: e) e := by
 subst hq
 intro i u hi
 simp only [En.get] at hi
 cases hb : Nat.beq t i with
 | true => rw [hb, cond_true] at hi; rw [← bq hb, h]; exact hi
 | false => rw [hb, cond_false] at hi; exact hi
theorem Ev.learn [hK : Mono Kf] (t : Nat) {p q : Value} (h : e.get t = some p) (hq : p = q) (k : Ev P N Kf rem ms ((t, q) :: e) L) : Ev P N Kf rem ms e L := Ev.less hK.le k (sub_learn h hq)
theorem Ev.yes [hK : Mono Kf] (t : Nat) {p : Bool} (h : e.get t = some (.bool p)) (hp : p = true) (k : Ev P N Kf rem ms ((t, .bool true) :: e) L) : Ev P N Kf rem ms e L := .learn t h (by rw [hp]) k
theorem Ev.no [hK : Mono Kf] (t : Nat) {p : Bool} (h : e.get t = some (.bool p)) (hp : p = false) (k : Ev P N Kf rem ms ((t, .bool false) :: e) L) : Ev P N Kf rem ms e L := .learn t h (by rw [hp]) k
theorem Ev.fin (h : Kf e L) : Ev P N Kf [] ms e L := .nil h
def clr (ds : List Nat) : En → Option En
 | [] => some []
 | (i, v) :: r => match clr ds r with
   | some q => bif ds.any (Nat.beq i) then some q else some ((i, v) :: q)
   | none => none
def dsts : List It → List Nat
 | [] => []
 | x :: r => match x.g.d with | some d => d :: dsts r | none => dsts r
theorem clr_any {l : List It} {i : Nat} : (dsts l).any (Nat.beq i) = true → ∃ y ∈ l, y.g.d = some i := by
 induction l with
 | nil => intro h; cases h
 | cons x r ih =>
   intro h
   unfold dsts at h
   split at h
   ·rename_i d hd
    simp only [List.any_cons, Bool.or_eq_true] at h
    rcases h with h | h
    ·exact ⟨x, by simp, by rw [hd, bq h]⟩
    ·obtain ⟨y, hy, he⟩ := ih h; exact ⟨y, by simp [hy], he⟩
   ·obtain ⟨y, hy, he⟩ := ih h; exact ⟨y, by simp [hy], he⟩
theorem clr_eq {l : List It} : ∀ {e q : En}, clr (dsts l) e = some q → q = e.clear l
 | [], q, h => by cases h; rfl
 | (i, v) :: r, q, h => by
   simp only [clr] at h
   split at h
   ·rename_i q' hq
    have ih := clr_eq hq
    subst ih
    unfold En.clear
    rw [List.filter_cons]
    cases hb : (dsts l).any (Nat.beq i) with
    | true =>
      rw [hb, cond_true] at h; cases h
      obtain ⟨y, hy, he⟩ := clr_any hb
      rw [if_neg]
      ·rfl
      ·intro hh
       have := List.all_eq_true.1 hh y hy
       rw [he] at this; simp at this
    | false =>
      rw [hb, cond_false] at h; cases h
      rw [if_pos]
      ·rfl
      ·refine List.all_eq_true.2 fun y hy => ?_
       cases hyd : y.g.d with
       | none => rfl
       | some d =>
         simp only [Bool.not_eq_true']
         cases hdi : Nat.beq d i with
         | false => rfl
         | true =>
           exfalso
           rw [bq hdi] at hyd
           have : (dsts l).any (Nat.beq i) = true := by
            clear hb hq
            induction l with
            | nil => cases hy
            | cons x l ih =>
              unfold dsts
              rcases List.mem_cons.1 hy with rfl | hy
              ·rw [hyd]; simp
              ·split
               ·simp only [List.any_cons, Bool.or_eq_true]; exact .inr (ih hy)
               ·exact ih hy
           rw [hb] at this; cases this
   ·cases h
theorem Cx.ordc {l : List It} {e q : En} {d : C} {K : Kx} (hq : clr (dsts l) e = some q) (hc : chkO l = true) (h : Ev P N (fun fin L => Cx P N d fin K L) l [] q L) : Cx P N (.rd l) e (Ksq P N d K) L := by
 refine Cx.ord hc ?_
 rw [← clr_eq hq]
 exact h
abbrev Xd := @Cx.ordc
theorem Cx.orde {l : List It} {e q : En} {K : Kx} [hK : Mono (fun e L => K .nm e L)] (hq : clr (dsts l) e = some q) (hc : chkO l = true) (h : Ev P N (fun fin L => K .nm fin L) l [] q L) : Cx P N (.rd l) e K L := by
 rw [clr_eq hq] at h
 simp only [chkO, Bool.and_eq_true] at hc
 refine Cx.rd ?_
 refine ev_run (Kf := Krg K) hc.1 hc.2.1 hc.2.2 hK.le l.length l [] (e.clear l) L h [] l e rfl (fun _ h => h) (fun x => by simp) (fun _ h => by cases h) (fun _ h => by cases h) (fun y hy d hyd => ?_) (fun t u ht _ => clear_sub ht)
 cases hg : (e.clear l).get d with
 | none => rfl
 | some u => exact absurd hyd ((clear_get hg).1 y hy)
def lastOne (l : List It) (y : It) : Bool := l.all fun x => bit y.ds x.i && !(Nat.beq y.i x.i)
theorem Cx.ordl {l : List It} {y : It} {e q : En} {K : Kx} [hK : Mono (fun e L => K .nm e L)] (hq : clr (dsts l) e = some q) (hc : chkO l = true) (hy : lastOne l y = true)
  (h : Ev P N (fun fin L => Sx P N [y.g] fin (fun e L => K .nm e L) L) l [] q L) : Cx P N (.rd (l ++ [y])) e K L := by
 rw [clr_eq hq] at h
 simp only [chkO, Bool.and_eq_true] at hc
 refine Cx.rd ?_
 refine ev_runT (Kf := fun fin L => Sx P N [y.g] fin (fun e L => K .nm e L) L) (Kt := Krg K) hc.1 hc.2.1 hc.2.2 (fun z hz x hx => ?_) (fun e e' L hs hk => ?_) l.length l [] (e.clear l) L h [] l e rfl (fun _ h => h) (fun x => by simp) (fun _ h => by cases h) (fun _ h => by cases h) (fun y hy d hyd => ?_) (fun t u ht _ => clear_sub ht)
 ·have : z = y := by simpa using hz
  subst this
  simp only [lastOne, List.all_eq_true, Bool.and_eq_true] at hy
  refine ⟨(hy x hx).1, fun e => ?_⟩
  have := (hy x hx).2
  rw [e] at this; simp at this
 ·refine Rx.all (fun h => by cases h) fun x hx => ⟨by simp, ?_⟩
  have hxy : x = y := by
   have : x ∈ [y] := (List.mem_filter.1 hx).1
   simpa using this
  subst hxy
  intro ops os Q a w0 w hc2 ok s kk
  refine hk ops os Q a w0 w hc2 (ok.sub hs) s fun a' w' e2 L2 h2 => kk a' w' e2 L2 ⟨trivial, ?_⟩
  have hw : without [x] x.i = [] := by simp [without]
  rw [hw]
  exact Rx.nil h2
 ·cases hg : (e.clear l).get d with
  | none => rfl
  | some u => exact absurd hyd ((clear_get hg).1 y hy)
def unsnoc : List It → Option (List It × It)
 | [] => none
 | x :: r => match r with
   | [] => some ([], x)
   | _ :: _ => match unsnoc r with
     | some (l, y) => some (x :: l, y)
     | none => none
theorem unsnoc_eq : ∀ {l0 l : List It} {y : It}, unsnoc l0 = some (l, y) → l0 = l ++ [y]
 | [], _, _, h => by cases h
 | [x], l, y, h => by cases h; rfl
 | x :: z :: r, l, y, h => by
   have ih := @unsnoc_eq (z :: r)
   unfold unsnoc at h
   simp only at h
   split at h
   ·rename_i l' y' hq
    cases h
    rw [ih hq]; rfl
   ·cases h
theorem Cx.ordu {l0 l : List It} {y : It} {e q : En} {K : Kx} [hK : Mono (fun e L => K .nm e L)] (hu : unsnoc l0 = some (l, y)) (hq : clr (dsts l) e = some q) (hc : chkO l = true) (hy : lastOne l y = true)
  (h : Ev P N (fun fin L => Sx P N [y.g] fin (fun e L => K .nm e L) L) l [] q L) : Cx P N (.rd l0) e K L := by
 rw [unsnoc_eq hu]
 exact Cx.ordl hq hc hy h
theorem Ev.lookH {s : S} {v : Value} (Φ : St → Prop) (hd : dist (⟨i, ds, rs, ⟨d, g, s⟩⟩ :: r) = true) (hg : gon (e.only rs) g = true) (hΦ : Φ L) (h : ∀ M, Φ M → ∀ e', sub (e.only rs) e' → Sc P N ⟨d, none, s⟩ e' v M)
  (k : Ev P N Kf r ((i, Φ) :: ms) (e.put d v) L) : Ev P N Kf (⟨i, ds, rs, ⟨d, g, s⟩⟩ :: r) ms e L :=
 .looks ⟨i, ds, rs, ⟨d, g, s⟩⟩ (by simp) v Φ hΦ (fun M hM e' hs => .gon hg hs (h M hM e' hs)) (by
  rw [show without (⟨i, ds, rs, ⟨d, g, s⟩⟩ :: r) i = r from without_head (x := ⟨i, ds, rs, ⟨d, g, s⟩⟩) (by simp only [dist, Bool.and_eq_true] at hd; exact hd.1)]
  exact k)
theorem Ev.ldH {x : X} {n b off : Nat} {ag : Bool} {vs : List Value} {v : Value} (hd : dist (⟨i, ds, rs, ⟨d, g, .ld x n ag⟩⟩ :: r) = true) (hg : gon (e.only rs) g = true) (hx : x.get (e.only rs) = some (.pointer (some ⟨b, off, none⟩))) (hh : Has L b off vs) (hv : ldv n ag vs = some v)
  (k : Ev P N Kf r ((i, fun M => Has M b off vs) :: ms) (e.put d v) L) : Ev P N Kf (⟨i, ds, rs, ⟨d, g, .ld x n ag⟩⟩ :: r) ms e L :=
 .lookH (fun M => Has M b off vs) hd hg hh (fun M hM e' hs K k => Sx.ld (X.get_sub hx hs) hM hv (Sx.nil k)) k
theorem Ev.ldbH {x : X} {b off : Nat} {T : TypeId} {cs : List Value} {v : Value} [t : Take L (ad b) (Blk T cs) F] (hd : dist (⟨i, ds, rs, ⟨d, g, .ld x 1 false⟩⟩ :: r) = true) (hg : gon (e.only rs) g = true) (hx : x.get (e.only rs) = some (.pointer (some ⟨b, off, none⟩)))
  (hv : cs[off]? = some v) (k : Ev P N Kf r ((i, fun M => Has M b off [v]) :: ms) (e.put d v) L) : Ev P N Kf (⟨i, ds, rs, ⟨d, g, .ld x 1 false⟩⟩ :: r) ms e L :=
 .ldH hd hg hx ((Has.blk (T := T) (cs := cs) (n := 1)).one (take_one hv)) rfl k
theorem Ev.ldrH {x : X} {b off E sz n cap : Nat} {xs : List Value} {v : Value} [t : Take L (ad b) (Row E sz n cap xs) F] (hd : dist (⟨i, ds, rs, ⟨d, g, .ld x 1 false⟩⟩ :: r) = true) (hg : gon (e.only rs) g = true) (hx : x.get (e.only rs) = some (.pointer (some ⟨b, off, none⟩)))
  (hv : xs[off]? = some v) (k : Ev P N Kf r ((i, fun M => Has M b off [v]) :: ms) (e.put d v) L) : Ev P N Kf (⟨i, ds, rs, ⟨d, g, .ld x 1 false⟩⟩ :: r) ms e L :=
 .ldH hd hg hx ((Has.row (E := E) (sz := sz) (n := n) (cap := cap) (xs := xs) (m := 1)).one (take_one hv)) rfl k
abbrev El := @Ev.ldrH
theorem Ev.ldbsH {x : X} {b off n : Nat} {T : TypeId} {cs : List Value} [t : Take L (ad b) (Blk T cs) F] (hd : dist (⟨i, ds, rs, ⟨d, g, .ld x n true⟩⟩ :: r) = true) (hg : gon (e.only rs) g = true) (hx : x.get (e.only rs) = some (.pointer (some ⟨b, off, none⟩)))
  (hn : Nat.ble (off + n) cs.length = true) (k : Ev P N Kf r ((i, fun M => Has M b off ((cs.drop off).take n)) :: ms) (e.put d (.agg ((cs.drop off).take n).toArray)) L) : Ev P N Kf (⟨i, ds, rs, ⟨d, g, .ld x n true⟩⟩ :: r) ms e L := by
 refine .ldH hd hg hx (Has.blk (T := T) (cs := cs) (n := n)) ?_ k
 have h1 := Nat.le_of_ble_eq_true hn
 have h2 : ((cs.drop off).take n).length = n := by simp; omega
 simp [ldv, h2]
theorem Ev.pvH {s : S} {φ : Prop} {v : Value} (hd : dist (⟨i, ds, rs, ⟨d, g, s⟩⟩ :: r) = true) (hg : gon (e.only rs) g = true) (hp : Proofs.YtflalhdofhobmaaGreat.pv (e.only rs) s = some (φ, v)) (hφ : φ) (k : Ev P N Kf r ms (e.put d v) L) :
  Ev P N Kf (⟨i, ds, rs, ⟨d, g, s⟩⟩ :: r) ms e L :=
 .free ⟨i, ds, rs, ⟨d, g, s⟩⟩ (by simp) v (fun L e' hs => .gon hg hs (.pv hp hφ hs)) (by
  rw [without_head (x := ⟨i, ds, rs, ⟨d, g, s⟩⟩) (by simp only [dist, Bool.and_eq_true] at hd; exact hd.1)]
  exact k)
theorem Ev.cakH {f : FuncId} {xs : List X} {vs : List Value} {v : Value} (hd : dist (⟨i, ds, rs, ⟨d, g, .ca f xs⟩⟩ :: r) = true) (hg : gon (e.only rs) g = true) (hx : gets (e.only rs) xs = some vs) (hf : Fx P f vs L (fun v' L' => v' = v ∧ L = L'))
  (k : Ev P N Kf r ((i, fun M => Fx P f vs M (fun v' L' => v' = v ∧ M = L')) :: ms) (e.put d v) L) : Ev P N Kf (⟨i, ds, rs, ⟨d, g, .ca f xs⟩⟩ :: r) ms e L :=
 .lookH (fun M => Fx P f vs M (fun v' L' => v' = v ∧ M = L')) hd hg hf (fun M hM e' hs K k => Sa (gets_sub hs hx) hM fun v' L' h => by
  obtain ⟨rfl, rfl⟩ := h
  exact Sx.nil k) k
abbrev Eb := @Ev.cakH
theorem Se.gon {T e' : En} {s : S} {R : Value → St → Prop} (hg : Proofs.YtflalhdofhobmaaGreat.gon T g = true) (hs : sub T e') (h : Se P N ⟨d, none, s⟩ e' L R) : Se P N ⟨d, g, s⟩ e' L R := by
 unfold Proofs.YtflalhdofhobmaaGreat.gon at hg
 split at hg
 ·exact h
 ·rename_i t b
  split at hg
  ·rename_i c hc
   have hcb : c = b := by simpa using hg
   subst hcb
   exact fun K k => Sx.on (hs _ _ hc) (h K k)
  ·cases hg
def lastly (i : Nat) (r : List It) : Bool := r.all fun y => !(Nat.beq y.i i) && bit y.ds i
theorem lastly_all {i : Nat} {r : List It} (h : lastly i r = true) : r.all (fun y => bit y.ds i) = true ∧ r.all (fun y => !(Nat.beq y.i i)) = true := by
 simp only [lastly, Bool.and_eq_true, List.all_eq_true] at h ⊢
 exact ⟨fun y hy => (h y hy).2, fun y hy => (h y hy).1⟩
inductive Pres (ds : Nat) (R : Value → St → Prop) : List (Nat × (St → Prop)) → Prop
 | nil : Pres ds R []
 | dep {m : Nat} {Φ : St → Prop} {l : List (Nat × (St → Prop))} (h : bit ds m = true) (k : Pres ds R l) : Pres ds R ((m, Φ) :: l)
 | keep {m : Nat} {Φ : St → Prop} {l : List (Nat × (St → Prop))} (h : ∀ v L', R v L' → Φ L') (k : Pres ds R l) : Pres ds R ((m, Φ) :: l)
theorem Pres.all {ds : Nat} {R : Value → St → Prop} {ms : List (Nat × (St → Prop))} (h : Pres ds R ms) : ∀ q ∈ ms, bit ds q.1 = true ∨ ∀ v L', R v L' → q.2 L' := by
 induction h with
 | nil => intro q hq; cases hq
 | dep h k ih =>
   intro q hq
   rcases List.mem_cons.1 hq with rfl | hq
   ·exact .inl h
   ·exact ih q hq
 | keep h k ih =>
   intro q hq
   rcases List.mem_cons.1 hq with rfl | hq
   ·exact .inr h
   ·exact ih q hq
theorem Pres.deps {ds : Nat} {R : Value → St → Prop} : ∀ {ms : List (Nat × (St → Prop))}, (ms.all fun q => bit ds q.1) = true → Pres ds R ms
 | [], _ => .nil
 | q :: l, h => by
   simp only [List.all_cons, Bool.and_eq_true] at h
   exact .dep h.1 (Pres.deps h.2)
abbrev Pd := @Pres.deps
theorem Ev.genH {s : S} {R : Value → St → Prop} (hd : lastly i r = true) (hp : Pres ds R ms) (hg : gon (e.only rs) g = true) (h : ∀ e', sub (e.only rs) e' → Se P N ⟨d, none, s⟩ e' L R)
  (k : ∀ v L', R v L' → Ev P N Kf r ms (e.put d v) L') : Ev P N Kf (⟨i, ds, rs, ⟨d, g, s⟩⟩ :: r) ms e L := by
 have hw := without_head (x := ⟨i, ds, rs, ⟨d, g, s⟩⟩) (lastly_all hd).2
 refine .turns ⟨i, ds, rs, ⟨d, g, s⟩⟩ (by simp) R ?_ hp.all (fun e' hs => .gon hg hs (h e' hs)) fun v L' hR => ?_
 ·rw [show without (_ :: r) i = r from hw]; exact (lastly_all hd).1
 ·rw [show without (_ :: r) i = r from hw]; exact k v L' hR
theorem Ev.caH {f : FuncId} {xs : List X} {vs : List Value} {R : Value → St → Prop} (hd : lastly i r = true) (hg : gon (e.only rs) g = true) (hx : gets (e.only rs) xs = some vs) (hf : Fx P f vs L R) (hp : Pres ds R ms)
  (k : ∀ v L', R v L' → Ev P N Kf r ms (e.put d v) L') : Ev P N Kf (⟨i, ds, rs, ⟨d, g, .ca f xs⟩⟩ :: r) ms e L :=
 .genH hd hp hg (fun e' hs K kk => Sa (gets_sub hs hx) hf fun v' L' h => Sx.nil (kk v' L' h)) k
abbrev Ea := @Ev.caH
theorem Ev.apH {T E sz by_ : Nat} {z : List Value} {x y : X} {ra ya : OA} {n cap m c : Nat} {xs ys : List Value} [t : Take L ra (Row E sz n cap xs) F] (hd : lastly i r = true) (hg : gon (e.only rs) g = true)
  (hx : x.get (e.only rs) = some (.slice ra n cap)) (hy : y.get (e.only rs) = some (.slice ya m c)) (hr : Rd L sz ya m ys) (h1 : ones ys = true) (hm : n + m ≤ maxLen) (hb : (n + m) * by_ ≤ 140737488355328)
  (hp : Pres ds (fun v L' => ∃ ra' cap', n + m ≤ cap' ∧ (n + m = 0 ∨ ∃ g, ra' = ad g) ∧ v = .slice ra' (n + m) cap' ∧ L' = pt ra' (Row E sz (n + m) cap' (xs ++ ys)) :: F) ms)
  (k : ∀ ra' cap', n + m ≤ cap' → (n + m = 0 ∨ ∃ g, ra' = ad g) → Ev P N Kf r ms (e.put d (.slice ra' (n + m) cap')) (pt ra' (Row E sz (n + m) cap' (xs ++ ys)) :: F)) : Ev P N Kf (⟨i, ds, rs, ⟨d, g, .ap T E sz by_ z x y⟩⟩ :: r) ms e L :=
 .genH hd hp hg (fun e' hs K kk => Sx.ap (t := t) (X.get_sub hx hs) (X.get_sub hy hs) hr h1 hm hb fun ra' cap' hc => Sx.rowkey (a := ra') fun _ _ _ hk => Sx.nil (kk _ _ ⟨ra', cap', hc, hk.imp (fun h => h.2.1) id, rfl, rfl⟩))
  (fun v L' ⟨ra', cap', hc, hk, e1, e2⟩ => by subst e1; subst e2; exact k ra' cap' hc hk)
theorem Ev.apnH {T E sz by_ : Nat} {z : List Value} {x y : X} {ya : OA} {m c : Nat} {ys : List Value} (hd : lastly i r = true) (hg : gon (e.only rs) g = true)
  (hx : x.get (e.only rs) = some (.slice none 0 0)) (hy : y.get (e.only rs) = some (.slice ya m c)) (hr : Rd L sz ya m ys) (h1 : ones ys = true) (hm : m ≤ maxLen) (hb : m * by_ ≤ 140737488355328)
  (hp : Pres ds (fun v L' => ∃ ra' cap', m ≤ cap' ∧ (m = 0 ∨ ∃ g, ra' = ad g) ∧ v = .slice ra' m cap' ∧ L' = pt ra' (Row E sz m cap' ys) :: L) ms)
  (k : ∀ ra' cap', m ≤ cap' → (m = 0 ∨ ∃ g, ra' = ad g) → Ev P N Kf r ms (e.put d (.slice ra' m cap')) (pt ra' (Row E sz m cap' ys) :: L)) : Ev P N Kf (⟨i, ds, rs, ⟨d, g, .ap T E sz by_ z x y⟩⟩ :: r) ms e L :=
 .genH hd hp hg (fun e' hs K kk => Sx.apn (X.get_sub hx hs) (X.get_sub hy hs) hr h1 hm hb fun ra' cap' hc => Sx.rowkey (a := ra') fun _ _ _ hk => Sx.nil (kk _ _ ⟨ra', cap', hc, hk.imp (fun h => h.2.1) id, rfl, rfl⟩))
  (fun v L' ⟨ra', cap', hc, hk, e1, e2⟩ => by subst e1; subst e2; exact k ra' cap' hc hk)
theorem fills_sub {T e' : En} (hs : sub T e') : ∀ {ps : List (Nat × Nat × X)} {z cs : List Value}, fills T z ps = some cs → fills e' z ps = some cs
 | [], _, _, h => h
 | (off, sz, x) :: l, z, cs, h => by
   unfold fills at h ⊢
   split at h
   ·rename_i v hv
    rw [X.get_sub hv hs]
    split at h
    ·rename_i vs hvs
     simp only [hvs]
     cases hb : (Nat.beq vs.length sz && Nat.ble (off + sz) z.length) with
     | true => rw [hb, cond_true] at h; rw [cond_true]; exact fills_sub hs h
     | false => rw [hb, cond_false] at h; cases h
    ·cases h
   ·cases h
theorem Ev.bsH {E len : Nat} {z : List Value} {ps : List (Nat × Nat × X)} {cs : List Value} (hd : lastly i r = true) (hg : gon (e.only rs) g = true) (hf : fills (e.only rs) z ps = some cs) (hl : z.length = len * sz)
  (hp : Pres ds (fun v L' => ∃ q, v = .slice (ad q) len len ∧ L' = pt (ad q) (Row E sz len len cs) :: L) ms)
  (k : ∀ q, Ev P N Kf r ms (e.put d (.slice (ad q) len len)) (pt (ad q) (Row E sz len len cs) :: L)) : Ev P N Kf (⟨i, ds, rs, ⟨d, g, .bs E len z ps⟩⟩ :: r) ms e L :=
 .genH hd hp hg (fun e' hs K kk => Sx.bs (sz := sz) (fills_sub hs hf) hl fun q => Sx.nil (kk _ _ ⟨q, rfl, rfl⟩))
  (fun v L' ⟨q, e1, e2⟩ => by subst e1; subst e2; exact k q)
theorem Ev.bxH {E : TypeId} {x : X} {u : Value} {vs : List Value} (hd : lastly i r = true) (hg : gon (e.only rs) g = true) (hx : x.get (e.only rs) = some u) (hu : cellsOf u = some vs)
  (hp : Pres ds (fun v L' => ∃ q, v = zp q ∧ L' = pt (ad q) (Blk E vs) :: L) ms)
  (k : ∀ q, Ev P N Kf r ms (e.put d (zp q)) (pt (ad q) (Blk E vs) :: L)) : Ev P N Kf (⟨i, ds, rs, ⟨d, g, .bx E x⟩⟩ :: r) ms e L :=
 .genH hd hp hg (fun e' hs K kk => Sx.bx (X.get_sub hx hs) hu fun q => Sx.nil (kk _ _ ⟨q, rfl, rfl⟩))
  (fun v L' ⟨q, e1, e2⟩ => by subst e1; subst e2; exact k q)
theorem Ev.stbH {x v : X} {b off : Nat} {T : TypeId} {cs ds' : List Value} {u : Value} [t : Take L (ad b) (Blk T cs) F] (hd : lastly i r = true) (hg : gon (e.only rs) g = true)
  (hx : x.get (e.only rs) = some (.pointer (some ⟨b, off, none⟩))) (hv : v.get (e.only rs) = some u) (hu : cellsOf u = some [u]) (h1 : u.oneCell' = true) (hl : Nat.blt off cs.length = true) (hds : cs.set off u = ds')
  (hp : Pres ds (fun v L' => v = undef ∧ L' = pt (ad b) (Blk T ds') :: F) ms)
  (k : Ev P N Kf r ms (e.put d undef) (pt (ad b) (Blk T ds') :: F)) : Ev P N Kf (⟨i, ds, rs, ⟨d, g, .st x v 1⟩⟩ :: r) ms e L :=
 .genH hd hp hg (fun e' hs K kk => Sx.stb (t := t) (X.get_sub hx hs) (X.get_sub hv hs) hu h1 hl hds (Sx.nil (kk _ _ ⟨rfl, rfl⟩)))
  (fun v L' ⟨e1, e2⟩ => by subst e1; subst e2; exact k)
abbrev Es := @Ev.stbH
end
end
abbrev Ze0 := @Ev.pass
abbrev Ze1 := @Ev.stpH
abbrev Ze2 := @Ev.done
abbrev Ze3 := @Ev.fin
abbrev Ze4 := @Ev.ldbH
abbrev Ze5 := @Ev.ldbsH
theorem ge {A B : Prop} (k : B) (h : Wrap B → A := by intro r; (repeat (first|refine Ze0 0 rfl kr_ ?_|refine Ze1 kr_ rfl rfl ?_|refine Ze2 ?_|refine Ze3 ?_|refine Ze4 kr_ rfl rfl (by rfl) ?_|refine Ze5 kr_ rfl rfl rfl ?_|refine Ev.pvH kr_ rfl rfl ⟨by omega, by omega⟩ ?_|refine Ev.pvH kr_ rfl rfl (by decide) ?_|fail)); exact r.out) : A := h ⟨k⟩
end
end Go.Proofs.YtflalhdofhobmaaGreat
