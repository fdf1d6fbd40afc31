/-
  Parts of the proof, merged: what the statement leans on.
-/
import Derived.Test.YtflalhdofhobmaaGreatProg
import Derived.KernelRfl
import Derived.Test.YtflalhdofhobmaaGreatZHgC
set_option linter.unusedVariables false
set_option linter.unusedSimpArgs false

namespace Go.Proofs.YtflalhdofhobmaaGreat
open Go
set_option maxRecDepth 100000
def c245 : Fu := ⟨33, [.t 4], (.sq (.rg [⟨some 4, none, .mv (.c (.pointer none))⟩]) (.sq (.rg [⟨some 8, none, .mv (.t 1)⟩, ⟨some 9, none, .bd [.nilFunc, .nilFunc, .nilFunc, .nilFunc, .int .i64 0, (.slice none 0 0)] [(5, 1, (.t 8))]⟩, ⟨some 10, none, .bx 248 (.t 9)⟩, ⟨some 5, none, .mv (.t 10)⟩]) (.sq (.sq (.rg [⟨some 12, none, .mv (.t 0)⟩, ⟨some 13, none, .nc (.t 12)⟩, ⟨some 14, none, .fa (.t 13) 7⟩, ⟨some 15, none, .ld (.t 14) 1 false⟩, ⟨some 16, none, .mv (.t 1)⟩, ⟨some 17, none, .ca 258 [.t 15, .t 16]⟩, ⟨some 11, none, .mv (.t 17)⟩, ⟨some 18, none, .ex (.t 11) 0⟩, ⟨some 19, none, .ex (.t 11) 1⟩, ⟨some 6, none, .mv (.t 18)⟩, ⟨some 7, none, .mv (.t 19)⟩]) (.sq (.rg [⟨some 20, none, .mv (.t 7)⟩, ⟨some 21, none, .ib .eql (.t 20) (.c (.int .i64 0))⟩]) (.cd (.t 21) (.rg [⟨some 22, none, .mv (.t 5)⟩, ⟨some 23, none, .nc (.t 22)⟩, ⟨some 24, none, .fa (.t 23) 0⟩, ⟨some 25, none, .mv (.t 6)⟩, ⟨some 26, none, .mf (.func 239) [.t 25] []⟩, ⟨some 27, none, .mv (.t 6)⟩, ⟨some 28, none, .mf (.func 240) [.t 27] []⟩, ⟨some 29, none, .mv (.t 5)⟩, ⟨some 30, none, .mf (.func 261) [.t 29] []⟩, ⟨some 31, none, .ca 119 [.t 24, .t 26, .t 28, .t 30]⟩]) .sk))) (.sq (.rg [⟨some 32, none, .mv (.t 5)⟩, ⟨some 4, none, .mv (.t 32)⟩]) .rt))))⟩
theorem k245 : cF Tryz.prog Tryz.f245 = some c245 := by kernel_rfl
def c246 : Fu := ⟨16, [.t 2], (.sq (.rg [⟨some 2, none, .mv (.c (.slice none 0 0))⟩]) (.sq (.rd [⟨0, 0, [0], ⟨some 3, none, .mv (.t 0)⟩⟩, ⟨1, 0, [0], ⟨some 4, none, .mv (.t 0)⟩⟩, ⟨2, 2, [4], ⟨some 5, none, .nc (.t 4)⟩⟩, ⟨3, 6, [5], ⟨some 6, none, .fa (.t 5) 1⟩⟩, ⟨4, 14, [6], ⟨some 7, none, .ld (.t 6) 1 false⟩⟩, ⟨5, 30, [7], ⟨some 8, none, .len (.t 7)⟩⟩, ⟨6, 0, [0], ⟨some 9, none, .mv (.t 0)⟩⟩, ⟨7, 64, [9], ⟨some 10, none, .nc (.t 9)⟩⟩, ⟨8, 192, [10], ⟨some 11, none, .fa (.t 10) 0⟩⟩, ⟨9, 448, [11], ⟨some 12, none, .ld (.t 11) 1 false⟩⟩, ⟨10, 1022, [8, 12], ⟨some 13, none, .ib .sub (.t 8) (.t 12)⟩⟩, ⟨11, 2046, [13], ⟨some 14, none, .mm true (.t 13) (.c (.int .i64 0))⟩⟩, ⟨12, 4095, [3, 14], ⟨some 15, none, .ca 262 [.t 3, .t 14]⟩⟩, ⟨13, 8191, [15], ⟨some 2, none, .mv (.t 15)⟩⟩]) .rt))⟩
theorem k246 : cF Tryz.prog Tryz.f246 = some c246 := by kernel_rfl
def c247 : Fu := ⟨16, [.t 4], (.sq (.rg [⟨some 4, none, .mv (.c (.int .i64 0))⟩]) (.sq (.bl 0 (.sq (.rg [⟨some 6, none, .mv (.t 0)⟩, ⟨some 7, none, .mv (.t 1)⟩, ⟨some 8, none, .ca 210 [.t 6, .t 7]⟩, ⟨some 9, none, .nt (.t 8)⟩, ⟨some 5, none, .mv (.t 9)⟩]) (.cd (.t 5) (.sq (.rg [⟨some 4, none, .mv (.c (.int .i64 0))⟩]) .rt) (.sq (.rg [⟨some 11, none, .mv (.t 0)⟩, ⟨some 12, none, .mv (.t 1)⟩, ⟨some 13, none, .ca 211 [.t 11, .t 12]⟩, ⟨some 10, none, .mv (.t 13)⟩]) (.cd (.t 10) (.sq (.rg [⟨some 14, none, .mv (.t 0)⟩, ⟨some 4, none, .mv (.t 14)⟩]) .rt) .sk))))) (.sq (.rg [⟨some 15, none, .mv (.t 1)⟩, ⟨some 4, none, .mv (.t 15)⟩]) .rt)))⟩
theorem k247 : cF Tryz.prog Tryz.f247 = some c247 := by kernel_rfl
def c248 : Fu := ⟨35, [.t 2, .t 3], (.sq (.rg [⟨some 2, none, .mv (.c (.int .i64 0))⟩, ⟨some 3, none, .mv (.c (.bool false))⟩]) (.sq (.sq (.rg [⟨some 6, none, .mv (.t 0)⟩, ⟨some 7, none, .nc (.t 6)⟩, ⟨some 8, none, .fa (.t 7) 1⟩, ⟨some 9, none, .ld (.t 8) 1 false⟩, ⟨some 10, none, .len (.t 9)⟩, ⟨some 11, none, .ib .eql (.t 10) (.c (.int .i64 0))⟩]) (.cd (.t 11) (.sq (.rg [⟨some 2, none, .mv (.c (.int .i64 0))⟩, ⟨some 3, none, .mv (.c (.bool false))⟩]) .rt) .sk)) (.sq (.rg [⟨some 12, none, .mv (.t 0)⟩, ⟨some 13, none, .nc (.t 12)⟩, ⟨some 14, none, .fa (.t 13) 1⟩, ⟨some 15, none, .ld (.t 14) 1 false⟩, ⟨some 16, none, .len (.t 15)⟩, ⟨some 17, none, .ib .sub (.t 16) (.c (.int .i64 1))⟩, ⟨some 4, none, .mv (.t 17)⟩]) (.sq (.rg [⟨some 18, none, .mv (.t 0)⟩, ⟨some 19, none, .nc (.t 18)⟩, ⟨some 20, none, .fa (.t 19) 1⟩, ⟨some 21, none, .ld (.t 20) 1 false⟩, ⟨some 22, none, .mv (.t 4)⟩, ⟨some 23, none, .ia (.t 21) (.t 22) 1⟩, ⟨some 24, none, .ld (.t 23) 1 false⟩, ⟨some 5, none, .mv (.t 24)⟩]) (.sq (.rg [⟨some 25, none, .mv (.t 0)⟩, ⟨some 26, none, .mv (.t 0)⟩, ⟨some 27, none, .nc (.t 26)⟩, ⟨some 28, none, .fa (.t 27) 1⟩, ⟨some 29, none, .ld (.t 28) 1 false⟩, ⟨some 30, none, .mv (.t 4)⟩, ⟨some 31, none, .sl 1 (.t 29) none (some (.t 30)) none⟩, ⟨some 32, none, .nc (.t 25)⟩, ⟨some 33, none, .fa (.t 32) 1⟩, ⟨none, none, .st (.t 33) (.t 31) 1⟩]) (.sq (.rg [⟨some 34, none, .mv (.t 5)⟩, ⟨some 2, none, .mv (.t 34)⟩, ⟨some 3, none, .mv (.c (.bool true))⟩]) .rt))))))⟩
theorem k248 : cF Tryz.prog Tryz.f248 = some c248 := by kernel_rfl
def c249 : Fu := ⟨27, [], (.sq (.rg [⟨some 3, none, .mv (.t 0)⟩, ⟨some 4, none, .nc (.t 3)⟩, ⟨some 5, none, .fa (.t 4) 6⟩, ⟨some 6, none, .ld (.t 5) 1 false⟩, ⟨some 7, none, .ca 223 [.t 6]⟩, ⟨some 2, none, .mv (.t 7)⟩]) (.sq (.rg [⟨some 8, none, .mv (.t 2)⟩, ⟨some 9, none, .len (.t 8)⟩, ⟨some 10, none, .ib .gtr (.t 9) (.c (.int .i64 0))⟩]) (.cd (.t 10) (.sq (.rg [⟨some 11, none, .mv (.t 0)⟩, ⟨some 12, none, .mv (.t 0)⟩, ⟨some 13, none, .mv (.t 2)⟩, ⟨some 14, none, .ia (.t 13) (.c (.int .i64 0)) 1⟩, ⟨some 15, none, .ld (.t 14) 1 false⟩, ⟨some 16, none, .nc (.t 11)⟩, ⟨some 17, none, .fa (.t 16) 7⟩, ⟨none, none, .st (.t 17) (.t 15) 1⟩, ⟨some 18, none, .nc (.t 12)⟩, ⟨some 19, none, .fa (.t 18) 9⟩, ⟨none, none, .st (.t 19) (.c (.bool true)) 1⟩]) (.rd [⟨0, 0, [0], ⟨some 20, none, .mv (.t 0)⟩⟩, ⟨1, 1, [20], ⟨some 21, none, .nc (.t 20)⟩⟩, ⟨2, 3, [21], ⟨some 22, none, .fa (.t 21) 5⟩⟩, ⟨3, 7, [22], ⟨some 23, none, .ld (.t 22) 1 false⟩⟩, ⟨4, 0, [2], ⟨some 24, none, .mv (.t 2)⟩⟩, ⟨5, 16, [24], ⟨some 25, none, .sl 1 (.t 24) (some (.c (.int .i64 1))) none none⟩⟩, ⟨6, 63, [23, 25], ⟨some 26, none, .ca 206 [.t 23, .t 25]⟩⟩])) .sk)))⟩
theorem k249 : cF Tryz.prog Tryz.f249 = some c249 := by kernel_rfl
def c250 : Fu := ⟨86, [], (.sq (.rd [⟨0, 0, [0], ⟨some 5, none, .mv (.t 0)⟩⟩, ⟨1, 1, [5], ⟨some 6, none, .nc (.t 5)⟩⟩, ⟨2, 3, [6], ⟨some 7, none, .fa (.t 6) 5⟩⟩, ⟨3, 7, [7], ⟨some 8, none, .ld (.t 7) 1 false⟩⟩, ⟨4, 15, [8], ⟨some 9, none, .nc (.t 8)⟩⟩, ⟨5, 31, [9], ⟨some 10, none, .fa (.t 9) 0⟩⟩, ⟨6, 63, [10], ⟨some 11, none, .ld (.t 10) 1 false⟩⟩, ⟨7, 0, [0], ⟨some 12, none, .mv (.t 0)⟩⟩, ⟨8, 128, [12], ⟨some 13, none, .nc (.t 12)⟩⟩, ⟨9, 384, [13], ⟨some 14, none, .fa (.t 13) 5⟩⟩, ⟨10, 896, [14], ⟨some 15, none, .ld (.t 14) 1 false⟩⟩, ⟨11, 1920, [15], ⟨some 16, none, .nc (.t 15)⟩⟩, ⟨12, 3968, [16], ⟨some 17, none, .fa (.t 16) 2⟩⟩, ⟨13, 8064, [17], ⟨some 18, none, .ld (.t 17) 1 false⟩⟩, ⟨14, 0, [0], ⟨some 19, none, .mv (.t 0)⟩⟩, ⟨15, 16384, [19], ⟨some 20, none, .nc (.t 19)⟩⟩, ⟨16, 49152, [20], ⟨some 21, none, .fa (.t 20) 9⟩⟩, ⟨17, 114688, [21], ⟨some 22, none, .ld (.t 21) 1 false⟩⟩, ⟨18, 0, [0], ⟨some 23, none, .mv (.t 0)⟩⟩, ⟨19, 262144, [23], ⟨some 24, none, .nc (.t 23)⟩⟩, ⟨20, 786432, [24], ⟨some 25, none, .fa (.t 24) 9⟩⟩, ⟨21, 1835008, [25], ⟨some 26, none, .ld (.t 25) 1 false⟩⟩, ⟨22, 3932160, [26], ⟨some 27, none, .len (.t 26)⟩⟩, ⟨23, 8126464, [27], ⟨some 28, none, .ib .sub (.t 27) (.c (.int .i64 1))⟩⟩, ⟨24, 16760832, [22, 28], ⟨some 29, none, .ia (.t 22) (.t 28) 1⟩⟩, ⟨25, 33538048, [29], ⟨some 30, none, .ld (.t 29) 1 false⟩⟩, ⟨26, 67108736, [18, 30], ⟨some 31, none, .ib .add (.t 18) (.t 30)⟩⟩, ⟨27, 134217727, [11, 31], ⟨some 32, none, .ca 151 [.t 11, .t 31]⟩⟩, ⟨28, 268435455, [32], ⟨some 4, none, .mv (.t 32)⟩⟩, ⟨29, 536870911, [4], ⟨some 33, none, .ex (.t 4) 0⟩⟩, ⟨30, 536870911, [4], ⟨some 34, none, .ex (.t 4) 1⟩⟩, ⟨31, 1073741823, [33], ⟨some 2, none, .mv (.t 33)⟩⟩, ⟨32, 4294967295, [34], ⟨some 3, none, .mv (.t 34)⟩⟩]) (.sq (.rg [⟨some 35, none, .mv (.t 0)⟩, ⟨some 36, none, .mv (.t 0)⟩, ⟨some 37, none, .nc (.t 36)⟩, ⟨some 38, none, .fa (.t 37) 5⟩, ⟨some 39, none, .ld (.t 38) 1 false⟩, ⟨some 40, none, .mv (.t 2)⟩, ⟨some 41, none, .ca 96 [.t 39, .t 40]⟩, ⟨some 42, none, .nc (.t 35)⟩,
  ⟨some 43, none, .fa (.t 42) 7⟩, ⟨none, none, .st (.t 43) (.t 41) 1⟩]) (.sq (.rd [⟨0, 0, [0], ⟨some 44, none, .mv (.t 0)⟩⟩, ⟨1, 1, [44], ⟨some 45, none, .nc (.t 44)⟩⟩, ⟨2, 3, [45], ⟨some 46, none, .fa (.t 45) 7⟩⟩, ⟨3, 7, [46], ⟨some 47, none, .ld (.t 46) 1 false⟩⟩, ⟨4, 15, [47], ⟨some 48, none, .ib .geq (.t 47) (.c (.int .i64 0))⟩⟩, ⟨5, 31, [48], ⟨some 49, none, .mv (.t 48)⟩⟩, ⟨6, 63, [0, 49], ⟨some 50, some (49, true), .mv (.t 0)⟩⟩, ⟨7, 127, [50, 49], ⟨some 51, some (49, true), .nc (.t 50)⟩⟩, ⟨8, 255, [51, 49], ⟨some 52, some (49, true), .fa (.t 51) 9⟩⟩, ⟨9, 511, [52, 49], ⟨some 53, some (49, true), .ld (.t 52) 1 false⟩⟩, ⟨10, 1023, [53, 49], ⟨some 54, some (49, true), .len (.t 53)⟩⟩, ⟨11, 63, [0, 49], ⟨some 55, some (49, true), .mv (.t 0)⟩⟩, ⟨12, 2111, [55, 49], ⟨some 56, some (49, true), .nc (.t 55)⟩⟩, ⟨13, 6207, [56, 49], ⟨some 57, some (49, true), .fa (.t 56) 6⟩⟩, ⟨14, 14399, [57, 49], ⟨some 58, some (49, true), .ld (.t 57) 1 false⟩⟩, ⟨15, 32767, [54, 58, 49], ⟨some 59, some (49, true), .ib .lss (.t 54) (.t 58)⟩⟩, ⟨16, 65535, [49, 59], ⟨some 60, none, .pk (.t 49) (.t 59) (.c (.bool false))⟩⟩]) (.cd (.t 60) (.sq (.rd [⟨0, 0, [0], ⟨some 61, none, .mv (.t 0)⟩⟩, ⟨1, 0, [0], ⟨some 62, none, .mv (.t 0)⟩⟩, ⟨2, 2, [62], ⟨some 63, none, .nc (.t 62)⟩⟩, ⟨3, 6, [63], ⟨some 64, none, .fa (.t 63) 9⟩⟩, ⟨4, 14, [64], ⟨some 65, none, .ld (.t 64) 1 false⟩⟩, ⟨5, 0, [0], ⟨some 66, none, .mv (.t 0)⟩⟩, ⟨6, 32, [66], ⟨some 67, none, .nc (.t 66)⟩⟩, ⟨7, 96, [67], ⟨some 68, none, .fa (.t 67) 7⟩⟩, ⟨8, 224, [68], ⟨some 69, none, .ld (.t 68) 1 false⟩⟩, ⟨9, 480, [69], ⟨some 70, none, .bs 3 1 [.int .i64 0] [(0, 1, (.t 69))]⟩⟩, ⟨10, 1022, [65, 70], ⟨some 71, none, .ap 53 3 1 8 [.int .i64 0] (.t 65) (.t 70)⟩⟩, ⟨11, 2047, [61], ⟨some 72, none, .nc (.t 61)⟩⟩, ⟨12, 4095, [72], ⟨some 73, none, .fa (.t 72) 9⟩⟩, ⟨13, 8191, [73, 71], ⟨none, none, .st (.t 73) (.t 71) 1⟩⟩]) (.rg [⟨some 74, none, .mv (.t 0)⟩, ⟨some 75, none, .nc (.t 74)⟩, ⟨some 76, none, .fa (.t 75) 0⟩, ⟨some 77, none, .mv (.t 0)⟩, ⟨some 78, none, .mf (.func 250) [.t 77] []⟩,
  ⟨some 79, none, .ca 79 [.t 76, .t 78]⟩])) (.rg [⟨some 80, none, .mv (.t 0)⟩, ⟨some 81, none, .nc (.t 80)⟩, ⟨some 82, none, .fa (.t 81) 0⟩, ⟨some 83, none, .mv (.t 0)⟩, ⟨some 84, none, .mf (.func 263) [.t 83] []⟩, ⟨some 85, none, .ca 79 [.t 82, .t 84]⟩])))))⟩
theorem k250 : cF Tryz.prog Tryz.f250 = some c250 := by kernel_rfl
def c251 : Fu := ⟨18, [.c 4 4 true], (.sq (.rg [⟨some 3, none, .bx 68 (.t 1)⟩, ⟨some 4, none, .al 68 [.int .i64 0, .int .i64 0, .int .i64 0, .int .i64 0]⟩]) (.sq (.rg [⟨some 5, none, .mv (.c (.int .i64 0))⟩]) (.sq (.sq (.rg [⟨some 6, none, .fa (.t 3) 0⟩, ⟨some 7, none, .ld (.t 6) 1 false⟩, ⟨some 8, none, .ib .lss (.t 7) (.c (.int .i64 4294967295))⟩]) (.cd (.t 8) (.rg [⟨some 9, none, .fa (.t 3) 0⟩, ⟨some 10, none, .ld (.t 9) 1 false⟩, ⟨some 11, none, .ib .add (.t 10) (.c (.int .i64 1))⟩, ⟨some 5, none, .mv (.t 11)⟩]) .sk)) (.sq (.rg [⟨some 12, none, .mv (.t 5)⟩, ⟨some 13, none, .mv (.t 0)⟩, ⟨some 14, none, .nc (.t 13)⟩, ⟨some 15, none, .fa (.t 14) 6⟩, ⟨some 16, none, .ld (.t 15) 1 false⟩, ⟨some 17, none, .bd [.int .i64 0, .int .i64 0, .int .i64 0, .int .i64 0] [(0, 1, (.t 12)), (1, 1, (.c (.int .i64 1))), (2, 1, (.t 16))]⟩, ⟨none, none, .st (.t 4) (.t 17) 4⟩]) .rt))))⟩
theorem k251 : cF Tryz.prog Tryz.f251 = some c251 := by kernel_rfl
def c252 : Fu := ⟨33, [], (.sq (.rg [⟨some 5, none, .mv (.t 0)⟩, ⟨some 6, none, .nc (.t 5)⟩, ⟨some 7, none, .fa (.t 6) 10⟩, ⟨some 8, none, .ld (.t 7) 4 true⟩, ⟨some 9, none, .ca 227 [.t 8]⟩, ⟨some 4, none, .mv (.t 9)⟩, ⟨some 10, none, .ex (.t 4) 0⟩, ⟨some 11, none, .ex (.t 4) 1⟩, ⟨some 2, none, .mv (.t 10)⟩, ⟨some 3, none, .mv (.t 11)⟩]) (.rd [⟨0, 0, [0], ⟨some 12, none, .mv (.t 0)⟩⟩, ⟨1, 1, [12], ⟨some 13, none, .nc (.t 12)⟩⟩, ⟨2, 3, [13], ⟨some 14, none, .fa (.t 13) 5⟩⟩, ⟨3, 7, [14], ⟨some 15, none, .ld (.t 14) 1 false⟩⟩, ⟨4, 15, [15], ⟨some 16, none, .nc (.t 15)⟩⟩, ⟨5, 31, [16], ⟨some 17, none, .fa (.t 16) 0⟩⟩, ⟨6, 63, [17], ⟨some 18, none, .ld (.t 17) 1 false⟩⟩, ⟨7, 0, [0], ⟨some 19, none, .mv (.t 0)⟩⟩, ⟨8, 128, [19], ⟨some 20, none, .nc (.t 19)⟩⟩, ⟨9, 384, [20], ⟨some 21, none, .fa (.t 20) 5⟩⟩, ⟨10, 896, [21], ⟨some 22, none, .ld (.t 21) 1 false⟩⟩, ⟨11, 1920, [22], ⟨some 23, none, .nc (.t 22)⟩⟩, ⟨12, 3968, [23], ⟨some 24, none, .fa (.t 23) 1⟩⟩, ⟨13, 8064, [24], ⟨some 25, none, .ld (.t 24) 6 true⟩⟩, ⟨14, 0, [0], ⟨some 26, none, .mv (.t 0)⟩⟩, ⟨15, 16384, [26], ⟨some 27, none, .nc (.t 26)⟩⟩, ⟨16, 49152, [27], ⟨some 28, none, .fa (.t 27) 8⟩⟩, ⟨17, 114688, [28], ⟨some 29, none, .ld (.t 28) 1 false⟩⟩, ⟨18, 262016, [25, 29], ⟨some 30, none, .ca 94 [.t 25, .t 29]⟩⟩, ⟨19, 0, [2], ⟨some 31, none, .mv (.t 2)⟩⟩, ⟨20, 1048575, [18, 30, 31], ⟨some 32, none, .ca 214 [.t 18, .t 30, .t 31]⟩⟩]))⟩
theorem k252 : cF Tryz.prog Tryz.f252 = some c252 := by kernel_rfl
def c253 : Fu := ⟨13, [.t 4], (.sq (.rg [⟨some 4, none, .mv (.c (.bool false))⟩]) (.sq (.rg [⟨some 5, none, .mv (.t 1)⟩, ⟨some 6, none, .ib .geq (.t 5) (.c (.int .i64 2))⟩, ⟨some 7, none, .mv (.t 6)⟩, ⟨some 8, some (7, true), .mv (.t 0)⟩, ⟨some 9, some (7, true), .mv (.t 1)⟩, ⟨some 10, some (7, true), .ca 254 [.t 8, .t 9]⟩, ⟨some 11, some (7, true), .ib .geq (.t 10) (.c (.int .i64 0))⟩, ⟨some 12, none, .pk (.t 7) (.t 11) (.c (.bool false))⟩, ⟨some 4, none, .mv (.t 12)⟩]) .rt))⟩
theorem k253 : cF Tryz.prog Tryz.f253 = some c253 := by kernel_rfl
def c254 : Fu := ⟨51, [.t 4], (.sq (.rg [⟨some 4, none, .mv (.c (.int .i64 0))⟩]) (.sq (.rg [⟨some 5, none, .mv (.c (.int .i64 (-1)))⟩]) (.sq (.sq (.rg [⟨some 6, none, .mv (.c (.int .i64 0))⟩]) (.bl 0 (.lp (.sq (.sq (.rg [⟨some 7, none, .mv (.t 6)⟩, ⟨some 8, none, .ib .lss (.t 7) (.c (.int .i64 3))⟩]) (.cd (.t 8) .sk (.ex 0))) (.sq (.bl 1 (.sq (.rd [⟨0, 0, [0], ⟨some 11, none, .mv (.t 0)⟩⟩, ⟨1, 0, [6], ⟨some 12, none, .mv (.t 6)⟩⟩, ⟨2, 1, [11], ⟨some 13, none, .nc (.t 11)⟩⟩, ⟨3, 5, [13], ⟨some 14, none, .fa (.t 13) 3⟩⟩, ⟨4, 15, [14, 12], ⟨some 15, none, .iaa (.t 14) (.t 12) 3 1⟩⟩, ⟨5, 31, [15], ⟨some 16, none, .ld (.t 15) 1 false⟩⟩, ⟨6, 63, [16], ⟨some 17, none, .len (.t 16)⟩⟩, ⟨7, 127, [17], ⟨some 18, none, .ib .gtr (.t 17) (.c (.int .i64 0))⟩⟩, ⟨8, 255, [18], ⟨some 19, none, .mv (.t 18)⟩⟩, ⟨9, 511, [0, 19], ⟨some 20, some (19, true), .mv (.t 0)⟩⟩, ⟨10, 511, [6, 19], ⟨some 21, some (19, true), .mv (.t 6)⟩⟩, ⟨11, 1023, [20, 19], ⟨some 22, some (19, true), .nc (.t 20)⟩⟩, ⟨12, 3071, [22, 19], ⟨some 23, some (19, true), .fa (.t 22) 0⟩⟩, ⟨13, 8191, [23, 21, 19], ⟨some 24, some (19, true), .iaa (.t 23) (.t 21) 3 1⟩⟩, ⟨14, 16383, [24, 19], ⟨some 25, some (19, true), .ld (.t 24) 1 false⟩⟩, ⟨15, 511, [1, 19], ⟨some 26, some (19, true), .mv (.t 1)⟩⟩, ⟨16, 33279, [26, 19], ⟨some 27, some (19, true), .ib .sub (.t 26) (.c (.int .i64 2))⟩⟩, ⟨17, 131071, [25, 27, 19], ⟨some 28, some (19, true), .ib .leq (.t 25) (.t 27)⟩⟩, ⟨18, 262143, [19, 28], ⟨some 29, none, .pk (.t 19) (.t 28) (.c (.bool false))⟩⟩, ⟨19, 524287, [29], ⟨some 30, none, .mv (.t 29)⟩⟩, ⟨20, 1048575, [5, 30], ⟨some 31, some (30, true), .mv (.t 5)⟩⟩, ⟨21, 2097151, [31, 30], ⟨some 32, some (30, true), .ib .lss (.t 31) (.c (.int .i64 0))⟩⟩, ⟨22, 4194303, [32, 30], ⟨some 33, some (30, true), .mv (.t 32)⟩⟩, ⟨23, 8388607, [0, 33], ⟨some 34, some (33, false), .mv (.t 0)⟩⟩, ⟨24, 8388607, [6, 33], ⟨some 35, some (33, false), .mv (.t 6)⟩⟩, ⟨25, 16777215, [34, 33], ⟨some 36, some (33, false), .nc (.t 34)⟩⟩, ⟨26, 50331647, [36, 33], ⟨some 37, some (33, false), .fa (.t 36) 0⟩⟩,
  ⟨27, 134217727, [37, 35, 33], ⟨some 38, some (33, false), .iaa (.t 37) (.t 35) 3 1⟩⟩, ⟨28, 268435455, [38, 33], ⟨some 39, some (33, false), .ld (.t 38) 1 false⟩⟩, ⟨29, 8388607, [0, 33], ⟨some 40, some (33, false), .mv (.t 0)⟩⟩, ⟨30, 8388607, [5, 33], ⟨some 41, some (33, false), .mv (.t 5)⟩⟩, ⟨31, 545259519, [40, 33], ⟨some 42, some (33, false), .nc (.t 40)⟩⟩, ⟨32, 2692743167, [42, 33], ⟨some 43, some (33, false), .fa (.t 42) 0⟩⟩, ⟨33, 8061452287, [43, 41, 33], ⟨some 44, some (33, false), .iaa (.t 43) (.t 41) 3 1⟩⟩, ⟨34, 16651386879, [44, 33], ⟨some 45, some (33, false), .ld (.t 44) 1 false⟩⟩, ⟨35, 34359738367, [39, 45, 33], ⟨some 46, some (33, false), .ib .lss (.t 39) (.t 45)⟩⟩, ⟨36, 68719476735, [33, 46, 30], ⟨some 47, some (30, true), .pk (.t 33) (.c (.bool true)) (.t 46)⟩⟩, ⟨37, 137438953471, [30, 47], ⟨some 48, none, .pk (.t 30) (.t 47) (.c (.bool false))⟩⟩]) (.cd (.t 48) (.rg [⟨some 49, none, .mv (.t 6)⟩, ⟨some 5, none, .mv (.t 49)⟩]) .sk))) (.rg [⟨some 9, none, .mv (.t 6)⟩, ⟨some 10, none, .ib .add (.t 9) (.c (.int .i64 1))⟩, ⟨some 6, none, .mv (.t 10)⟩])))))) (.sq (.rg [⟨some 50, none, .mv (.t 5)⟩, ⟨some 4, none, .mv (.t 50)⟩]) .rt))))⟩
theorem k254 : cF Tryz.prog Tryz.f254 = some c254 := by kernel_rfl
def c258 : Fu := ⟨58, [.t 4, .t 5], (.sq (.rg [⟨some 4, none, .mv (.c (.pointer none))⟩, ⟨some 5, none, .mv (.c (.int .i64 0))⟩]) (.sq (.sq (.rg [⟨some 9, none, .mv (.t 1)⟩, ⟨some 10, none, .len (.t 9)⟩, ⟨some 11, none, .mv (.c (.int .i64 0))⟩]) (.bl 0 (.lp (.sq (.rg [⟨some 12, none, .ib .lss (.t 11) (.t 10)⟩]) (.sq (.cd (.t 12) .sk (.ex 0)) (.sq (.bl 1 (.sq (.rg [⟨some 13, none, .mv (.t 11)⟩, ⟨some 14, none, .ia (.t 9) (.t 11) 1⟩, ⟨some 15, none, .ld (.t 14) 1 false⟩, ⟨some 6, none, .mv (.t 13)⟩, ⟨some 7, none, .mv (.t 15)⟩]) (.sq (.rg [⟨some 16, none, .mv (.t 7)⟩, ⟨some 17, none, .ib .lss (.t 16) (.c (.int .i64 0))⟩, ⟨some 18, none, .mv (.t 17)⟩, ⟨some 19, some (18, false), .mv (.t 7)⟩, ⟨some 20, some (18, false), .mv (.t 0)⟩, ⟨some 21, some (18, false), .nc (.t 20)⟩, ⟨some 22, some (18, false), .fa (.t 21) 3⟩, ⟨some 23, some (18, false), .ld (.t 22) 1 false⟩, ⟨some 24, some (18, false), .ib .geq (.t 19) (.t 23)⟩, ⟨some 25, none, .pk (.t 18) (.c (.bool true)) (.t 24)⟩, ⟨some 26, none, .mv (.t 25)⟩, ⟨some 27, some (26, false), .mv (.t 1)⟩, ⟨some 28, some (26, false), .mv (.t 6)⟩, ⟨some 29, some (26, false), .sl 1 (.t 27) none (some (.t 28)) none⟩, ⟨some 30, some (26, false), .mv (.t 7)⟩, ⟨some 31, some (26, false), .ca 265 [.t 29, .t 30]⟩, ⟨some 32, none, .pk (.t 26) (.c (.bool true)) (.t 31)⟩]) (.cd (.t 32) (.sq (.rg [⟨some 4, none, .mv (.c (.pointer none))⟩, ⟨some 5, none, .mv (.c (.int .i64 1))⟩]) .rt) .sk)))) (.rg [⟨some 33, none, .ib .add (.t 11) (.c (.int .i64 1))⟩, ⟨some 11, none, .mv (.t 33)⟩]))))))) (.sq (.rg [⟨some 34, none, .mv (.t 0)⟩, ⟨some 35, none, .mv (.t 1)⟩, ⟨some 36, none, .ca 189 [.t 35]⟩, ⟨some 37, none, .bd [.nilFunc, .nilFunc, .nilFunc, .nilFunc, .int .i64 0, (.pointer none), (.slice none 0 0), .int .i64 0, (.int .u64 0)] [(5, 1, (.t 34)), (6, 1, (.t 36))]⟩, ⟨some 38, none, .bx 296 (.t 37)⟩, ⟨some 8, none, .mv (.t 38)⟩]) (.sq (.sq (.rg [⟨some 39, none, .mv (.t 1)⟩, ⟨some 40, none, .len (.t 39)⟩]) (.bl 2 (.sq (.rg [⟨some 48, none, .ib .eql (.t 40) (.c (.int .i64 0))⟩,
  ⟨some 47, none, .mv (.t 48)⟩]) (.cd (.t 47) .sk (.sq (.rg [⟨some 50, none, .ib .eql (.t 40) (.c (.int .i64 1))⟩, ⟨some 49, none, .mv (.t 50)⟩]) (.cd (.t 49) (.rg [⟨some 51, none, .mv (.t 8)⟩, ⟨some 52, none, .nc (.t 51)⟩, ⟨some 53, none, .fa (.t 52) 0⟩, ⟨some 54, none, .mv (.t 8)⟩, ⟨some 55, none, .mf (.func 266) [.t 54] []⟩, ⟨some 56, none, .ca 79 [.t 53, .t 55]⟩]) (.rg [⟨some 41, none, .mv (.t 8)⟩, ⟨some 42, none, .nc (.t 41)⟩, ⟨some 43, none, .fa (.t 42) 0⟩, ⟨some 44, none, .mv (.t 8)⟩, ⟨some 45, none, .mf (.func 267) [.t 44] []⟩, ⟨some 46, none, .ca 79 [.t 43, .t 45]⟩]))))))) (.sq (.rg [⟨some 57, none, .mv (.t 8)⟩, ⟨some 4, none, .mv (.t 57)⟩, ⟨some 5, none, .mv (.c (.int .i64 0))⟩]) .rt)))))⟩
theorem k258 : cF Tryz.prog Tryz.f258 = some c258 := by kernel_rfl
def c260 : Fu := ⟨10, [.t 4], (.sq (.rg [⟨some 4, none, .mv (.c (.bool false))⟩]) (.sq (.rg [⟨some 5, none, .mv (.t 0)⟩, ⟨some 6, none, .mv (.t 1)⟩, ⟨some 7, none, .ca 226 [.t 6]⟩, ⟨some 8, none, .ib .andNot (.t 5) (.t 7)⟩, ⟨some 9, none, .ib .eql (.t 8) (.c (.int .u64 0))⟩, ⟨some 4, none, .mv (.t 9)⟩]) .rt))⟩
theorem k260 : cF Tryz.prog Tryz.f260 = some c260 := by kernel_rfl
def c261 : Fu := ⟨2, [], .sk⟩
theorem k261 : cF Tryz.prog Tryz.f261 = some c261 := by kernel_rfl
def c262 : Fu := ⟨24, [.t 4], (.sq (.rg [⟨some 4, none, .mv (.c (.slice none 0 0))⟩]) (.sq (.rg [⟨some 6, none, .mv (.t 0)⟩, ⟨some 7, none, .nc (.t 6)⟩, ⟨some 8, none, .fa (.t 7) 1⟩, ⟨some 9, none, .ld (.t 8) 1 false⟩, ⟨some 10, none, .mv (.t 1)⟩, ⟨some 11, none, .sl 1 (.t 9) none (some (.t 10)) none⟩, ⟨some 12, none, .ca 189 [.t 11]⟩, ⟨some 5, none, .mv (.t 12)⟩]) (.sq (.rg [⟨some 13, none, .mv (.t 0)⟩, ⟨some 14, none, .mv (.t 0)⟩, ⟨some 15, none, .nc (.t 14)⟩, ⟨some 16, none, .fa (.t 15) 1⟩, ⟨some 17, none, .ld (.t 16) 1 false⟩, ⟨some 18, none, .mv (.t 1)⟩, ⟨some 19, none, .sl 1 (.t 17) (some (.t 18)) none none⟩, ⟨some 20, none, .ca 189 [.t 19]⟩, ⟨some 21, none, .nc (.t 13)⟩, ⟨some 22, none, .fa (.t 21) 1⟩, ⟨none, none, .st (.t 22) (.t 20) 1⟩]) (.sq (.rg [⟨some 23, none, .mv (.t 5)⟩, ⟨some 4, none, .mv (.t 23)⟩]) .rt))))⟩
theorem k262 : cF Tryz.prog Tryz.f262 = some c262 := by kernel_rfl
def c263 : Fu := ⟨22, [], (.sq (.rd [⟨0, 0, [0], ⟨some 2, none, .mv (.t 0)⟩⟩, ⟨1, 1, [2], ⟨some 3, none, .nc (.t 2)⟩⟩, ⟨2, 3, [3], ⟨some 4, none, .fa (.t 3) 5⟩⟩, ⟨3, 7, [4], ⟨some 5, none, .ld (.t 4) 1 false⟩⟩, ⟨4, 0, [0], ⟨some 6, none, .mv (.t 0)⟩⟩, ⟨5, 16, [6], ⟨some 7, none, .nc (.t 6)⟩⟩, ⟨6, 48, [7], ⟨some 8, none, .fa (.t 7) 8⟩⟩, ⟨7, 112, [8], ⟨some 9, none, .ld (.t 8) 1 false⟩⟩, ⟨8, 0, [0], ⟨some 10, none, .mv (.t 0)⟩⟩, ⟨9, 256, [10], ⟨some 11, none, .nc (.t 10)⟩⟩, ⟨10, 768, [11], ⟨some 12, none, .fa (.t 11) 7⟩⟩, ⟨11, 1792, [12], ⟨some 13, none, .ld (.t 12) 1 false⟩⟩, ⟨12, 4095, [5, 9, 13], ⟨some 14, none, .ca 268 [.t 5, .t 9, .t 13]⟩⟩, ⟨13, 8191, [14], ⟨some 15, none, .nt (.t 14)⟩⟩]) (.cd (.t 15) (.rg [⟨some 16, none, .mv (.t 0)⟩, ⟨some 17, none, .nc (.t 16)⟩, ⟨some 18, none, .fa (.t 17) 0⟩, ⟨some 19, none, .mv (.t 0)⟩, ⟨some 20, none, .mf (.func 222) [.t 19] []⟩, ⟨some 21, none, .ca 79 [.t 18, .t 20]⟩]) .sk))⟩
theorem k263 : cF Tryz.prog Tryz.f263 = some c263 := by kernel_rfl
def c265 : Fu := ⟨9, [.t 4], (.sq (.rg [⟨some 4, none, .mv (.c (.bool false))⟩]) (.sq (.rg [⟨some 5, none, .mv (.t 0)⟩, ⟨some 6, none, .mv (.t 1)⟩, ⟨some 7, none, .ca 269 [.t 5, .t 6]⟩, ⟨some 8, none, .ib .geq (.t 7) (.c (.int .i64 0))⟩, ⟨some 4, none, .mv (.t 8)⟩]) .rt))⟩
theorem k265 : cF Tryz.prog Tryz.f265 = some c265 := by kernel_rfl
def c266 : Fu := ⟨29, [], (.sq (.rd [⟨0, 0, [0], ⟨some 3, none, .mv (.t 0)⟩⟩, ⟨1, 0, [0], ⟨some 4, none, .mv (.t 0)⟩⟩, ⟨2, 2, [4], ⟨some 5, none, .nc (.t 4)⟩⟩, ⟨3, 6, [5], ⟨some 6, none, .fa (.t 5) 5⟩⟩, ⟨4, 14, [6], ⟨some 7, none, .ld (.t 6) 1 false⟩⟩, ⟨5, 30, [7], ⟨some 8, none, .nc (.t 7)⟩⟩, ⟨6, 62, [8], ⟨some 9, none, .fa (.t 8) 0⟩⟩, ⟨7, 126, [9], ⟨some 10, none, .ld (.t 9) 1 false⟩⟩, ⟨8, 0, [0], ⟨some 11, none, .mv (.t 0)⟩⟩, ⟨9, 256, [11], ⟨some 12, none, .nc (.t 11)⟩⟩, ⟨10, 768, [12], ⟨some 13, none, .fa (.t 12) 5⟩⟩, ⟨11, 1792, [13], ⟨some 14, none, .ld (.t 13) 1 false⟩⟩, ⟨12, 3840, [14], ⟨some 15, none, .nc (.t 14)⟩⟩, ⟨13, 7936, [15], ⟨some 16, none, .fa (.t 15) 1⟩⟩, ⟨14, 16128, [16], ⟨some 17, none, .ld (.t 16) 1 false⟩⟩, ⟨15, 32766, [10, 17], ⟨some 18, none, .ca 151 [.t 10, .t 17]⟩⟩, ⟨16, 65534, [18], ⟨some 2, none, .mv (.t 18)⟩⟩, ⟨17, 131070, [2], ⟨some 19, none, .ex (.t 2) 0⟩⟩, ⟨18, 131070, [2], ⟨some 20, none, .ex (.t 2) 1⟩⟩, ⟨19, 262143, [3], ⟨some 21, none, .nc (.t 3)⟩⟩, ⟨20, 786431, [21], ⟨some 22, none, .fa (.t 21) 8⟩⟩, ⟨21, 1835007, [22, 19], ⟨none, none, .st (.t 22) (.t 19) 1⟩⟩]) (.rg [⟨some 23, none, .mv (.t 0)⟩, ⟨some 24, none, .nc (.t 23)⟩, ⟨some 25, none, .fa (.t 24) 0⟩, ⟨some 26, none, .mv (.t 0)⟩, ⟨some 27, none, .mf (.func 270) [.t 26] []⟩, ⟨some 28, none, .ca 79 [.t 25, .t 27]⟩]))⟩
theorem k266 : cF Tryz.prog Tryz.f266 = some c266 := by kernel_rfl
def c267 : Fu := ⟨71, [], (.sq (.rd [⟨0, 0, [0], ⟨some 2, none, .mv (.t 0)⟩⟩, ⟨1, 1, [2], ⟨some 3, none, .nc (.t 2)⟩⟩, ⟨2, 3, [3], ⟨some 4, none, .fa (.t 3) 5⟩⟩, ⟨3, 7, [4], ⟨some 5, none, .ld (.t 4) 1 false⟩⟩, ⟨4, 15, [5], ⟨some 6, none, .nc (.t 5)⟩⟩, ⟨5, 31, [6], ⟨some 7, none, .fa (.t 6) 0⟩⟩, ⟨6, 63, [7], ⟨some 8, none, .ld (.t 7) 1 false⟩⟩, ⟨7, 0, [0], ⟨some 9, none, .mv (.t 0)⟩⟩, ⟨8, 128, [9], ⟨some 10, none, .nc (.t 9)⟩⟩, ⟨9, 384, [10], ⟨some 11, none, .fa (.t 10) 5⟩⟩, ⟨10, 896, [11], ⟨some 12, none, .ld (.t 11) 1 false⟩⟩, ⟨11, 1920, [12], ⟨some 13, none, .nc (.t 12)⟩⟩, ⟨12, 3968, [13], ⟨some 14, none, .fa (.t 13) 2⟩⟩, ⟨13, 8064, [14], ⟨some 15, none, .ld (.t 14) 1 false⟩⟩, ⟨14, 0, [0], ⟨some 16, none, .mv (.t 0)⟩⟩, ⟨15, 16384, [16], ⟨some 17, none, .nc (.t 16)⟩⟩, ⟨16, 49152, [17], ⟨some 18, none, .fa (.t 17) 6⟩⟩, ⟨17, 114688, [18], ⟨some 19, none, .ld (.t 18) 1 false⟩⟩, ⟨18, 0, [0], ⟨some 20, none, .mv (.t 0)⟩⟩, ⟨19, 262144, [20], ⟨some 21, none, .nc (.t 20)⟩⟩, ⟨20, 786432, [21], ⟨some 22, none, .fa (.t 21) 7⟩⟩, ⟨21, 1835008, [22], ⟨some 23, none, .ld (.t 22) 1 false⟩⟩, ⟨22, 4177920, [19, 23], ⟨some 24, none, .ia (.t 19) (.t 23) 1⟩⟩, ⟨23, 8372224, [24], ⟨some 25, none, .ld (.t 24) 1 false⟩⟩, ⟨24, 16777088, [15, 25], ⟨some 26, none, .ib .add (.t 15) (.t 25)⟩⟩, ⟨25, 0, [0], ⟨some 27, none, .mv (.t 0)⟩⟩, ⟨26, 33554432, [27], ⟨some 28, none, .nc (.t 27)⟩⟩, ⟨27, 100663296, [28], ⟨some 29, none, .fa (.t 28) 6⟩⟩, ⟨28, 234881024, [29], ⟨some 30, none, .ld (.t 29) 1 false⟩⟩, ⟨29, 0, [0], ⟨some 31, none, .mv (.t 0)⟩⟩, ⟨30, 536870912, [31], ⟨some 32, none, .nc (.t 31)⟩⟩, ⟨31, 1610612736, [32], ⟨some 33, none, .fa (.t 32) 7⟩⟩, ⟨32, 3758096384, [33], ⟨some 34, none, .ld (.t 33) 1 false⟩⟩, ⟨33, 8053063680, [34], ⟨some 35, none, .ib .add (.t 34) (.c (.int .i64 1))⟩⟩, ⟨34, 17146314752, [30, 35], ⟨some 36, none, .ia (.t 30) (.t 35) 1⟩⟩, ⟨35, 34326183936, [36], ⟨some 37, none, .ld (.t 36) 1 false⟩⟩, ⟨36, 68685922304, [37], ⟨some 38, none, .ib .add (.t 37) (.c (.int .i64 1))⟩⟩,
  ⟨37, 137405399040, [38], ⟨some 39, none, .cv .u64 (.t 38)⟩⟩, ⟨38, 274877906943, [8, 26, 39], ⟨some 40, none, .ca 214 [.t 8, .t 26, .t 39]⟩⟩]) (.sq (.rg [⟨some 41, none, .mv (.t 0)⟩, ⟨some 42, none, .nc (.t 41)⟩, ⟨some 43, none, .fa (.t 42) 7⟩, ⟨some 44, none, .ld (.t 43) 1 false⟩, ⟨some 45, none, .ib .add (.t 44) (.c (.int .i64 1))⟩, ⟨some 46, none, .nc (.t 41)⟩, ⟨some 47, none, .fa (.t 46) 7⟩, ⟨none, none, .st (.t 47) (.t 45) 1⟩]) (.sq (.rd [⟨0, 0, [0], ⟨some 48, none, .mv (.t 0)⟩⟩, ⟨1, 1, [48], ⟨some 49, none, .nc (.t 48)⟩⟩, ⟨2, 3, [49], ⟨some 50, none, .fa (.t 49) 7⟩⟩, ⟨3, 7, [50], ⟨some 51, none, .ld (.t 50) 1 false⟩⟩, ⟨4, 0, [0], ⟨some 52, none, .mv (.t 0)⟩⟩, ⟨5, 16, [52], ⟨some 53, none, .nc (.t 52)⟩⟩, ⟨6, 48, [53], ⟨some 54, none, .fa (.t 53) 6⟩⟩, ⟨7, 112, [54], ⟨some 55, none, .ld (.t 54) 1 false⟩⟩, ⟨8, 240, [55], ⟨some 56, none, .len (.t 55)⟩⟩, ⟨9, 496, [56], ⟨some 57, none, .ib .sub (.t 56) (.c (.int .i64 1))⟩⟩, ⟨10, 1023, [51, 57], ⟨some 58, none, .ib .lss (.t 51) (.t 57)⟩⟩]) (.cd (.t 58) (.rg [⟨some 59, none, .mv (.t 0)⟩, ⟨some 60, none, .nc (.t 59)⟩, ⟨some 61, none, .fa (.t 60) 0⟩, ⟨some 62, none, .mv (.t 0)⟩, ⟨some 63, none, .mf (.func 267) [.t 62] []⟩, ⟨some 64, none, .ca 79 [.t 61, .t 63]⟩]) (.rg [⟨some 65, none, .mv (.t 0)⟩, ⟨some 66, none, .nc (.t 65)⟩, ⟨some 67, none, .fa (.t 66) 0⟩, ⟨some 68, none, .mv (.t 0)⟩, ⟨some 69, none, .mf (.func 266) [.t 68] []⟩, ⟨some 70, none, .ca 79 [.t 67, .t 69]⟩])))))⟩
theorem k267 : cF Tryz.prog Tryz.f267 = some c267 := by kernel_rfl
def c268 : Fu := ⟨34, [.t 6], (.sq (.rg [⟨some 6, none, .mv (.c (.bool false))⟩]) (.sq (.rg [⟨some 12, none, .mv (.t 1)⟩, ⟨some 13, none, .ca 171 [.t 12]⟩, ⟨some 14, none, .mv (.t 2)⟩, ⟨some 15, none, .ca 271 [.t 13, .t 14]⟩, ⟨some 16, none, .ca 203 [.t 15]⟩, ⟨some 11, none, .mv (.t 16)⟩, ⟨some 17, none, .ex (.t 11) 0⟩, ⟨some 18, none, .ex (.t 11) 1⟩, ⟨some 7, none, .mv (.t 17)⟩, ⟨some 8, none, .mv (.t 18)⟩]) (.sq (.rd [⟨0, 0, [0], ⟨some 20, none, .mv (.t 0)⟩⟩, ⟨1, 1, [20], ⟨some 21, none, .nc (.t 20)⟩⟩, ⟨2, 3, [21], ⟨some 22, none, .fa (.t 21) 0⟩⟩, ⟨3, 7, [22], ⟨some 23, none, .ld (.t 22) 1 false⟩⟩, ⟨4, 0, [0], ⟨some 24, none, .mv (.t 0)⟩⟩, ⟨5, 16, [24], ⟨some 25, none, .nc (.t 24)⟩⟩, ⟨6, 48, [25], ⟨some 26, none, .fa (.t 25) 1⟩⟩, ⟨7, 112, [26], ⟨some 27, none, .ld (.t 26) 1 false⟩⟩, ⟨8, 0, [1], ⟨some 28, none, .mv (.t 1)⟩⟩, ⟨9, 0, [7], ⟨some 29, none, .mv (.t 7)⟩⟩, ⟨10, 1023, [23, 27, 28, 29], ⟨some 30, none, .ca 228 [.t 23, .t 27, .t 28, .t 29]⟩⟩, ⟨11, 2047, [30], ⟨some 19, none, .mv (.t 30)⟩⟩, ⟨12, 4095, [19], ⟨some 31, none, .ex (.t 19) 0⟩⟩, ⟨13, 4095, [19], ⟨some 32, none, .ex (.t 19) 1⟩⟩, ⟨14, 8191, [31], ⟨some 9, none, .mv (.t 31)⟩⟩, ⟨15, 32767, [32], ⟨some 10, none, .mv (.t 32)⟩⟩]) (.sq (.rg [⟨some 33, none, .mv (.t 9)⟩, ⟨some 6, none, .mv (.t 33)⟩]) .rt))))⟩
theorem k268 : cF Tryz.prog Tryz.f268 = some c268 := by kernel_rfl
def c269 : Fu := ⟨19, [.t 4], (.sq (.rg [⟨some 4, none, .mv (.c (.int .i64 0))⟩]) (.sq (.sq (.rg [⟨some 6, none, .mv (.t 0)⟩, ⟨some 7, none, .len (.t 6)⟩, ⟨some 8, none, .mv (.c (.int .i64 0))⟩]) (.bl 0 (.lp (.sq (.rg [⟨some 9, none, .ib .lss (.t 8) (.t 7)⟩]) (.sq (.cd (.t 9) .sk (.ex 0)) (.sq (.bl 1 (.sq (.rg [⟨some 10, none, .mv (.t 8)⟩, ⟨some 5, none, .mv (.t 10)⟩]) (.sq (.rg [⟨some 11, none, .mv (.t 1)⟩, ⟨some 12, none, .mv (.t 0)⟩, ⟨some 13, none, .mv (.t 5)⟩, ⟨some 14, none, .ia (.t 12) (.t 13) 1⟩, ⟨some 15, none, .ld (.t 14) 1 false⟩, ⟨some 16, none, .ib .eql (.t 11) (.t 15)⟩]) (.cd (.t 16) (.sq (.rg [⟨some 17, none, .mv (.t 5)⟩, ⟨some 4, none, .mv (.t 17)⟩]) .rt) .sk)))) (.rg [⟨some 18, none, .ib .add (.t 8) (.c (.int .i64 1))⟩, ⟨some 8, none, .mv (.t 18)⟩]))))))) (.sq (.rg [⟨some 4, none, .mv (.c (.int .i64 (-1)))⟩]) .rt)))⟩
theorem k269 : cF Tryz.prog Tryz.f269 = some c269 := by kernel_rfl
def c270 : Fu := ⟨47, [], (.sq (.rd [⟨0, 0, [0], ⟨some 2, none, .mv (.t 0)⟩⟩, ⟨1, 1, [2], ⟨some 3, none, .nc (.t 2)⟩⟩, ⟨2, 3, [3], ⟨some 4, none, .fa (.t 3) 5⟩⟩, ⟨3, 7, [4], ⟨some 5, none, .ld (.t 4) 1 false⟩⟩, ⟨4, 15, [5], ⟨some 6, none, .nc (.t 5)⟩⟩, ⟨5, 31, [6], ⟨some 7, none, .fa (.t 6) 0⟩⟩, ⟨6, 63, [7], ⟨some 8, none, .ld (.t 7) 1 false⟩⟩, ⟨7, 0, [0], ⟨some 9, none, .mv (.t 0)⟩⟩, ⟨8, 128, [9], ⟨some 10, none, .nc (.t 9)⟩⟩, ⟨9, 384, [10], ⟨some 11, none, .fa (.t 10) 5⟩⟩, ⟨10, 896, [11], ⟨some 12, none, .ld (.t 11) 1 false⟩⟩, ⟨11, 1920, [12], ⟨some 13, none, .nc (.t 12)⟩⟩, ⟨12, 3968, [13], ⟨some 14, none, .fa (.t 13) 2⟩⟩, ⟨13, 8064, [14], ⟨some 15, none, .ld (.t 14) 1 false⟩⟩, ⟨14, 0, [0], ⟨some 16, none, .mv (.t 0)⟩⟩, ⟨15, 16384, [16], ⟨some 17, none, .nc (.t 16)⟩⟩, ⟨16, 49152, [17], ⟨some 18, none, .fa (.t 17) 6⟩⟩, ⟨17, 114688, [18], ⟨some 19, none, .ld (.t 18) 1 false⟩⟩, ⟨18, 0, [0], ⟨some 20, none, .mv (.t 0)⟩⟩, ⟨19, 262144, [20], ⟨some 21, none, .nc (.t 20)⟩⟩, ⟨20, 786432, [21], ⟨some 22, none, .fa (.t 21) 6⟩⟩, ⟨21, 1835008, [22], ⟨some 23, none, .ld (.t 22) 1 false⟩⟩, ⟨22, 3932160, [23], ⟨some 24, none, .len (.t 23)⟩⟩, ⟨23, 8126464, [24], ⟨some 25, none, .ib .sub (.t 24) (.c (.int .i64 1))⟩⟩, ⟨24, 16760832, [19, 25], ⟨some 26, none, .ia (.t 19) (.t 25) 1⟩⟩, ⟨25, 33538048, [26], ⟨some 27, none, .ld (.t 26) 1 false⟩⟩, ⟨26, 67108736, [15, 27], ⟨some 28, none, .ib .add (.t 15) (.t 27)⟩⟩, ⟨27, 0, [0], ⟨some 29, none, .mv (.t 0)⟩⟩, ⟨28, 134217728, [29], ⟨some 30, none, .nc (.t 29)⟩⟩, ⟨29, 402653184, [30], ⟨some 31, none, .fa (.t 30) 5⟩⟩, ⟨30, 939524096, [31], ⟨some 32, none, .ld (.t 31) 1 false⟩⟩, ⟨31, 0, [0], ⟨some 33, none, .mv (.t 0)⟩⟩, ⟨32, 2147483648, [33], ⟨some 34, none, .nc (.t 33)⟩⟩, ⟨33, 6442450944, [34], ⟨some 35, none, .fa (.t 34) 8⟩⟩, ⟨34, 15032385536, [35], ⟨some 36, none, .ld (.t 35) 1 false⟩⟩, ⟨35, 34225520640, [32, 36], ⟨some 37, none, .ca 95 [.t 32, .t 36]⟩⟩, ⟨36, 68585259008, [37], ⟨some 38, none, .ib .add (.t 37) (.c (.int .i64 1))⟩⟩, ⟨37, 137304735744, [38], ⟨some 39, none, .cv .u64 (.t 38)⟩⟩,
  ⟨38, 274877906943, [8, 28, 39], ⟨some 40, none, .ca 214 [.t 8, .t 28, .t 39]⟩⟩]) (.rg [⟨some 41, none, .mv (.t 0)⟩, ⟨some 42, none, .nc (.t 41)⟩, ⟨some 43, none, .fa (.t 42) 0⟩, ⟨some 44, none, .mv (.t 0)⟩, ⟨some 45, none, .mf (.func 272) [.t 44] []⟩, ⟨some 46, none, .ca 79 [.t 43, .t 45]⟩]))⟩
theorem k270 : cF Tryz.prog Tryz.f270 = some c270 := by kernel_rfl
def c271 : Fu := ⟨15, [.c 4 2 true], (.sq (.rg [⟨some 2, none, .bx 238 (.t 0)⟩, ⟨some 4, none, .al 238 [.int .i64 0, .int .i64 0]⟩]) (.sq (.rg [⟨some 5, none, .mv (.c (.int .i64 0))⟩]) (.sq (.sq (.rg [⟨some 6, none, .fa (.t 2) 1⟩, ⟨some 7, none, .ld (.t 6) 1 false⟩, ⟨some 8, none, .ca 243 [.t 7, (.c (.int .i64 0)), (.c (.int .i64 4294967294))]⟩]) (.cd (.t 8) (.rg [⟨some 9, none, .fa (.t 2) 1⟩, ⟨some 10, none, .ld (.t 9) 1 false⟩, ⟨some 11, none, .ib .add (.t 10) (.c (.int .i64 1))⟩, ⟨some 5, none, .mv (.t 11)⟩]) .sk)) (.sq (.rg [⟨some 12, none, .mv (.t 1)⟩, ⟨some 13, none, .mv (.t 5)⟩, ⟨some 14, none, .bd [.int .i64 0, .int .i64 0] [(0, 1, (.t 12)), (1, 1, (.t 13))]⟩, ⟨none, none, .st (.t 4) (.t 14) 2⟩]) .rt))))⟩
theorem k271 : cF Tryz.prog Tryz.f271 = some c271 := by kernel_rfl
def c272 : Fu := ⟨24, [], (.sq (.rd [⟨0, 0, [0], ⟨some 2, none, .mv (.t 0)⟩⟩, ⟨1, 1, [2], ⟨some 3, none, .nc (.t 2)⟩⟩, ⟨2, 3, [3], ⟨some 4, none, .fa (.t 3) 5⟩⟩, ⟨3, 7, [4], ⟨some 5, none, .ld (.t 4) 1 false⟩⟩, ⟨4, 0, [0], ⟨some 6, none, .mv (.t 0)⟩⟩, ⟨5, 16, [6], ⟨some 7, none, .nc (.t 6)⟩⟩, ⟨6, 48, [7], ⟨some 8, none, .fa (.t 7) 8⟩⟩, ⟨7, 112, [8], ⟨some 9, none, .ld (.t 8) 1 false⟩⟩, ⟨8, 0, [0], ⟨some 10, none, .mv (.t 0)⟩⟩, ⟨9, 256, [10], ⟨some 11, none, .nc (.t 10)⟩⟩, ⟨10, 768, [11], ⟨some 12, none, .fa (.t 11) 6⟩⟩, ⟨11, 1792, [12], ⟨some 13, none, .ld (.t 12) 1 false⟩⟩, ⟨12, 3840, [13], ⟨some 14, none, .ia (.t 13) (.c (.int .i64 0)) 1⟩⟩, ⟨13, 7936, [14], ⟨some 15, none, .ld (.t 14) 1 false⟩⟩, ⟨14, 16383, [5, 9, 15], ⟨some 16, none, .ca 268 [.t 5, .t 9, .t 15]⟩⟩, ⟨15, 32767, [16], ⟨some 17, none, .nt (.t 16)⟩⟩]) (.cd (.t 17) (.rg [⟨some 18, none, .mv (.t 0)⟩, ⟨some 19, none, .nc (.t 18)⟩, ⟨some 20, none, .fa (.t 19) 0⟩, ⟨some 21, none, .mv (.t 0)⟩, ⟨some 22, none, .mf (.func 266) [.t 21] []⟩, ⟨some 23, none, .ca 79 [.t 20, .t 22]⟩]) .sk))⟩
theorem k272 : cF Tryz.prog Tryz.f272 = some c272 := by kernel_rfl
end Go.Proofs.YtflalhdofhobmaaGreat


namespace Go.Proofs.YtflalhdofhobmaaGreat
end Go.Proofs.YtflalhdofhobmaaGreat


namespace Go.Proofs.YtflalhdofhobmaaGreat
open Go
attribute [local irreducible] Sx Cx Rx Fx Krg Ksq Kbl Klp Kr
def ints (xs : List Int) : List Value := xs.map (Value.int .i64)
theorem length_ints (xs : List Int) : (ints xs).length = xs.length := by simp [ints]
theorem ones_ints (xs : List Int) : ones (ints xs) = true := by simp [ones, ints, Value.oneCell']
theorem ints_append (xs ys : List Int) : ints (xs ++ ys) = ints xs ++ ints ys := by simp [ints]
theorem ints_take (xs : List Int) (n : Nat) : (ints xs).take n = ints (xs.take n) := by simp [ints, List.map_take]
theorem ints_drop (xs : List Int) (n : Nat) : (ints xs).drop n = ints (xs.drop n) := by simp [ints, List.map_drop]
section
variable {L F : St}
theorem Ent.rownil (E sz : Nat) : Ent L (pt none (Row E sz 0 0 []) :: L) := .of fun h H =>
 ⟨Hp.no, h, fun _ => .inl rfl, by funext k; simp [Hp.join, Hp.no], ⟨by simp, .inl ⟨rfl, rfl, rfl, rfl⟩⟩, H⟩
theorem Row.shrink {E sz n cap m : Nat} {xs : List Value} {a : Option Addr} (hm : m ≤ n) : ∀ g, pt a (Row E sz n cap xs) g → pt a (Row E sz m cap (xs.take (m * sz))) g := by
 rintro h ⟨hx, hh⟩
 have hms : m * sz ≤ n * sz := Nat.mul_le_mul_right _ hm
 refine ⟨by rw [List.length_take, hx]; omega, ?_⟩
 rcases hh with ⟨h1, h2, h3, h4⟩ | ⟨g, cur, h1, h2, h3, h4, h5, h6⟩
 ·exact .inl ⟨h1, by omega, h3, h4⟩
 ·refine .inr ⟨g, cur, h1, h2, by omega, h4, h5, ?_⟩
  rw [← h6, List.take_take, Nat.min_eq_left hms]
theorem clone {a : Option Addr} {m c : Nat} {vs : List Value} (hr : Rd L 1 a m vs) (h1 : ones vs = true) (hm : m ≤ 1000000000) :
  Fx Tryz.prog 189 [.slice a m c] L (fun v L' => ∃ a' c', v = .slice a' m c' ∧ L' = pt a' (Row 3 1 m c' vs) :: L) := by
 refine Fx.mk Tryz.func189 k189 nb_ ?_
 dsimp only [c189, envOf, Nat.reduceAdd]
 cases a with
 | none =>
   refine go ?_
   have hm0 : m = 0 := by
    rcases hr.2 with h | ⟨b, o, h, _⟩
    ·exact h
    ·cases h
   subst hm0
   have hv : vs = [] := List.eq_nil_of_length_eq_zero (by simpa using hr.1)
   subst hv
   exact Kr.one (.inr rfl) rfl (Ent.rownil _ _) ⟨none, 0, rfl, rfl⟩
 | some a =>
   refine go ?_
   refine Sx.bs (sz := 1) rfl rfl fun g => ?_
   refine go ?_
   refine Sx.ap rfl rfl (hr.ent Ent.drop) h1 (by simp [maxLen]; omega) (by omega) fun ra ca hc => ?_
   refine go ?_
   refine Kr.one (.inr rfl) rfl (Ent.refl _) ⟨ra, ca, ?_, ?_⟩
   ·simp
   ·simp
def StashT (T : TypeId) (most : Int) (xs : List Int) (a : Option Addr) : As :=
 exs fun (y : Option Addr × Nat) => [pt a (Blk T [.int .i64 most, .slice y.1 xs.length y.2]), pt y.1 (Row 3 1 xs.length y.2 (ints xs))]
abbrev StashO := StashT 250
theorem StashO.close {T : TypeId} {most : Int} {xs : List Int} {a r : Option Addr} {cap n : Nat} {v : Value} {vs : List Value} {F G : St} [t : Take L a (Blk T [v, .slice r n cap]) F] [u : Take F r (Row 3 1 n cap vs) G]
  (hn : n = xs.length) (hv : v = .int .i64 most) (hvs : vs = ints xs) : Ent L (pt a (StashT T most xs) :: G) := by
 subst hn; subst hv; subst hvs
 exact (Ent.take1 (t := t) (Ent.of u.out)).trans (Ent.close (f := fun (y : Option Addr × Nat) => [pt a (Blk T [.int .i64 most, .slice y.1 xs.length y.2]), pt y.1 (Row 3 1 xs.length y.2 (ints xs))]) rfl (r, cap))
theorem stashNew (m : Int) : Fx Tryz.prog 147 [.int .i64 m] L (fun v L' => ∃ g, v = .pointer (some ⟨g, 0, none⟩) ∧ L' = pt (some ⟨g, 0, none⟩) (StashO (min (max m 0) 64) []) :: L) := by
 refine Fx.mk Tryz.func147 k147 nb_ ?_
 dsimp only [c147, envOf, Nat.reduceAdd]
 refine go ?_
 refine Sx.bx rfl rfl fun g => ?_
 refine go ?_
 refine Kr.one (.inr rfl) rfl (Ent.trans (Ent.rownil 3 1) (StashO.close (xs := []) rfl ?_ rfl)) ⟨g, rfl, rfl⟩
 simp only [cond_true, cond_false]
 congr 1
 omega
theorem stashGive {b : Nat} {most : Int} {xs ys : List Int} {ya : Option Addr} {m c : Nat} {F : St} [t : Take L (some ⟨b, 0, none⟩) (StashO most xs) F] (hr : Rd F 1 ya m (ints ys)) (hb : xs.length + m ≤ 1000000000) :
  Fx Tryz.prog 136 [.pointer (some ⟨b, 0, none⟩), .slice ya m c] L (fun v L' => v = .tuple #[] ∧ L' = pt (some ⟨b, 0, none⟩) (StashO most (xs ++ ys)) :: F) := by
 refine Fx.mk Tryz.func136 k136 nb_ ?_
 dsimp only [c136, envOf, Nat.reduceAdd]
 refine Cx.openp (t := t) rfl ?_
 rintro ⟨r, cap⟩
 simp only [List.cons_append, List.nil_append]
 refine go ?_
 refine Sx.ap rfl rfl (hr.ent (Ent.drop.trans Ent.drop)) (ones_ints ys) (by simp [maxLen]; omega) (by omega) fun ra ca hc => ?_
 refine go ?_
 have hm : m = ys.length := by have := hr.1; simp [length_ints] at this; omega
 exact Kr.none (.inl rfl) (StashO.close (by simp [hm]) rfl (by simp [ints])) ⟨rfl, rfl⟩
theorem stashTakeNone {b : Nat} {most : Int} {F : St} [t : Take L (some ⟨b, 0, none⟩) (StashO most []) F] :
  Fx Tryz.prog 248 [.pointer (some ⟨b, 0, none⟩)] L (fun v L' => v = .tuple #[.int .i64 0, .bool false] ∧ L' = pt (some ⟨b, 0, none⟩) (StashO most []) :: F) := by
 refine Fx.mk Tryz.func248 k248 nb_ ?_
 dsimp only [c248, envOf, Nat.reduceAdd]
 refine Cx.openp (t := t) rfl ?_
 rintro ⟨r, cap⟩
 simp only [List.cons_append, List.nil_append]
 refine go ?_
 exact Kr.two (.inr rfl) rfl rfl (StashO.close rfl rfl rfl) ⟨rfl, rfl⟩
theorem stashTakeSome {b : Nat} {most : Int} {xs : List Int} {x : Int} {F : St} [t : Take L (some ⟨b, 0, none⟩) (StashO most (xs ++ [x])) F] (hb : xs.length ≤ 1000000000) :
  Fx Tryz.prog 248 [.pointer (some ⟨b, 0, none⟩)] L (fun v L' => v = .tuple #[.int .i64 x, .bool true] ∧ L' = pt (some ⟨b, 0, none⟩) (StashO most xs) :: F) := by
 refine Fx.mk Tryz.func248 k248 nb_ ?_
 dsimp only [c248, envOf, Nat.reduceAdd]
 refine Cx.openp (t := t) rfl ?_
 rintro ⟨r, cap⟩
 simp only [List.cons_append, List.nil_append]
 generalize hn : (xs ++ [x]).length = n
 have hn' : n = xs.length + 1 := by simp at hn; omega
 clear hn
 refine Cx.rowkey (a := r) fun _ hnc _ hk => ?_
 obtain ⟨g, rfl⟩ : ∃ g, r = some ⟨g, 0, none⟩ := by
  rcases hk with h | h
  ·exfalso; omega
  ·exact h
 have hw : IntKind.i64.wrap ((n : Int) - 1) = (xs.length : Int) := by rw [w64 (by omega) (by omega)]; omega
 refine go ?_
 refine Cx.cno rfl (by simp; omega) ?_
 refine go ?_
 rw [hw]
 refine go ?_
 refine Sx.pv rfl ⟨by omega, by omega⟩ ?_
 refine Sx.ldr rfl (v := .int .i64 x) ?_ ?_
 ·simp [ints]
 refine go ?_
 refine Sx.pv rfl ⟨by omega, by omega⟩ ?_
 refine go ?_
 refine Kr.two (.inr rfl) rfl rfl ?_ ⟨rfl, rfl⟩
 refine Ent.trans (Ent.take1 (a := some ⟨g, 0, none⟩) (Ent.refl _)) (Ent.trans (Ent.head (Row.shrink (m := xs.length) (by omega))) ?_)
 refine StashO.close (by simp) rfl ?_
 simp [ints]
theorem Rd.prefix_ {a : Option Addr} {E sz n cap m : Nat} {xs : List Value} [t : Take L a (Row E sz n cap xs) F] (hx : xs.length = n * sz) (hk : (a = none ∧ n = 0 ∧ cap = 0) ∨ ∃ g, a = some ⟨g, 0, none⟩) (hm : m ≤ n) : Rd L sz a m (xs.take (m * sz)) := by
 have hms : m * sz ≤ n * sz := Nat.mul_le_mul_right _ hm
 refine ⟨by rw [List.length_take]; omega, ?_⟩
 rcases hk with ⟨_, h, _⟩ | ⟨g, rfl⟩
 ·left; omega
 ·right
  have h := Has.row (L := L) (b := g) (E := E) (sz := sz) (n := n) (cap := cap) (xs := xs) (off := 0) (m := m * sz)
  rw [List.drop_zero] at h
  exact ⟨g, 0, rfl, h⟩
theorem Rd.suffix_ {g : Nat} {E sz n cap i : Nat} {xs : List Value} [t : Take L (some ⟨g, 0, none⟩) (Row E sz n cap xs) F] (hx : xs.length = n * sz) (hn : n ≤ cap) (hi : i ≤ n) : Rd L sz (some ⟨g, 0 + skp cap i sz, none⟩) (n - i) (xs.drop (i * sz)) := by
 have hms : i * sz ≤ n * sz := Nat.mul_le_mul_right _ hi
 refine ⟨by rw [List.length_drop, hx, Nat.sub_mul], ?_⟩
 by_cases hc : cap = i
 ·left; omega
 ·right
  refine ⟨g, 0 + skp cap i sz, rfl, ?_⟩
  have h := Has.row (L := L) (b := g) (E := E) (sz := sz) (n := n) (cap := cap) (xs := xs) (off := i * sz) (m := (xs.drop (i * sz)).length)
  rw [List.take_length] at h
  simp only [skp, hc, if_false, Nat.zero_add]
  exact h
theorem stashCut {b : Nat} {most : Int} {xs : List Int} {k : Nat} {F : St} [t : Take L (some ⟨b, 0, none⟩) (StashO most xs) F] (hb : xs.length ≤ 1000000000) (hk : k ≤ xs.length) :
  Fx Tryz.prog 262 [.pointer (some ⟨b, 0, none⟩), .int .i64 k] L (fun v L' => ∃ a c, v = .slice a k c ∧ L' = pt a (Row 3 1 k c (ints (xs.take k))) :: pt (some ⟨b, 0, none⟩) (StashO most (xs.drop k)) :: F) := by
 refine Fx.mk Tryz.func262 k262 nb_ ?_
 dsimp only [c262, envOf, Nat.reduceAdd]
 refine Cx.openp (t := t) rfl ?_
 rintro ⟨r, cap⟩
 simp only [List.cons_append, List.nil_append]
 refine Cx.rowkey (a := r) fun hx hnc _ hkey => ?_
 refine go ?_
 refine Sx.pv rfl ⟨by omega, by omega⟩ ?_
 have h1 := Rd.prefix_ (L := pt (some ⟨b, 0, none⟩) (Blk 250 [.int .i64 most, .slice r xs.length cap]) :: pt r (Row 3 1 xs.length cap (ints xs)) :: F) (a := r) hx hkey hk
 simp only [Nat.mul_one, ints_take] at h1
 refine Sx.ca rfl (clone (by simpa using h1) (ones_ints _) (by omega)) ?_
 rintro v L' ⟨a1, c1, rfl, rfl⟩
 refine go ?_
 rcases hkey with ⟨rfl, h0, rfl⟩ | ⟨g, rfl⟩
 ·have hx0 : xs = [] := List.eq_nil_of_length_eq_zero h0
  subst hx0
  have hk0 : k = 0 := by simpa using hk
  subst hk0
  refine Sx.pv rfl (by simp) ?_
  refine Sx.ca rfl (clone (vs := []) (Rd.nil _ _ _) rfl (by omega)) ?_
  rintro v L' ⟨a2, c2, rfl, rfl⟩
  refine go ?_
  refine Kr.one (.inr rfl) rfl ?_ ⟨a1, c1, rfl, rfl⟩
  refine Ent.trans (StashO.close (a := some ⟨b, 0, none⟩) (r := a2) (xs := []) rfl rfl rfl) ?_
  simp only [Int.toNat_natCast, List.take_nil, List.drop_nil, ints, List.map_nil]
  exact ent
 ·refine Sx.pv rfl ⟨by omega, by omega⟩ ?_
  have h2 := Rd.suffix_ (L := pt a1 (Row 3 1 k c1 (ints (xs.take k))) :: pt (some ⟨b, 0, none⟩) (Blk 250 [.int .i64 most, .slice (some ⟨g, 0, none⟩) xs.length cap]) :: pt (some ⟨g, 0, none⟩) (Row 3 1 xs.length cap (ints xs)) :: F) (g := g) hx hnc hk
  simp only [Nat.mul_one, ints_drop] at h2
  refine Sx.ca rfl (clone (vs := ints (xs.drop k)) (by simpa using h2) (ones_ints _) (by omega)) ?_
  rintro v L' ⟨a2, c2, rfl, rfl⟩
  refine go ?_
  refine Kr.one (.inr rfl) rfl ?_ ⟨a1, c1, rfl, rfl⟩
  refine Ent.trans (StashO.close (a := some ⟨b, 0, none⟩) (r := a2) (xs := xs.drop k) (by simp) rfl rfl) ?_
  simp only [Int.toNat_natCast]
  exact ent
theorem stashList {b : Nat} {most : Int} {xs : List Int} {F : St} [t : Take L (some ⟨b, 0, none⟩) (StashO most xs) F] (hb : xs.length ≤ 1000000000) :
  Fx Tryz.prog 118 [.pointer (some ⟨b, 0, none⟩)] L (fun v L' => ∃ a c, v = .slice a xs.length c ∧ L' = pt a (Row 3 1 xs.length c (ints xs)) :: pt (some ⟨b, 0, none⟩) (StashO most xs) :: F) := by
 refine Fx.mk Tryz.func118 k118 nb_ ?_
 dsimp only [c118, envOf, Nat.reduceAdd]
 refine Cx.openp (t := t) rfl ?_
 rintro ⟨r, cap⟩
 simp only [List.cons_append, List.nil_append]
 refine Cx.rowkey (a := r) fun hx hnc _ hkey => ?_
 refine go ?_
 have h1 := Rd.prefix_ (L := pt (some ⟨b, 0, none⟩) (Blk 250 [.int .i64 most, .slice r xs.length cap]) :: pt r (Row 3 1 xs.length cap (ints xs)) :: F) (a := r) hx hkey (Nat.le_refl _)
 simp only [Nat.mul_one, ints_take, List.take_length] at h1
 refine Sx.ca rfl (clone h1 (ones_ints _) (by omega)) ?_
 rintro v L' ⟨a1, c1, rfl, rfl⟩
 refine go ?_
 refine Kr.one (.inr rfl) rfl ?_ ⟨a1, c1, rfl, rfl⟩
 refine Ent.trans (StashO.close (a := some ⟨b, 0, none⟩) (r := r) (xs := xs) rfl rfl rfl) ?_
 exact ent
def overK (most : Int) (xs : List Int) : Nat := (max ((xs.length : Int) - most) 0).toNat
theorem stashOver {b : Nat} {most : Int} {xs : List Int} {F : St} [t : Take L (some ⟨b, 0, none⟩) (StashO most xs) F] (hb : xs.length ≤ 1000000000) (hm : 0 ≤ most) (hm2 : most ≤ 64) :
  Fx Tryz.prog 246 [.pointer (some ⟨b, 0, none⟩)] L (fun v L' => ∃ a c, v = .slice a (overK most xs) c ∧ L' = pt a (Row 3 1 (overK most xs) c (ints (xs.take (overK most xs)))) :: pt (some ⟨b, 0, none⟩) (StashO most (xs.drop (overK most xs))) :: F) := by
 refine Fx.mk Tryz.func246 k246 nb_ ?_
 dsimp only [c246, envOf, Nat.reduceAdd]
 refine Cx.openp (t := t) rfl ?_
 rintro ⟨r, cap⟩
 simp only [List.cons_append, List.nil_append]
 refine go ?_
 refine Cx.rd ?_
 refine Rx.pvs rfl ?_
 refine Rx.ldbS 0 rfl rfl rfl (by rfl) rfl rfl ?_
 refine Rx.pvs rfl ?_
 refine Rx.ldbS 0 rfl rfl rfl (by rfl) rfl rfl ?_
 refine Rx.pvs rfl ?_
 refine Rx.one rfl rfl rfl ?_
 refine Sx.ent (StashO.close (a := some ⟨b, 0, none⟩) (r := r) (xs := xs) rfl rfl rfl) ?_
 have hw : IntKind.i64.wrap ((xs.length : Int) - most) = (xs.length : Int) - most := w64 (by omega) (by omega)
 have hk : (if (xs.length : Int) - most < 0 then 0 else (xs.length : Int) - most) = (overK most xs : Int) := by unfold overK; omega
 rw [hw]
 simp only [cond_true, hk]
 refine Sx.ca rfl (stashCut (b := b) (most := most) (xs := xs) (k := overK most xs) hb (by unfold overK; omega)) ?_
 rintro v L' ⟨a, c, rfl, rfl⟩
 refine Sx.nil ⟨trivial, ?_⟩
 refine Rx.pvs rfl ?_
 refine Rx.nil ?_
 refine go ?_
 exact Kr.one (.inr rfl) rfl (Ent.refl _) ⟨a, c, rfl, rfl⟩
end
end Go.Proofs.YtflalhdofhobmaaGreat


namespace Go.Proofs.YtflalhdofhobmaaGreat
open Go
attribute [local irreducible] Sx Cx Rx Fx Krg Ksq Kbl Klp Kr
section
variable {P : Program} {N : Nat} {e : En} {K : En → St → Prop} {L F : St} {l : List G}
theorem Sx.apn {d : Option Nat} {T E sz by_ : Nat} {z : List Value} {x y : X} {ya : Option Addr} {m c : Nat} {ys : List Value}
  (hx : x.get e = some (.slice none 0 0)) (hy : y.get e = some (.slice ya m c)) (hr : Rd L sz ya m ys) (h1 : ones ys = true) (hm : m ≤ maxLen) (hb : m * by_ ≤ 140737488355328)
  (k : ∀ ra' cap', m ≤ cap' → Sx P N l (e.put d (.slice ra' m cap')) K (pt ra' (Row E sz m cap' ys) :: L)) : Sx P N (⟨d, none, .ap T E sz by_ z x y⟩ :: l) e K L := by
 refine Sx.ent (Ent.rownil E sz) ?_
 refine Sx.ap (ra := none) (n := 0) (cap := 0) (xs := []) hx hy (hr.ent Ent.drop) h1 (by omega) (by simpa using hb) fun ra ca hc => ?_
 simp only [Nat.zero_add, List.nil_append] at hc ⊢
 exact k ra ca hc
theorem Has.at_ {b o i : Nat} {vs : List Value} {v : Value} (h : Has L b o vs) (hv : vs[i]? = some v) : Has L b (o + i) [v] := by
 have := Has.sub (i := i) (n := 1) h
 rwa [take_one hv] at this
end
section
variable {L F : St}
theorem number (v n : Int) (hn : 0 < n) (hn2 : n ≤ 4611686018427387904) : Fx Tryz.prog 16 [.int .i64 v, .int .i64 n] L (fun r L' => r = .int .i64 (v % n) ∧ L = L') := by
 have h1 := Int.tmod_lt_of_pos v hn
 have h2 : v % n = if v.tmod n < 0 then v.tmod n + n else v.tmod n := by
  rw [Int.tmod_eq_emod]
  have h3 := Int.emod_nonneg v (show n ≠ 0 by omega)
  have h4 := Int.emod_lt_of_pos v hn
  have h5 : (n.natAbs : Int) = n := by omega
  split <;> split <;> omega
 have h6 : -n < v.tmod n := by
  rw [Int.tmod_eq_emod]
  have h3 := Int.emod_nonneg v (show n ≠ 0 by omega)
  have h4 := Int.emod_lt_of_pos v hn
  have h5 : (n.natAbs : Int) = n := by omega
  split <;> omega
 refine Fx.mk Tryz.func16 k16 nb_ ?_
 dsimp only [c16, envOf, Nat.reduceAdd]
 refine go ?_
 refine Sx.pv rfl (by omega) ?_
 refine go ?_
 refine Cx.ifp rfl (fun h => ?_) (fun h => ?_)
 ·refine go ?_
  refine Kr.one (.inr rfl) rfl (Ent.refl _) ⟨?_, rfl⟩
  rw [w64 (by omega) (by omega), h2, if_pos h]
 ·refine go ?_
  refine Kr.one (.inr rfl) rfl (Ent.refl _) ⟨?_, rfl⟩
  rw [h2, if_neg h]
theorem sameInts {xs ys : List Int} {a b : Option Addr} {n m c d : Nat} (h1 : Rd L 1 a n (ints xs)) (h2 : Rd L 1 b m (ints ys)) (hb : n ≤ 1000000000) :
  Fx Tryz.prog 62 [.slice a n c, .slice b m d] L (fun v L' => v = .bool (decide (xs = ys)) ∧ L = L') := by
 have hn : n = xs.length := by have := h1.1; simp [ints] at this; omega
 have hm : m = ys.length := by have := h2.1; simp [ints] at this; omega
 refine Fx.mk Tryz.func62 k62 nb_ ?_
 dsimp only [c62, envOf, Nat.reduceAdd]
 refine go ?_
 refine Cx.ifn rfl (fun h => ?_) (fun h => ?_)
 ·refine go ?_
  have hne : xs ≠ ys := fun he => h (by rw [hn, hm, he])
  exact Kr.one (.inr rfl) rfl (Ent.refl _) ⟨by simp [hne], rfl⟩
 ·refine go ?_
  have hnm : n = m := by omega
  refine Cx.lp (α := {i : Nat // i ≤ n ∧ xs.take i = ys.take i}) (fun i => [(0, .slice a n c), (1, .slice b m d), (5, .int .i64 i.1)]) (fun _ => L) (fun i => n - i.1) ⟨0, by omega, rfl⟩ (sub.cons rfl (sub.cons rfl (sub.cons rfl sub.nil))) (Ent.refl _) ?_
  rintro ⟨i, hi, heq⟩
  dsimp only
  refine go ?_
  refine Cx.ifp rfl (fun h => ?_) (fun h => ?_)
  ·have hlt : i < n := by omega
   obtain ⟨_, h0 | ⟨ga, oa, rfl, ha⟩⟩ := h1
   ·omega
   obtain ⟨_, h0 | ⟨gb, ob, rfl, hbb⟩⟩ := h2
   ·omega
   have hx : (ints xs)[i]? = some (.int .i64 xs[i]) := by simp [ints]
   have hy : (ints ys)[i]? = some (.int .i64 ys[i]) := by simp [ints]
   refine go ?_
   refine Cx.rd ?_
   refine Rx.pvs rfl ?_
   refine Rx.pv 0 rfl rfl rfl ⟨by omega, by omega⟩ rfl rfl ?_
   refine Rx.pv 1 rfl rfl rfl ⟨by omega, by omega⟩ rfl rfl ?_
   refine Rx.ldS 0 rfl rfl rfl (by simpa using ha.at_ hx) rfl rfl rfl ?_
   refine Rx.ldS 0 rfl rfl rfl (by simpa using hbb.at_ hy) rfl rfl rfl ?_
   refine Rx.pvs rfl ?_
   refine Rx.nil ?_
   refine go ?_
   refine Cx.ifn rfl (fun hne => ?_) (fun he => ?_)
   ·refine go ?_
    have hxy : xs ≠ ys := fun he => by subst he; exact hne rfl
    exact Kr.one (.inr rfl) rfl (Ent.refl _) ⟨by simp [hxy], rfl⟩
   ·refine go ?_
    rw [w64 (by omega) (by omega)]
    refine Klp.nm ⟨i + 1, by omega, ?_⟩ (sub.cons rfl (sub.cons rfl (sub.cons (by simp [En.get, En.put]) sub.nil))) (Ent.refl _) (by simp; omega)
    rw [List.take_succ_eq_append_getElem (by omega), List.take_succ_eq_append_getElem (by omega), heq, he]
  ·refine go ?_
   have hin : i = n := by omega
   subst hin
   have hxy : xs = ys := by
    rw [hn, List.take_length] at heq
    rw [heq, ← hn, hnm, hm, List.take_length]
   exact Kr.one (.inr rfl) rfl (Ent.refl _) ⟨by simp [hxy], rfl⟩
abbrev RefO := StashT 191
theorem refNew (m : Int) : Fx Tryz.prog 149 [.int .i64 m] L (fun v L' => ∃ g, v = .pointer (some ⟨g, 0, none⟩) ∧ L' = pt (some ⟨g, 0, none⟩) (RefO (min (max m 0) 64) []) :: L) := by
 refine Fx.mk Tryz.func149 k149 nb_ ?_
 dsimp only [c149, envOf, Nat.reduceAdd]
 refine go ?_
 refine Sx.bx rfl rfl fun g => ?_
 refine go ?_
 refine Kr.one (.inr rfl) rfl (Ent.trans (Ent.rownil 3 1) (StashO.close (xs := []) rfl ?_ rfl)) ⟨g, rfl, rfl⟩
 simp only [cond_true, cond_false]
 congr 1
 omega
theorem refGive {b : Nat} {most : Int} {xs ys : List Int} {ya : Option Addr} {m c : Nat} [t : Take L (some ⟨b, 0, none⟩) (RefO most xs) F] (hr : Rd F 1 ya m (ints ys)) (hb : xs.length + m ≤ 1000000000) :
  Fx Tryz.prog 184 [.pointer (some ⟨b, 0, none⟩), .slice ya m c] L (fun v L' => v = .tuple #[] ∧ L' = pt (some ⟨b, 0, none⟩) (RefO most (xs ++ ys)) :: F) := by
 refine Fx.mk Tryz.func184 k184 nb_ ?_
 dsimp only [c184, envOf, Nat.reduceAdd]
 refine Cx.openp (t := t) rfl ?_
 rintro ⟨r, cap⟩
 simp only [List.cons_append, List.nil_append]
 refine Cx.rowkey (a := r) fun hx hnc _ hkey => ?_
 refine go ?_
 refine Sx.apn rfl rfl (Rd.any (a := r) hx (hkey.imp (fun h => h.2.1) id)) (ones_ints xs) (by simp [maxLen]; omega) (by omega) fun r1 c1 h1 => ?_
 refine go ?_
 refine Sx.ap rfl rfl (hr.ent (Ent.drop.trans (Ent.drop.trans Ent.drop))) (ones_ints ys) (by simp [maxLen]; omega) (by omega) fun r2 c2 h2 => ?_
 refine go ?_
 have hm : m = ys.length := by have := hr.1; simp [length_ints] at this; omega
 refine Kr.none (.inl rfl) ?_ ⟨rfl, rfl⟩
 refine Ent.trans (StashO.close (a := some ⟨b, 0, none⟩) (r := r2) (xs := xs ++ ys) (by simp [hm]) rfl (by simp [ints])) ?_
 exact ent
theorem refTakeNone {b : Nat} {most : Int} [t : Take L (some ⟨b, 0, none⟩) (RefO most []) F] :
  Fx Tryz.prog 231 [.pointer (some ⟨b, 0, none⟩)] L (fun v L' => v = .tuple #[.int .i64 0, .bool false] ∧ L' = pt (some ⟨b, 0, none⟩) (RefO most []) :: F) := by
 refine Fx.mk Tryz.func231 k231 nb_ ?_
 dsimp only [c231, envOf, Nat.reduceAdd]
 refine Cx.openp (t := t) rfl ?_
 rintro ⟨r, cap⟩
 simp only [List.cons_append, List.nil_append]
 refine go ?_
 exact Kr.two (.inr rfl) rfl rfl (StashO.close rfl rfl rfl) ⟨rfl, rfl⟩
theorem refTakeSome {b : Nat} {most : Int} {xs : List Int} {x : Int} [t : Take L (some ⟨b, 0, none⟩) (RefO most (xs ++ [x])) F] (hb : xs.length ≤ 100000000) :
  Fx Tryz.prog 231 [.pointer (some ⟨b, 0, none⟩)] L (fun v L' => v = .tuple #[.int .i64 x, .bool true] ∧ L' = pt (some ⟨b, 0, none⟩) (RefO most xs) :: F) := by
 refine Fx.mk Tryz.func231 k231 nb_ ?_
 dsimp only [c231, envOf, Nat.reduceAdd]
 refine Cx.openp (t := t) rfl ?_
 rintro ⟨r, cap⟩
 simp only [List.cons_append, List.nil_append]
 generalize hn : (xs ++ [x]).length = n
 have hn' : n = xs.length + 1 := by simp at hn; omega
 clear hn
 refine Cx.rowkey (a := r) fun hx hnc _ hk => ?_
 obtain ⟨g, rfl⟩ : ∃ g, r = some ⟨g, 0, none⟩ := by
  rcases hk with h | h
  ·exfalso; omega
  ·exact h
 have hw : IntKind.i64.wrap ((n : Int) - 1) = (xs.length : Int) := by rw [w64 (by omega) (by omega)]; omega
 refine go ?_
 refine Cx.cno rfl (by simp; omega) ?_
 refine go ?_
 rw [hw]
 refine go ?_
 refine Sx.pv rfl ⟨by omega, by omega⟩ ?_
 refine Sx.ldr rfl (v := .int .i64 x) ?_ ?_
 ·simp [ints]
 refine go ?_
 rw [hw]
 refine go ?_
 refine Sx.pv rfl ⟨by omega, by omega⟩ ?_
 have h1 := Rd.prefix_ (L := pt (some ⟨b, 0, none⟩) (Blk 191 [.int .i64 most, .slice (some ⟨g, 0, none⟩) n cap]) :: pt (some ⟨g, 0, none⟩) (Row 3 1 n cap (ints (xs ++ [x]))) :: F) (m := xs.length) (a := some ⟨g, 0, none⟩) hx (.inr ⟨g, rfl⟩) (by omega)
 have h2 : (ints (xs ++ [x])).take (xs.length * 1) = ints xs := by simp [ints]
 rw [h2] at h1
 refine Sx.apn rfl rfl (by simpa using h1) (ones_ints xs) (by simp [maxLen]; omega) (by omega) fun r1 c1 h3 => ?_
 refine go ?_
 refine Kr.two (.inr rfl) rfl rfl ?_ ⟨rfl, rfl⟩
 refine Ent.trans (StashO.close (a := some ⟨b, 0, none⟩) (r := r1) (xs := xs) (by simp) rfl rfl) ?_
 exact ent
theorem refOver {b : Nat} {most : Int} {xs : List Int} [t : Take L (some ⟨b, 0, none⟩) (RefO most xs) F] (hb : xs.length ≤ 100000000) (hm : 0 ≤ most) (hm2 : most ≤ 64) :
  Fx Tryz.prog 197 [.pointer (some ⟨b, 0, none⟩)] L (fun v L' => ∃ a c, v = .slice a (overK most xs) c ∧ L' = pt a (Row 3 1 (overK most xs) c (ints (xs.take (overK most xs)))) :: pt (some ⟨b, 0, none⟩) (RefO most (xs.drop (overK most xs))) :: F) := by
 refine Fx.mk Tryz.func197 k197 nb_ ?_
 dsimp only [c197, envOf, Nat.reduceAdd]
 refine Cx.openp (t := t) rfl ?_
 rintro ⟨r, cap⟩
 simp only [List.cons_append, List.nil_append]
 refine Cx.rowkey (a := r) fun hx hnc _ hkey => ?_
 refine go ?_
 refine Cx.rd ?_
 refine Rx.pvs rfl ?_
 refine Rx.ldbS 0 rfl rfl rfl (by rfl) rfl rfl ?_
 refine Rx.pvs rfl ?_
 refine Rx.ldbS 0 rfl rfl rfl (by rfl) rfl rfl ?_
 refine Rx.pvs rfl ?_
 refine Rx.nil ?_
 have hw : IntKind.i64.wrap ((xs.length : Int) - most) = (xs.length : Int) - most := w64 (by omega) (by omega)
 have hk : (if (xs.length : Int) - most < 0 then 0 else (xs.length : Int) - most) = (overK most xs : Int) := by unfold overK; omega
 have hkl : overK most xs ≤ xs.length := by unfold overK; omega
 rw [hw]
 simp only [cond_true, hk]
 refine go ?_
 refine Sx.pv rfl ⟨by omega, by omega⟩ ?_
 have h1 := Rd.prefix_ (L := pt (some ⟨b, 0, none⟩) (Blk 191 [.int .i64 most, .slice r xs.length cap]) :: pt r (Row 3 1 xs.length cap (ints xs)) :: F) (a := r) hx hkey hkl
 simp only [Nat.mul_one, ints_take] at h1
 refine Sx.apn rfl rfl (by simpa using h1) (ones_ints _) (by simp [maxLen]; omega) (by omega) fun r1 c1 h3 => ?_
 refine go ?_
 rcases hkey with ⟨rfl, h0, rfl⟩ | ⟨g, rfl⟩
 ·have hx0 : xs = [] := List.eq_nil_of_length_eq_zero h0
  subst hx0
  have hk0 : overK most [] = 0 := by simpa using hkl
  rw [hk0] at h3 ⊢
  refine Sx.pv rfl (by simp) ?_
  refine Sx.apn rfl rfl (Rd.nil _ _ _) rfl (by simp) (by simp) fun r2 c2 h4 => ?_
  refine go ?_
  refine Kr.one (.inr rfl) rfl ?_ ⟨r1, c1, rfl, rfl⟩
  refine Ent.trans (StashO.close (a := some ⟨b, 0, none⟩) (r := r2) (xs := []) rfl rfl rfl) ?_
  simp only [Int.toNat_natCast, List.take_nil, List.drop_nil, ints, List.map_nil]
  exact ent
 ·refine Sx.pv rfl ⟨by omega, by omega⟩ ?_
  have h2 := Rd.suffix_ (L := pt r1 (Row 3 1 (overK most xs) c1 (ints (xs.take (overK most xs)))) :: pt (some ⟨b, 0, none⟩) (Blk 191 [.int .i64 most, .slice (some ⟨g, 0, none⟩) xs.length cap]) :: pt (some ⟨g, 0, none⟩) (Row 3 1 xs.length cap (ints xs)) :: F) (g := g) hx hnc hkl
  simp only [Nat.mul_one, ints_drop] at h2
  refine Sx.apn rfl rfl (ys := ints (xs.drop (overK most xs))) (by simpa using h2) (ones_ints _) (by simp [maxLen]; omega) (by omega) fun r2 c2 h4 => ?_
  refine go ?_
  refine Kr.one (.inr rfl) rfl ?_ ⟨r1, c1, rfl, rfl⟩
  refine Ent.trans (StashO.close (a := some ⟨b, 0, none⟩) (r := r2) (xs := xs.drop (overK most xs)) (by simp) rfl rfl) ?_
  simp only [Int.toNat_natCast]
  exact ent
end
end Go.Proofs.YtflalhdofhobmaaGreat


namespace Go.Proofs.YtflalhdofhobmaaGreat
open Go
section
variable {P : Program} {N : Nat} {L M F : St}
theorem Fx.kept {f : FuncId} {vs : List Value} {v : Value} {a : Option Addr} {R : Option Addr → As} [t : Take L a R F] (h : Fx P f vs L (fun v' L' => v' = v ∧ L' = pt a R :: F)) : Fx P f vs L (fun v' L' => v' = v ∧ L = L') :=
 fun w0 w s => (h w0 w s).mono fun en w' ⟨v', L', he, ⟨hv, hL⟩, hS⟩ => ⟨v', L, he, ⟨hv, rfl⟩, hS.ent (by subst hL; exact Ent.of t.back)⟩
theorem Fx.pure {f : FuncId} {vs : List Value} {R : Value → St → Prop} (x : Fx P f vs L R) {p : Value → St → Prop} (hp : ∀ v L', R v L' → ∀ h, holds L' h → p v L') : Fx P f vs L (fun v L' => R v L' ∧ p v L') :=
 fun w0 w s => (x w0 w s).mono fun en w' ⟨v, L', he, hR, hS⟩ => by
  obtain ⟨h, hh, _⟩ := hS.heap
  exact ⟨v, L', he, ⟨hR, hp v L' hR h hh⟩, hS⟩
class Mono (Kf : En → St → Prop) : Prop where
 le : ∀ e e' L, sub e e' → Kf e L → Kf e' L
instance Mono.cx {c : C} {K : Kx} : Mono (fun e L => Cx P N c e K L) := ⟨fun _ _ _ hs h => Cx.less hs h⟩
instance Mono.sq {c : C} {K : Kx} : Mono (fun e L => Ksq P N c K .nm e L) := ⟨fun _ _ _ hs h => Cx.less hs h⟩
instance Mono.bl {K : Kx} {i : Nat} [m : Mono (fun e L => K .nm e L)] : Mono (fun e L => Kbl i K .nm e L) := ⟨fun e e' L hs h => m.le e e' L hs h⟩
instance Mono.lp {α : Type _} {K : Kx} {T : α → En} {S : α → St} {μ : α → Nat} {x : α} : Mono (fun e L => Klp K T S μ x .nm e L) := ⟨fun _ _ _ hs h => Klp.mono _ _ hs h⟩
instance Mono.jn {β : Type _} {K : Kx} {T : β → En} {S : β → St} : Mono (fun e L => Kjn K T S .nm e L) := ⟨fun _ _ _ hs h => Kjn.mono _ _ hs h⟩
instance Mono.kr {rs : List RV} {R : Value → St → Prop} : Mono (fun e L => Kr P N rs R .nm e L) := ⟨fun e e' L hs ⟨h1, v, L', h2, h3, h4⟩ => ⟨h1, v, L', fun fn a w0 w hr ok s => h2 fn a w0 w hr (ok.sub hs) s, h3, h4⟩⟩
theorem Ev.same {Kf : En → St → Prop} {rem : List It} {ms : List (Nat × (St → Prop))} {e : En} {L : St} (h : Ev P N Kf rem ms e L) : ∀ {rem2 : List It}, (∀ x, x ∈ rem2 ↔ x ∈ rem) → Ev P N Kf rem2 ms e L := by
 induction h with
 | nil h =>
   intro rem2 hm
   cases rem2 with
   | nil => exact .nil h
   | cons x r => exact absurd ((hm x).1 (by simp)) (by simp)
 | free x hx v h k ih => exact fun hm => .free x ((hm x).2 hx) v h (ih fun y => by rw [mem_without, mem_without, hm])
 | looks x hx v Φ hΦ h k ih => exact fun hm => .looks x ((hm x).2 hx) v Φ hΦ h (ih fun y => by rw [mem_without, mem_without, hm])
 | turns x hx R h1 h2 h k ih =>
   intro rem2 hm
   refine .turns x ((hm x).2 hx) R (List.all_eq_true.2 fun y hy => List.all_eq_true.1 h1 y ?_) h2 h fun v L' hR => ih v L' hR fun y => by rw [mem_without, mem_without, hm]
   rw [mem_without] at hy ⊢
   exact ⟨(hm y).1 hy.1, hy.2⟩
def pull : Nat → List It → Option (It × List It)
 | _, [] => none
 | 0, x :: r => some (x, r)
 | n + 1, x :: r => match pull n r with
   | some (y, k) => some (y, x :: k)
   | none => none
theorem pull_mem : ∀ {n : Nat} {l : List It} {x : It} {r : List It}, pull n l = some (x, r) → ∀ y, y ∈ l ↔ y ∈ x :: r
 | 0, [], _, _, h, _ => by cases h
 | n + 1, [], _, _, h, _ => by cases h
 | 0, a :: l, x, r, h, y => by cases h; rfl
 | n + 1, a :: l, x, r, h, y => by
   simp only [pull] at h
   split at h
   ·rename_i z k hz
    cases h
    have := pull_mem hz y
    simp only [List.mem_cons] at this ⊢
    rw [this]
    constructor
    ·rintro (h | h | h) <;> simp [h]
    ·rintro (h | h | h) <;> simp [h]
   ·cases h
section
variable {Kf : En → St → Prop} {e : En} {rem rem' r : List It} {ms : List (Nat × (St → Prop))} {i ds sz : Nat} {rs : List Nat} {d : Option Nat} {g : Option (Nat × Bool)}
theorem Ev.bring (j : Nat) {x : It} (h : pull j rem = some (x, r)) (k : Ev P N Kf (x :: r) ms e L) : Ev P N Kf rem ms e L := k.same fun y => pull_mem h y
def dist : List It → Bool
 | [] => true
 | x :: l => l.all (fun y => !(Nat.beq y.i x.i)) && dist l
theorem without_head {x : It} (h : r.all (fun y => !(Nat.beq y.i x.i)) = true) : without (x :: r) x.i = r := by
 unfold without
 rw [List.filter_cons]
 simp only [Nat.beq_refl, Bool.not_true, Bool.false_eq_true, if_false]
 rw [List.filter_eq_self]
 exact fun y hy => List.all_eq_true.1 h y hy
theorem dist_move {x : It} {r : List It} : ∀ {pre : List It}, dist (pre ++ x :: r) = true → dist (x :: (pre ++ r)) = true
 | [], hd => hd
 | y :: pre, hd => by
   simp only [List.cons_append, dist, Bool.and_eq_true, List.all_append, List.all_cons] at hd
   obtain ⟨⟨h1, h2, h3⟩, h4⟩ := hd
   have := dist_move h4
   simp only [List.cons_append, dist, Bool.and_eq_true, List.all_append, List.all_cons] at this ⊢
   refine ⟨⟨?_, this.1⟩, ⟨h1, h3⟩, this.2⟩
   simp only [Bool.not_eq_true'] at h2 ⊢
   cases hb : Nat.beq y.i x.i with
   | false => rfl
   | true => rw [Nat.eq_of_beq_eq_true hb] at h2; simp at h2
def pass : Nat → List It → En → Option (List It × En)
 | _, [], _ => none
 | n, x :: r, e => match stepM x e with
   | some v => match x.g.d with
     | some t => match pass n r ((t, v) :: e) with
       | some q => some q
       | none => some (r, (t, v) :: e)
     | none => match pass n r e with
       | some q => some q
       | none => some (r, e)
   | none => match n with
     | 0 => none
     | n + 1 => match pass n r e with
       | some (k, e') => some (x :: k, e')
       | none => none
theorem pass_ev : ∀ {n : Nat} {r : List It} {e : En} {rem' : List It} {e' : En}, pass n r e = some (rem', e') → ∀ pre : List It, dist (pre ++ r) = true → Ev P N Kf (pre ++ rem') ms e' L → Ev P N Kf (pre ++ r) ms e L
 | _, [], _, _, _, h, _, _, _ => by cases h
 | n, x :: r, e, rem', e', h, pre, hd, k => by
   have hd' : dist (x :: (pre ++ r)) = true := dist_move hd
   have hd2 : (pre ++ r).all (fun y => !(Nat.beq y.i x.i)) = true ∧ dist (pre ++ r) = true := by simpa [dist] using hd'
   rw [pass.eq_def] at h
   simp only at h
   have tell : ∀ {v : Value}, stepM x e = some v → Ev P N Kf (pre ++ r) ms (e.put x.g.d v) L → Ev P N Kf (pre ++ x :: r) ms e L := by
    intro v hv k
    refine Ev.same (rem := x :: (pre ++ r)) (Ev.stp (x := x) (by simp) hv ?_) fun y => by simp only [List.mem_append, List.mem_cons]; constructor <;> (rintro (h | h | h) <;> simp [h])
    rw [without_head hd2.1]
    exact k
   split at h
   ·rename_i v hv
    refine tell hv ?_
    split at h
    ·rename_i t ht
     rw [ht]
     split at h
     ·rename_i q hq
      cases h
      exact pass_ev hq pre hd2.2 k
     ·cases h
      exact k
    ·rename_i ht
     rw [ht]
     split at h
     ·rename_i q hq
      cases h
      exact pass_ev hq pre hd2.2 k
     ·cases h
      exact k
   ·cases n with
    | zero => cases h
    | succ n =>
      simp only at h
      split at h
      ·rename_i kk ee hq
       cases h
       have := pass_ev hq (pre ++ [x]) (by simpa using hd) (by simpa using k)
       simpa using this
      ·cases h
theorem Ev.pass (n : Nat) {e' : En} (h : Proofs.YtflalhdofhobmaaGreat.pass n rem e = some (rem', e')) (hd : dist rem = true) (k : Ev P N Kf rem' ms e' L) : Ev P N Kf rem ms e L := pass_ev h [] hd k
theorem Ev.stpH {x : It} {v : Value} {e' : En} (hd : dist (x :: r) = true) (h : stepM x e = some v) (he : (match x.g.d with | some t => (t, v) :: e | none => e) = e') (k : Ev P N Kf r ms e' L) : Ev P N Kf (x :: r) ms e L := by
 refine Ev.stp (x := x) (by simp) h ?_
 rw [without_head (by simp only [dist, Bool.and_eq_true] at hd; exact hd.1)]
 subst he
 cases hx : x.g.d with
 | none => rw [hx] at k; exact k
 | some t => rw [hx] at k; exact k
theorem only_sub {T e : En} (hs : sub T e) (rs : List Nat) : sub (T.only rs) (e.only rs) := by
 intro t u h
 have ⟨hm, hu⟩ := only_get h
 have hu' := hs t u hu
 clear h hu hs
 induction rs with
 | nil => cases hm
 | cons a r ih =>
   unfold En.only
   by_cases hat : a = t
   ·subst hat
    rw [hu']
    simp [En.get]
   ·have hm' : t ∈ r := by
     rcases List.mem_cons.1 hm with h | h
     ·exact absurd h.symm hat
     ·exact h
    have hb : Nat.beq a t = false := by
     cases hb : Nat.beq a t with
     | false => rfl
     | true => exact absurd (Nat.eq_of_beq_eq_true hb) hat
    split
    ·simp only [En.get, hb, cond_false]; exact ih hm'
    ·exact ih hm'
theorem sub.trans {a b c : En} (h : sub a b) (k : sub b c) : sub a c := fun i v x => k i v (h i v x)
theorem sub.put {a b : En} (h : sub a b) (d : Option Nat) (v : Value) : sub (a.put d v) (b.put d v) := by
 intro i u hi
 cases d with
 | none => exact h i u hi
 | some t =>
   simp only [En.put, En.get] at hi ⊢
   cases hb : Nat.beq t i with
   | true => simp only [hb, cond_true] at hi ⊢; exact hi
   | false => simp only [hb, cond_false] at hi ⊢; exact h i u hi
theorem Ev.less {T : En} (hK : ∀ e e' L, sub e e' → Kf e L → Kf e' L) (h : Ev P N Kf rem ms T L) : ∀ {e : En}, sub T e → Ev P N Kf rem ms e L := by
 induction h with
 | nil h => exact fun hs => .nil (hK _ _ _ hs h)
 | free x hx v h k ih => exact fun hs => .free x hx v (fun L e' he => h L e' ((only_sub hs _).trans he)) (ih (hs.put _ _))
 | looks x hx v Φ hΦ h k ih => exact fun hs => .looks x hx v Φ hΦ (fun M hM e' he => h M hM e' ((only_sub hs _).trans he)) (ih (hs.put _ _))
 | turns x hx R h1 h2 h k ih => exact fun hs => .turns x hx R h1 h2 (fun e' he => h e' ((only_sub hs _).trans he)) fun v L' hR => ih v L' hR (hs.put _ _)
theorem sub_learn {t : Nat} {p q : Value} (h : e.get t = some p) (hq : p = q) : sub ((t, q) :: e) e := by
 subst hq
 intro i u hi
 simp only [En.get] at hi
 cases hb : Nat.beq t i with
 | true => rw [hb, cond_true] at hi; rw [← Nat.eq_of_beq_eq_true hb, h]; exact hi
 | false => rw [hb, cond_false] at hi; exact hi
theorem Ev.learn [hK : Mono Kf] (t : Nat) {p q : Value} (h : e.get t = some p) (hq : p = q) (k : Ev P N Kf rem ms ((t, q) :: e) L) : Ev P N Kf rem ms e L := Ev.less hK.le k (sub_learn h hq)
theorem Ev.yes [hK : Mono Kf] (t : Nat) {p : Bool} (h : e.get t = some (.bool p)) (hp : p = true) (k : Ev P N Kf rem ms ((t, .bool true) :: e) L) : Ev P N Kf rem ms e L := .learn t h (by rw [hp]) k
theorem Ev.no [hK : Mono Kf] (t : Nat) {p : Bool} (h : e.get t = some (.bool p)) (hp : p = false) (k : Ev P N Kf rem ms ((t, .bool false) :: e) L) : Ev P N Kf rem ms e L := .learn t h (by rw [hp]) k
theorem Ev.fin (h : Kf e L) : Ev P N Kf [] ms e L := .nil h
def clr (ds : List Nat) : En → Option En
 | [] => some []
 | (i, v) :: r => match clr ds r with
   | some q => bif ds.any (Nat.beq i) then some q else some ((i, v) :: q)
   | none => none
def dsts : List It → List Nat
 | [] => []
 | x :: r => match x.g.d with | some d => d :: dsts r | none => dsts r
theorem clr_any {l : List It} {i : Nat} : (dsts l).any (Nat.beq i) = true → ∃ y ∈ l, y.g.d = some i := by
 induction l with
 | nil => intro h; cases h
 | cons x r ih =>
   intro h
   unfold dsts at h
   split at h
   ·rename_i d hd
    simp only [List.any_cons, Bool.or_eq_true] at h
    rcases h with h | h
    ·exact ⟨x, by simp, by rw [hd, Nat.eq_of_beq_eq_true h]⟩
    ·obtain ⟨y, hy, he⟩ := ih h; exact ⟨y, by simp [hy], he⟩
   ·obtain ⟨y, hy, he⟩ := ih h; exact ⟨y, by simp [hy], he⟩
theorem clr_eq {l : List It} : ∀ {e q : En}, clr (dsts l) e = some q → q = e.clear l
 | [], q, h => by cases h; rfl
 | (i, v) :: r, q, h => by
   simp only [clr] at h
   split at h
   ·rename_i q' hq
    have ih := clr_eq hq
    subst ih
    unfold En.clear
    rw [List.filter_cons]
    cases hb : (dsts l).any (Nat.beq i) with
    | true =>
      rw [hb, cond_true] at h; cases h
      obtain ⟨y, hy, he⟩ := clr_any hb
      rw [if_neg]
      ·rfl
      ·intro hh
       have := List.all_eq_true.1 hh y hy
       rw [he] at this; simp at this
    | false =>
      rw [hb, cond_false] at h; cases h
      rw [if_pos]
      ·rfl
      ·refine List.all_eq_true.2 fun y hy => ?_
       cases hyd : y.g.d with
       | none => rfl
       | some d =>
         simp only [Bool.not_eq_true']
         cases hdi : Nat.beq d i with
         | false => rfl
         | true =>
           exfalso
           rw [Nat.eq_of_beq_eq_true hdi] at hyd
           have : (dsts l).any (Nat.beq i) = true := by
            clear hb hq
            induction l with
            | nil => cases hy
            | cons x l ih =>
              unfold dsts
              rcases List.mem_cons.1 hy with rfl | hy
              ·rw [hyd]; simp
              ·split
               ·simp only [List.any_cons, Bool.or_eq_true]; exact .inr (ih hy)
               ·exact ih hy
           rw [hb] at this; cases this
   ·cases h
theorem Cx.ordc {l : List It} {e q : En} {d : C} {K : Kx} (hq : clr (dsts l) e = some q) (hc : chkO l = true) (h : Ev P N (fun fin L => Cx P N d fin K L) l [] q L) : Cx P N (.rd l) e (Ksq P N d K) L := by
 refine Cx.ord hc ?_
 rw [← clr_eq hq]
 exact h
theorem Cx.orde {l : List It} {e q : En} {K : Kx} [hK : Mono (fun e L => K .nm e L)] (hq : clr (dsts l) e = some q) (hc : chkO l = true) (h : Ev P N (fun fin L => K .nm fin L) l [] q L) : Cx P N (.rd l) e K L := by
 rw [clr_eq hq] at h
 simp only [chkO, Bool.and_eq_true] at hc
 refine Cx.rd ?_
 refine ev_run (Kf := Krg K) hc.1 hc.2.1 hc.2.2 hK.le l.length l [] (e.clear l) L h [] l e rfl (fun _ h => h) (fun x => by simp) (fun _ h => by cases h) (fun _ h => by cases h) (fun y hy d hyd => ?_) (fun t u ht _ => clear_sub ht)
 cases hg : (e.clear l).get d with
 | none => rfl
 | some u => exact absurd hyd ((clear_get hg).1 y hy)
theorem Ev.lookH {s : S} {v : Value} (Φ : St → Prop) (hd : dist (⟨i, ds, rs, ⟨d, g, s⟩⟩ :: r) = true) (hg : gon (e.only rs) g = true) (hΦ : Φ L) (h : ∀ M, Φ M → ∀ e', sub (e.only rs) e' → Sc P N ⟨d, none, s⟩ e' v M)
  (k : Ev P N Kf r ((i, Φ) :: ms) (e.put d v) L) : Ev P N Kf (⟨i, ds, rs, ⟨d, g, s⟩⟩ :: r) ms e L :=
 .looks ⟨i, ds, rs, ⟨d, g, s⟩⟩ (by simp) v Φ hΦ (fun M hM e' hs => .gon hg hs (h M hM e' hs)) (by
  rw [show without (⟨i, ds, rs, ⟨d, g, s⟩⟩ :: r) i = r from without_head (x := ⟨i, ds, rs, ⟨d, g, s⟩⟩) (by simp only [dist, Bool.and_eq_true] at hd; exact hd.1)]
  exact k)
theorem Ev.ldH {x : X} {n b off : Nat} {ag : Bool} {vs : List Value} {v : Value} (hd : dist (⟨i, ds, rs, ⟨d, g, .ld x n ag⟩⟩ :: r) = true) (hg : gon (e.only rs) g = true) (hx : x.get (e.only rs) = some (.pointer (some ⟨b, off, none⟩))) (hh : Has L b off vs) (hv : ldv n ag vs = some v)
  (k : Ev P N Kf r ((i, fun M => Has M b off vs) :: ms) (e.put d v) L) : Ev P N Kf (⟨i, ds, rs, ⟨d, g, .ld x n ag⟩⟩ :: r) ms e L :=
 .lookH (fun M => Has M b off vs) hd hg hh (fun M hM e' hs K k => Sx.ld (X.get_sub hx hs) hM hv (Sx.nil k)) k
theorem Ev.ldbH {x : X} {b off : Nat} {T : TypeId} {cs : List Value} {v : Value} [t : Take L (some ⟨b, 0, none⟩) (Blk T cs) F] (hd : dist (⟨i, ds, rs, ⟨d, g, .ld x 1 false⟩⟩ :: r) = true) (hg : gon (e.only rs) g = true) (hx : x.get (e.only rs) = some (.pointer (some ⟨b, off, none⟩)))
  (hv : cs[off]? = some v) (k : Ev P N Kf r ((i, fun M => Has M b off [v]) :: ms) (e.put d v) L) : Ev P N Kf (⟨i, ds, rs, ⟨d, g, .ld x 1 false⟩⟩ :: r) ms e L :=
 .ldH hd hg hx ((Has.blk (T := T) (cs := cs) (n := 1)).one (take_one hv)) rfl k
theorem Ev.ldrH {x : X} {b off E sz n cap : Nat} {xs : List Value} {v : Value} [t : Take L (some ⟨b, 0, none⟩) (Row E sz n cap xs) F] (hd : dist (⟨i, ds, rs, ⟨d, g, .ld x 1 false⟩⟩ :: r) = true) (hg : gon (e.only rs) g = true) (hx : x.get (e.only rs) = some (.pointer (some ⟨b, off, none⟩)))
  (hv : xs[off]? = some v) (k : Ev P N Kf r ((i, fun M => Has M b off [v]) :: ms) (e.put d v) L) : Ev P N Kf (⟨i, ds, rs, ⟨d, g, .ld x 1 false⟩⟩ :: r) ms e L :=
 .ldH hd hg hx ((Has.row (E := E) (sz := sz) (n := n) (cap := cap) (xs := xs) (m := 1)).one (take_one hv)) rfl k
theorem Ev.ldbsH {x : X} {b off n : Nat} {T : TypeId} {cs : List Value} [t : Take L (some ⟨b, 0, none⟩) (Blk T cs) F] (hd : dist (⟨i, ds, rs, ⟨d, g, .ld x n true⟩⟩ :: r) = true) (hg : gon (e.only rs) g = true) (hx : x.get (e.only rs) = some (.pointer (some ⟨b, off, none⟩)))
  (hn : Nat.ble (off + n) cs.length = true) (k : Ev P N Kf r ((i, fun M => Has M b off ((cs.drop off).take n)) :: ms) (e.put d (.agg ((cs.drop off).take n).toArray)) L) : Ev P N Kf (⟨i, ds, rs, ⟨d, g, .ld x n true⟩⟩ :: r) ms e L := by
 refine .ldH hd hg hx (Has.blk (T := T) (cs := cs) (n := n)) ?_ k
 have h1 := Nat.le_of_ble_eq_true hn
 have h2 : ((cs.drop off).take n).length = n := by simp; omega
 simp [ldv, h2]
theorem Ev.pvH {s : S} {φ : Prop} {v : Value} (hd : dist (⟨i, ds, rs, ⟨d, g, s⟩⟩ :: r) = true) (hg : gon (e.only rs) g = true) (hp : Proofs.YtflalhdofhobmaaGreat.pv (e.only rs) s = some (φ, v)) (hφ : φ) (k : Ev P N Kf r ms (e.put d v) L) :
  Ev P N Kf (⟨i, ds, rs, ⟨d, g, s⟩⟩ :: r) ms e L :=
 .free ⟨i, ds, rs, ⟨d, g, s⟩⟩ (by simp) v (fun L e' hs => .gon hg hs (.pv hp hφ hs)) (by
  rw [without_head (x := ⟨i, ds, rs, ⟨d, g, s⟩⟩) (by simp only [dist, Bool.and_eq_true] at hd; exact hd.1)]
  exact k)
theorem Ev.cakH {f : FuncId} {xs : List X} {vs : List Value} {v : Value} (hd : dist (⟨i, ds, rs, ⟨d, g, .ca f xs⟩⟩ :: r) = true) (hg : gon (e.only rs) g = true) (hx : gets (e.only rs) xs = some vs) (hf : Fx P f vs L (fun v' L' => v' = v ∧ L = L'))
  (k : Ev P N Kf r ((i, fun M => Fx P f vs M (fun v' L' => v' = v ∧ M = L')) :: ms) (e.put d v) L) : Ev P N Kf (⟨i, ds, rs, ⟨d, g, .ca f xs⟩⟩ :: r) ms e L :=
 .lookH (fun M => Fx P f vs M (fun v' L' => v' = v ∧ M = L')) hd hg hf (fun M hM e' hs K k => Sx.ca (gets_sub hs hx) hM fun v' L' h => by
  obtain ⟨rfl, rfl⟩ := h
  exact Sx.nil k) k
theorem Se.gon {T e' : En} {s : S} {R : Value → St → Prop} (hg : Proofs.YtflalhdofhobmaaGreat.gon T g = true) (hs : sub T e') (h : Se P N ⟨d, none, s⟩ e' L R) : Se P N ⟨d, g, s⟩ e' L R := by
 unfold Proofs.YtflalhdofhobmaaGreat.gon at hg
 split at hg
 ·exact h
 ·rename_i t b
  split at hg
  ·rename_i c hc
   have hcb : c = b := by simpa using hg
   subst hcb
   exact fun K k => Sx.on (hs _ _ hc) (h K k)
  ·cases hg
def lastly (i : Nat) (r : List It) : Bool := r.all fun y => !(Nat.beq y.i i) && bit y.ds i
theorem lastly_all {i : Nat} {r : List It} (h : lastly i r = true) : r.all (fun y => bit y.ds i) = true ∧ r.all (fun y => !(Nat.beq y.i i)) = true := by
 simp only [lastly, Bool.and_eq_true, List.all_eq_true] at h ⊢
 exact ⟨fun y hy => (h y hy).2, fun y hy => (h y hy).1⟩
inductive Pres (ds : Nat) (R : Value → St → Prop) : List (Nat × (St → Prop)) → Prop
 | nil : Pres ds R []
 | dep {m : Nat} {Φ : St → Prop} {l : List (Nat × (St → Prop))} (h : bit ds m = true) (k : Pres ds R l) : Pres ds R ((m, Φ) :: l)
 | keep {m : Nat} {Φ : St → Prop} {l : List (Nat × (St → Prop))} (h : ∀ v L', R v L' → Φ L') (k : Pres ds R l) : Pres ds R ((m, Φ) :: l)
theorem Pres.all {ds : Nat} {R : Value → St → Prop} {ms : List (Nat × (St → Prop))} (h : Pres ds R ms) : ∀ q ∈ ms, bit ds q.1 = true ∨ ∀ v L', R v L' → q.2 L' := by
 induction h with
 | nil => intro q hq; cases hq
 | dep h k ih =>
   intro q hq
   rcases List.mem_cons.1 hq with rfl | hq
   ·exact .inl h
   ·exact ih q hq
 | keep h k ih =>
   intro q hq
   rcases List.mem_cons.1 hq with rfl | hq
   ·exact .inr h
   ·exact ih q hq
theorem Pres.deps {ds : Nat} {R : Value → St → Prop} : ∀ {ms : List (Nat × (St → Prop))}, (ms.all fun q => bit ds q.1) = true → Pres ds R ms
 | [], _ => .nil
 | q :: l, h => by
   simp only [List.all_cons, Bool.and_eq_true] at h
   exact .dep h.1 (Pres.deps h.2)
theorem Ev.genH {s : S} {R : Value → St → Prop} (hd : lastly i r = true) (hp : Pres ds R ms) (hg : gon (e.only rs) g = true) (h : ∀ e', sub (e.only rs) e' → Se P N ⟨d, none, s⟩ e' L R)
  (k : ∀ v L', R v L' → Ev P N Kf r ms (e.put d v) L') : Ev P N Kf (⟨i, ds, rs, ⟨d, g, s⟩⟩ :: r) ms e L := by
 have hw := without_head (x := ⟨i, ds, rs, ⟨d, g, s⟩⟩) (lastly_all hd).2
 refine .turns ⟨i, ds, rs, ⟨d, g, s⟩⟩ (by simp) R ?_ hp.all (fun e' hs => .gon hg hs (h e' hs)) fun v L' hR => ?_
 ·rw [show without (_ :: r) i = r from hw]; exact (lastly_all hd).1
 ·rw [show without (_ :: r) i = r from hw]; exact k v L' hR
theorem Ev.caH {f : FuncId} {xs : List X} {vs : List Value} {R : Value → St → Prop} (hd : lastly i r = true) (hg : gon (e.only rs) g = true) (hx : gets (e.only rs) xs = some vs) (hf : Fx P f vs L R) (hp : Pres ds R ms)
  (k : ∀ v L', R v L' → Ev P N Kf r ms (e.put d v) L') : Ev P N Kf (⟨i, ds, rs, ⟨d, g, .ca f xs⟩⟩ :: r) ms e L :=
 .genH hd hp hg (fun e' hs K kk => Sx.ca (gets_sub hs hx) hf fun v' L' h => Sx.nil (kk v' L' h)) k
theorem Ev.apH {T E sz by_ : Nat} {z : List Value} {x y : X} {ra ya : Option Addr} {n cap m c : Nat} {xs ys : List Value} [t : Take L ra (Row E sz n cap xs) F] (hd : lastly i r = true) (hg : gon (e.only rs) g = true)
  (hx : x.get (e.only rs) = some (.slice ra n cap)) (hy : y.get (e.only rs) = some (.slice ya m c)) (hr : Rd L sz ya m ys) (h1 : ones ys = true) (hm : n + m ≤ maxLen) (hb : (n + m) * by_ ≤ 140737488355328)
  (hp : Pres ds (fun v L' => ∃ ra' cap', n + m ≤ cap' ∧ (n + m = 0 ∨ ∃ g, ra' = some ⟨g, 0, none⟩) ∧ v = .slice ra' (n + m) cap' ∧ L' = pt ra' (Row E sz (n + m) cap' (xs ++ ys)) :: F) ms)
  (k : ∀ ra' cap', n + m ≤ cap' → (n + m = 0 ∨ ∃ g, ra' = some ⟨g, 0, none⟩) → Ev P N Kf r ms (e.put d (.slice ra' (n + m) cap')) (pt ra' (Row E sz (n + m) cap' (xs ++ ys)) :: F)) : Ev P N Kf (⟨i, ds, rs, ⟨d, g, .ap T E sz by_ z x y⟩⟩ :: r) ms e L :=
 .genH hd hp hg (fun e' hs K kk => Sx.ap (t := t) (X.get_sub hx hs) (X.get_sub hy hs) hr h1 hm hb fun ra' cap' hc => Sx.rowkey (a := ra') fun _ _ _ hk => Sx.nil (kk _ _ ⟨ra', cap', hc, hk.imp (fun h => h.2.1) id, rfl, rfl⟩))
  (fun v L' ⟨ra', cap', hc, hk, e1, e2⟩ => by subst e1; subst e2; exact k ra' cap' hc hk)
theorem fills_sub {T e' : En} (hs : sub T e') : ∀ {ps : List (Nat × Nat × X)} {z cs : List Value}, fills T z ps = some cs → fills e' z ps = some cs
 | [], _, _, h => h
 | (off, sz, x) :: l, z, cs, h => by
   unfold fills at h ⊢
   split at h
   ·rename_i v hv
    rw [X.get_sub hv hs]
    split at h
    ·rename_i vs hvs
     simp only [hvs]
     cases hb : (Nat.beq vs.length sz && Nat.ble (off + sz) z.length) with
     | true => rw [hb, cond_true] at h; rw [cond_true]; exact fills_sub hs h
     | false => rw [hb, cond_false] at h; cases h
    ·cases h
   ·cases h
theorem Ev.bsH {E len : Nat} {z : List Value} {ps : List (Nat × Nat × X)} {cs : List Value} (hd : lastly i r = true) (hg : gon (e.only rs) g = true) (hf : fills (e.only rs) z ps = some cs) (hl : z.length = len * sz)
  (hp : Pres ds (fun v L' => ∃ q, v = .slice (some ⟨q, 0, none⟩) len len ∧ L' = pt (some ⟨q, 0, none⟩) (Row E sz len len cs) :: L) ms)
  (k : ∀ q, Ev P N Kf r ms (e.put d (.slice (some ⟨q, 0, none⟩) len len)) (pt (some ⟨q, 0, none⟩) (Row E sz len len cs) :: L)) : Ev P N Kf (⟨i, ds, rs, ⟨d, g, .bs E len z ps⟩⟩ :: r) ms e L :=
 .genH hd hp hg (fun e' hs K kk => Sx.bs (sz := sz) (fills_sub hs hf) hl fun q => Sx.nil (kk _ _ ⟨q, rfl, rfl⟩))
  (fun v L' ⟨q, e1, e2⟩ => by subst e1; subst e2; exact k q)
theorem Ev.bxH {E : TypeId} {x : X} {u : Value} {vs : List Value} (hd : lastly i r = true) (hg : gon (e.only rs) g = true) (hx : x.get (e.only rs) = some u) (hu : cellsOf u = some vs)
  (hp : Pres ds (fun v L' => ∃ q, v = .pointer (some ⟨q, 0, none⟩) ∧ L' = pt (some ⟨q, 0, none⟩) (Blk E vs) :: L) ms)
  (k : ∀ q, Ev P N Kf r ms (e.put d (.pointer (some ⟨q, 0, none⟩))) (pt (some ⟨q, 0, none⟩) (Blk E vs) :: L)) : Ev P N Kf (⟨i, ds, rs, ⟨d, g, .bx E x⟩⟩ :: r) ms e L :=
 .genH hd hp hg (fun e' hs K kk => Sx.bx (X.get_sub hx hs) hu fun q => Sx.nil (kk _ _ ⟨q, rfl, rfl⟩))
  (fun v L' ⟨q, e1, e2⟩ => by subst e1; subst e2; exact k q)
theorem Ev.stbH {x v : X} {b off : Nat} {T : TypeId} {cs ds' : List Value} {u : Value} [t : Take L (some ⟨b, 0, none⟩) (Blk T cs) F] (hd : lastly i r = true) (hg : gon (e.only rs) g = true)
  (hx : x.get (e.only rs) = some (.pointer (some ⟨b, off, none⟩))) (hv : v.get (e.only rs) = some u) (hu : cellsOf u = some [u]) (h1 : u.oneCell' = true) (hl : Nat.blt off cs.length = true) (hds : cs.set off u = ds')
  (hp : Pres ds (fun v L' => v = undef ∧ L' = pt (some ⟨b, 0, none⟩) (Blk T ds') :: F) ms)
  (k : Ev P N Kf r ms (e.put d undef) (pt (some ⟨b, 0, none⟩) (Blk T ds') :: F)) : Ev P N Kf (⟨i, ds, rs, ⟨d, g, .st x v 1⟩⟩ :: r) ms e L :=
 .genH hd hp hg (fun e' hs K kk => Sx.stb (t := t) (X.get_sub hx hs) (X.get_sub hv hs) hu h1 hl hds (Sx.nil (kk _ _ ⟨rfl, rfl⟩)))
  (fun v L' ⟨e1, e2⟩ => by subst e1; subst e2; exact k)
end
end
abbrev Ze0 := @Ev.pass
abbrev Ze1 := @Ev.stpH
abbrev Ze2 := @Ev.done
abbrev Ze3 := @Ev.fin
abbrev Ze4 := @Ev.ldbH
abbrev Ze5 := @Ev.ldbsH
theorem ge {A B : Prop} (k : B) (h : Wrap B → A := by intro r; (repeat (first|refine Ze0 0 rfl kr_ ?_|refine Ze1 kr_ rfl rfl ?_|refine Ze2 ?_|refine Ze3 ?_|refine Ze4 kr_ rfl rfl (by rfl) ?_|refine Ze5 kr_ rfl rfl rfl ?_|refine Ev.pvH kr_ rfl rfl ⟨by omega, by omega⟩ ?_|refine Ev.pvH kr_ rfl rfl (by decide) ?_|fail)); exact r.out) : A := h ⟨k⟩
end Go.Proofs.YtflalhdofhobmaaGreat


namespace Go.Proofs.YtflalhdofhobmaaGreat
open Go
attribute [local irreducible] Sx Cx Rx Fx Krg Ksq Kbl Klp Kr
abbrev wd (n : Nat) : Value := .int .u64 (n : Int)
theorem bv64 (a : Nat) : BitVec.ofInt 64 (a : Int) = BitVec.ofNat 64 a := by
 apply BitVec.eq_of_toNat_eq
 simp [BitVec.toNat_ofInt]
theorem wrap64 {n : Nat} (h : n < 18446744073709551616) : IntKind.u64.wrap (n : Int) = (n : Int) := wu64 (by omega) (by omega)
theorem and64 (a b : Nat) (ha : a < 18446744073709551616) (hb : b < 18446744073709551616) : bitsOf .and .u64 a b = ((a &&& b : Nat) : Int) := by
 show IntKind.u64.wrap (((BitVec.ofInt 64 (a : Int) &&& BitVec.ofInt 64 (b : Int)).toNat : Nat) : Int) = _
 rw [bv64, bv64, BitVec.toNat_and, BitVec.toNat_ofNat, BitVec.toNat_ofNat, Nat.mod_eq_of_lt ha, Nat.mod_eq_of_lt hb]
 exact wrap64 (Nat.lt_of_le_of_lt Nat.and_le_left ha)
theorem or64 (a b : Nat) (ha : a < 18446744073709551616) (hb : b < 18446744073709551616) : bitsOf .or .u64 a b = ((a ||| b : Nat) : Int) := by
 show IntKind.u64.wrap (((BitVec.ofInt 64 (a : Int) ||| BitVec.ofInt 64 (b : Int)).toNat : Nat) : Int) = _
 rw [bv64, bv64, BitVec.toNat_or, BitVec.toNat_ofNat, BitVec.toNat_ofNat, Nat.mod_eq_of_lt ha, Nat.mod_eq_of_lt hb]
 exact wrap64 (Nat.or_lt_two_pow (n := 64) ha hb)
theorem andNot64 (a b c : Nat) (hc : c < 18446744073709551616) (h : ∀ i, i < 64 → c.testBit i = (a.testBit i && !b.testBit i)) : bitsOf .andNot .u64 a b = (c : Int) := by
 show IntKind.u64.wrap (((BitVec.ofInt 64 (a : Int) &&& ~~~(BitVec.ofInt 64 (b : Int))).toNat : Nat) : Int) = _
 have e : BitVec.ofNat 64 a &&& ~~~(BitVec.ofNat 64 b) = BitVec.ofNat 64 c := by
  apply BitVec.eq_of_getLsbD_eq
  intro i hi
  rw [BitVec.getLsbD_and, BitVec.getLsbD_not, BitVec.getLsbD_ofNat, BitVec.getLsbD_ofNat, BitVec.getLsbD_ofNat, h i hi]
  simp [hi]
 rw [bv64, bv64, e, BitVec.toNat_ofNat, Nat.mod_eq_of_lt hc]
 exact wrap64 hc
theorem pow64 {a : Nat} (h : a ≤ 63) : (2 : Nat) ^ a < 18446744073709551616 := Nat.lt_of_le_of_lt (Nat.pow_le_pow_right (by omega) h) (by decide)
section
variable {L F : St}
theorem bitsField (a w : Nat) (h : a + w ≤ 64) : Fx Tryz.prog 225 [.int .i64 a, .int .i64 w] L (fun v L' => v = .bool true ∧ L = L') := by
 refine Fx.mk Tryz.func225 k225 nb_ ?_
 dsimp only [c225, envOf, Nat.reduceAdd]
 refine go ?_
 iterate 3 (try (refine Sx.gyes rfl (decide_eq_true (by omega)) ?_; refine go ?_))
 rw [w64 (n := 64 - (w : Int)) (by omega) (by omega), decide_eq_true (show (a : Int) ≤ 64 - w by omega)]
 exact Kr.one (.inr rfl) rfl (Ent.refl _) ⟨rfl, rfl⟩
theorem bitsMask (w : Nat) (h : w ≤ 63) : Fx Tryz.prog 226 [.int .i64 w] L (fun v L' => v = wd (2 ^ w - 1) ∧ L = L') := by
 refine Fx.mk Tryz.func226 k226 nb_ ?_
 dsimp only [c226, envOf, Nat.reduceAdd]
 have hp := pow64 h
 have h1 : 1 ≤ 2 ^ w := Nat.one_le_two_pow
 refine go ?_
 have e1 : (bif true then (if (w : Int) < 0 then (0 : Int) else (w : Int)) else (if (0 : Int) < (w : Int) then (0 : Int) else (w : Int))) = w := by
  rw [cond_true, if_neg (by omega)]
 have e2 : (bif false then (if (w : Int) < 64 then (64 : Int) else (w : Int)) else (if (64 : Int) < (w : Int) then (64 : Int) else (w : Int))) = w := by
  rw [cond_false, if_neg (by omega)]
 rw [e1, e2]
 refine Sx.pv rfl (by omega) ?_
 have e3 : min (w : Int).toNat IntKind.u64.bits = w := by rw [Int.toNat_natCast]; exact Nat.min_eq_left (by show w ≤ 64; omega)
 rw [e3, show (1 : Int) * 2 ^ w = ((2 ^ w : Nat) : Int) by push_cast; omega, wrap64 hp]
 refine go ?_
 rw [show ((2 ^ w : Nat) : Int) - 1 = ((2 ^ w - 1 : Nat) : Int) by omega, wrap64 (by omega)]
 exact Kr.one (.inr rfl) rfl (Ent.refl _) ⟨rfl, rfl⟩
theorem bitsGet (x a w : Nat) (hx : x < 18446744073709551616) (h : a + w ≤ 64) (hw : w ≤ 63) : Fx Tryz.prog 170 [wd x, .int .i64 a, .int .i64 w] L (fun v L' => v = wd (x / 2 ^ a % 2 ^ w) ∧ L = L') := by
 refine Fx.mk Tryz.func170 k170 nb_ ?_
 dsimp only [c170, envOf, Nat.reduceAdd]
 have hp := pow64 hw
 have h1 : 1 ≤ 2 ^ w := Nat.one_le_two_pow
 refine go ?_
 refine Sx.ca rfl (bitsField a w h) ?_
 rintro v L' ⟨rfl, rfl⟩
 refine go ?_
 refine Cx.ordc rfl kr_ ?_
 repeat' (first|refine Ze0 0 rfl kr_ ?_|refine Ze1 kr_ rfl rfl ?_|refine Ze2 ?_|refine Ze3 ?_|refine Ze4 kr_ rfl rfl (by rfl) ?_|refine Ze5 kr_ rfl rfl rfl ?_)
 refine Ev.pvH kr_ rfl rfl (by omega) ?_
 have e3 : min (a : Int).toNat IntKind.u64.bits = a := by rw [Int.toNat_natCast]; exact Nat.min_eq_left (by show a ≤ 64; omega)
 have e4 : (x : Int).fdiv (2 ^ a) = ((x / 2 ^ a : Nat) : Int) := by
  rw [show (2 : Int) ^ a = ((2 ^ a : Nat) : Int) by push_cast; rfl, Int.fdiv_eq_ediv_of_nonneg _ (Int.natCast_nonneg _)]; rfl
 rw [e3, e4]
 repeat' (first|refine Ze0 0 rfl kr_ ?_|refine Ze1 kr_ rfl rfl ?_|refine Ze2 ?_|refine Ze3 ?_|refine Ze4 kr_ rfl rfl (by rfl) ?_|refine Ze5 kr_ rfl rfl rfl ?_)
 refine Ev.cakH kr_ rfl rfl (bitsMask w hw) ?_
 repeat' (first|refine Ze0 0 rfl kr_ ?_|refine Ze1 kr_ rfl rfl ?_|refine Ze2 ?_|refine Ze3 ?_|refine Ze4 kr_ rfl rfl (by rfl) ?_|refine Ze5 kr_ rfl rfl rfl ?_)
 rw [and64 _ _ (Nat.lt_of_le_of_lt (Nat.div_le_self _ _) hx) (by omega), Nat.and_two_pow_sub_one_eq_mod]
 refine go ?_
 exact Kr.one (.inr rfl) rfl (Ent.refl _) ⟨rfl, rfl⟩
theorem bitsFits (x w : Nat) (hx : x < 2 ^ w) (hw : w ≤ 63) : Fx Tryz.prog 260 [wd x, .int .i64 w] L (fun v L' => v = .bool true ∧ L = L') := by
 refine Fx.mk Tryz.func260 k260 nb_ ?_
 dsimp only [c260, envOf, Nat.reduceAdd]
 refine go ?_
 refine Sx.ca rfl (bitsMask w hw) ?_
 rintro v L' ⟨rfl, rfl⟩
 refine go ?_
 rw [andNot64 x (2 ^ w - 1) 0 (by omega) (fun i hi => by
  rw [Nat.zero_testBit, Nat.testBit_two_pow_sub_one]
  by_cases hiw : i < w
  ·simp [hiw]
  ·rw [Nat.testBit_lt_two_pow (Nat.lt_of_lt_of_le hx (Nat.pow_le_pow_right (by omega) (by omega)))]; rfl)]
 exact Kr.one (.inr rfl) rfl (Ent.refl _) ⟨rfl, rfl⟩
theorem bitsPut (x a w y : Nat) (hx : x < 2 ^ a) (hy : y < 2 ^ w) (h : a + w ≤ 64) (hw : w ≤ 63) : Fx Tryz.prog 244 [wd x, .int .i64 a, .int .i64 w, wd y] L (fun v L' => v = .tuple #[wd (y * 2 ^ a + x), .bool true] ∧ L = L') := by
 have hp := pow64 hw
 have h1 : 1 ≤ 2 ^ w := Nat.one_le_two_pow
 have hb : 2 ^ w * 2 ^ a ≤ 18446744073709551616 := by rw [← Nat.pow_add, Nat.add_comm]; exact Nat.pow_le_pow_right (n := 2) (i := a + w) (j := 64) (by omega) h
 have h2 : 1 ≤ 2 ^ a := Nat.one_le_two_pow
 have hmx : (2 ^ w - 1) * 2 ^ a + 2 ^ a = 2 ^ w * 2 ^ a := by rw [← Nat.succ_mul]; congr 1; omega
 have hyx : y * 2 ^ a + 2 ^ a ≤ 2 ^ w * 2 ^ a := by rw [← Nat.succ_mul]; exact Nat.mul_le_mul_right _ hy
 refine Fx.mk Tryz.func244 k244 nb_ ?_
 dsimp only [c244, envOf, Nat.reduceAdd]
 refine go ?_
 refine Sx.ca rfl (bitsField a w h) ?_
 rintro v L' ⟨rfl, rfl⟩
 refine go ?_
 refine Sx.ca rfl (bitsFits y w hy hw) ?_
 rintro v L' ⟨rfl, rfl⟩
 refine go ?_
 refine Cx.ordc rfl kr_ ?_
 repeat' (first|refine Ze0 0 rfl kr_ ?_|refine Ze1 kr_ rfl rfl ?_|refine Ze2 ?_|refine Ze3 ?_|refine Ze4 kr_ rfl rfl (by rfl) ?_|refine Ze5 kr_ rfl rfl rfl ?_)
 refine Ev.cakH kr_ rfl rfl (bitsMask w hw) ?_
 have e3 : min (a : Int).toNat IntKind.u64.bits = a := by rw [Int.toNat_natCast]; exact Nat.min_eq_left (by show a ≤ 64; omega)
 repeat' (first|refine Ze0 0 rfl kr_ ?_|refine Ze1 kr_ rfl rfl ?_|refine Ze2 ?_|refine Ze3 ?_|refine Ze4 kr_ rfl rfl (by rfl) ?_|refine Ze5 kr_ rfl rfl rfl ?_)
 refine Ev.pvH kr_ rfl rfl (by omega) ?_
 rw [e3, show ((2 ^ w - 1 : Nat) : Int) * 2 ^ a = (((2 ^ w - 1) * 2 ^ a : Nat) : Int) by push_cast; rfl, wrap64 (by omega)]
 repeat' (first|refine Ze0 0 rfl kr_ ?_|refine Ze1 kr_ rfl rfl ?_|refine Ze2 ?_|refine Ze3 ?_|refine Ze4 kr_ rfl rfl (by rfl) ?_|refine Ze5 kr_ rfl rfl rfl ?_)
 refine Ev.pvH kr_ rfl rfl (by omega) ?_
 rw [e3, show (y : Int) * 2 ^ a = ((y * 2 ^ a : Nat) : Int) by push_cast; rfl, wrap64 (by omega)]
 rw [andNot64 x ((2 ^ w - 1) * 2 ^ a) x (by omega) (fun i hi => by
  rw [Nat.mul_comm, Nat.testBit_two_pow_mul]
  by_cases hia : i < a
  ·simp [show ¬ a ≤ i by omega]
  ·rw [Nat.testBit_lt_two_pow (Nat.lt_of_lt_of_le hx (Nat.pow_le_pow_right (by omega) (by omega)))]; rfl)]
 repeat' (first|refine Ze0 0 rfl kr_ ?_|refine Ze1 kr_ rfl rfl ?_|refine Ze2 ?_|refine Ze3 ?_|refine Ze4 kr_ rfl rfl (by rfl) ?_|refine Ze5 kr_ rfl rfl rfl ?_)
 rw [or64 _ _ (by omega) (by omega)]
 have e5 : x ||| y * 2 ^ a = y * 2 ^ a + x := by
  rw [Nat.or_comm, Nat.mul_comm y, Nat.two_pow_add_eq_or_of_lt hx y]
 rw [e5]
 refine go ?_
 exact Kr.two (.inr rfl) rfl rfl (Ent.refl _) ⟨rfl, rfl⟩
end
end Go.Proofs.YtflalhdofhobmaaGreat


namespace Go.Proofs.YtflalhdofhobmaaGreat
open Go
attribute [local irreducible] Sx Cx Rx Fx Krg Ksq Kbl Klp Kr
section
variable {L F : St}
theorem wordWithin (n a b : Int) (h1 : a ≤ n) (h2 : n ≤ b) : Fx Tryz.prog 243 [.int .i64 n, .int .i64 a, .int .i64 b] L (fun v L' => v = .bool true ∧ L = L') := by
 refine Fx.mk Tryz.func243 k243 nb_ ?_
 dsimp only [c243, envOf, Nat.reduceAdd]
 refine go ?_
 refine Sx.gyes rfl (decide_eq_true (by omega)) ?_
 refine go ?_
 rw [decide_eq_true h2]
 exact Kr.one (.inr rfl) rfl (Ent.refl _) ⟨rfl, rfl⟩
theorem wordWithout (n a b : Int) (h1 : a ≤ n) (h2 : ¬ n ≤ b) : Fx Tryz.prog 243 [.int .i64 n, .int .i64 a, .int .i64 b] L (fun v L' => v = .bool false ∧ L = L') := by
 refine Fx.mk Tryz.func243 k243 nb_ ?_
 dsimp only [c243, envOf, Nat.reduceAdd]
 refine go ?_
 refine Sx.gyes rfl (decide_eq_true (by omega)) ?_
 refine go ?_
 rw [decide_eq_false h2]
 exact Kr.one (.inr rfl) rfl (Ent.refl _) ⟨rfl, rfl⟩
abbrev hdV (i : Int) (t : Nat) : Value := .agg #[.int .i64 i, .int .i64 (t : Int)]
theorem getHead (w : Nat) (hw : w < 18446744073709551616) : Fx Tryz.prog 171 [wd w] L (fun v L' => v = hdV (hdI w) (hdT w) ∧ L = L') := by
 refine Fx.mk Tryz.func171 k171 nb_ ?_
 dsimp only [c171, envOf, Nat.reduceAdd]
 refine Cx.sq ?_
 refine Cx.rg ?_
 refine Sx.al fun g => ?_
 refine go ?_
 refine Sx.ca rfl (bitsGet w 0 32 hw (by omega) (by omega)) ?_
 rintro v L' ⟨rfl, rfl⟩
 rw [Nat.pow_zero, Nat.div_one]
 refine go ?_
 refine Sx.ca rfl (bitsGet w 32 32 hw (by omega) (by omega)) ?_
 rintro v L' ⟨rfl, rfl⟩
 refine go ?_
 have h1 : w % 2 ^ 32 < 4294967296 := Nat.mod_lt _ (by omega)
 have h2 : w / 2 ^ 32 % 2 ^ 32 = hdT w := by unfold hdT; omega
 have h3 := hdT_lt hw
 rw [h2, w64 (n := ((w % 2 ^ 32 : Nat) : Int)) (by omega) (by omega), w64 (n := ((w % 2 ^ 32 : Nat) : Int) - 1) (by omega) (by omega), w64 (n := (hdT w : Int)) (by omega) (by omega)]
 refine Sx.st (b := g) rfl rfl rfl rfl rfl rfl ?_
 dsimp only [lay]
 refine go ?_
 exact Kr_cell (b := g) (.inr rfl) rfl rfl (L' := L) Ent.drop ⟨rfl, rfl⟩
theorem putHead (i : Int) (t : Nat) (h1 : -1 ≤ i) (h2 : i < 4294967295) (ht : t < 4294967296) : Fx Tryz.prog 203 [hdV i t] L (fun v L' => v = .tuple #[wd (t * 4294967296 + (i + 1).toNat), .bool true] ∧ L = L') := by
 refine Fx.mk Tryz.func203 k203 nb_ ?_
 dsimp only [c203, envOf, Nat.reduceAdd]
 refine Cx.sq ?_
 refine Cx.rg ?_
 refine Sx.bx rfl rfl fun g => ?_
 refine go ?_
 refine Sx.ca rfl (wordWithin _ _ _ (by omega) (by omega)) ?_
 rintro v L' ⟨rfl, rfl⟩
 refine go ?_
 refine Sx.ca rfl (wordWithin _ _ _ (by omega) (by omega)) ?_
 rintro v L' ⟨rfl, rfl⟩
 refine go ?_
 rw [w64 (n := i + 1) (by omega) (by omega), show i + 1 = (((i + 1).toNat : Nat) : Int) by omega, wrap64 (by omega)]
 refine Sx.ca rfl (bitsPut 0 0 32 (i + 1).toNat (by omega) (by omega) (by omega) (by omega)) ?_
 rintro v L' ⟨rfl, rfl⟩
 rw [Nat.pow_zero, Nat.mul_one, Nat.add_zero]
 refine go ?_
 rw [wrap64 (by omega)]
 refine Sx.ca rfl (bitsPut (i + 1).toNat 32 32 t (by omega) (by omega) (by omega) (by omega)) ?_
 rintro v L' ⟨rfl, rfl⟩
 refine go ?_
 exact Kr.two (.inr rfl) rfl rfl Ent.drop ⟨rfl, rfl⟩
theorem wordNext (i j : Int) (t : Nat) (ht : t < 4294967296) : Fx Tryz.prog 271 [hdV i t, .int .i64 j] L (fun v L' => v = hdV j (laterT t) ∧ L = L') := by
 refine Fx.mk Tryz.func271 k271 nb_ ?_
 dsimp only [c271, envOf, Nat.reduceAdd]
 refine Cx.sq ?_
 refine Cx.rg ?_
 refine Sx.bx rfl rfl fun g => ?_
 refine go ?_
 refine Sx.al fun q => ?_
 refine go ?_
 by_cases h : t < 4294967295
 ·refine Sx.ca rfl (wordWithin _ _ _ (by omega) (by omega)) ?_
  rintro v L' ⟨rfl, rfl⟩
  refine go ?_
  rw [w64 (n := (t : Int) + 1) (by omega) (by omega)]
  refine Sx.st (b := q) rfl rfl rfl rfl rfl rfl ?_
  dsimp only [lay]
  refine go ?_
  refine Kr_cell (b := q) (.inr rfl) rfl rfl (L' := L) (Ent.trans Ent.drop Ent.drop) ⟨?_, rfl⟩
  unfold laterT
  rw [if_pos h]; rfl
 ·refine Sx.ca rfl (wordWithout _ _ _ (by omega) (by omega)) ?_
  rintro v L' ⟨rfl, rfl⟩
  refine go ?_
  refine Sx.st (b := q) rfl rfl rfl rfl rfl rfl ?_
  dsimp only [lay]
  refine go ?_
  refine Kr_cell (b := q) (.inr rfl) rfl rfl (L' := L) (Ent.trans Ent.drop Ent.drop) ⟨?_, rfl⟩
  unfold laterT
  rw [if_neg h]; rfl
end
end Go.Proofs.YtflalhdofhobmaaGreat


namespace Go.Proofs.YtflalhdofhobmaaGreat
open Go
attribute [local irreducible] Sx Cx Rx Fx Krg Ksq Kbl Klp Kr
def us (l : List Nat) : List Value := l.map wd
theorem length_us (l : List Nat) : (us l).length = l.length := by simp [us]
theorem us_get {l : List Nat} {i w : Nat} (h : l[i]? = some w) : (us l)[i]? = some (wd w) := by simp [us, h]
theorem us_set (l : List Nat) (i w : Nat) : (us l).set i (wd w) = us (l.set i w) := by simp [us, List.map_set]
theorem lay_one {cs : List Value} {off : Nat} {u : Value} (h : off < cs.length) : lay cs off [u] = cs.set off u := by
 have := lay_cons cs off u [] (by simp; omega)
 rw [← this, lay_nil]
theorem wrap_succ (n : Nat) : IntKind.i64.wrap (IntKind.i64.wrap (n : Int) + 1) = IntKind.i64.wrap ((n + 1 : Nat) : Int) := by
 have hw : ∀ x : Int, IntKind.i64.wrap x = if x % 18446744073709551616 ≥ 9223372036854775808 then x % 18446744073709551616 - 18446744073709551616 else x % 18446744073709551616 := fun x => by
  unfold IntKind.wrap
  simp only [IntKind.bits, IntKind.signed]
  simp
 rw [hw, hw, hw]
 push_cast
 (repeat' split) <;> omega
section
variable {L F : St}
def memL (T : TypeId) (m : Mm) (a : Option Addr) (y : (Option Addr × Nat) × (Value × Value × Value × Value × Value)) : St :=
 [lift (m.ok ∧ m.ws.length ≤ 8388608 ∧ ones [y.2.1, y.2.2.1, y.2.2.2.1, y.2.2.2.2.1, y.2.2.2.2.2] = true), pt a (Blk T [.slice y.1.1 m.ws.length y.1.2, .int .i64 (IntKind.i64.wrap (m.n : Int)), y.2.1, y.2.2.1, y.2.2.2.1, y.2.2.2.2.1, y.2.2.2.2.2]), pt y.1.1 (Row 56 1 m.ws.length y.1.2 (us m.ws))]
def MemT (T : TypeId) (m : Mm) (a : Option Addr) : As := exs (memL T m a)
abbrev MemO := MemT 139
theorem MemO.close {T : TypeId} {a r : Option Addr} {c n : Nat} {v x0 x1 x2 x3 x4 : Value} {w : List Value} {F G : St} (m : Mm) (hm : m.ok ∧ m.ws.length ≤ 8388608 ∧ ones [x0, x1, x2, x3, x4] = true) [t : Take L a (Blk T [.slice r n c, v, x0, x1, x2, x3, x4]) F] [u : Take F r (Row 56 1 n c w) G]
  (hv : v = .int .i64 (IntKind.i64.wrap (m.n : Int))) (hn : n = m.ws.length) (hw : w = us m.ws) : Ent L (pt a (MemT T m) :: G) := by
 subst hv; subst hn; subst hw
 refine Ent.trans (Ent.take1 (t := t) (Ent.of u.out)) ?_
 refine Ent.trans (Ent.lift hm (Ent.refl _)) ?_
 exact Ent.close (f := memL T m a) rfl ((r, c), (x0, x1, x2, x3, x4))
theorem cellsNew (n : Nat) (h1 : 1 ≤ n) (h2 : n ≤ 8388608) : Fx Tryz.prog 15 [.int .i64 n] L (fun v L' => ∃ g, v = .tuple #[.pointer (some ⟨g, 0, none⟩), .int .i64 0] ∧ L' = pt (some ⟨g, 0, none⟩) (MemO ⟨List.replicate n 0, 0⟩) :: L) := by
 refine Fx.mk Tryz.func15 k15 nb_ ?_
 dsimp only [c15, envOf, Nat.reduceAdd]
 refine go ?_
 refine Sx.gyes rfl (decide_eq_false (by omega)) ?_
 refine go ?_
 refine Cx.cno rfl (decide_eq_false (by omega)) ?_
 refine go ?_
 refine Sx.mk rfl rfl (by omega) (by omega) (by omega) (by omega) fun g => ?_
 refine go ?_
 refine Sx.bx rfl rfl fun q => ?_
 refine go ?_
 refine Kr.two (.inr rfl) rfl rfl ?_ ⟨q, rfl, rfl⟩
 have hu : us (List.replicate n 0) = List.replicate n (.int .u64 0) := by simp [us, wd]
 refine MemO.close (a := some ⟨q, 0, none⟩) (r := some ⟨g, 0, none⟩) ⟨List.replicate n 0, 0⟩ ⟨fun w hw => ?_, ?_, rfl⟩ rfl (by simp) ?_
 ·rw [List.eq_of_mem_replicate hw]; omega
 ·simpa using h2
 ·rw [hu, made_one]; simp
theorem cellsLen {b : Nat} {m : Mm} {F : St} [t : Take L (some ⟨b, 0, none⟩) (MemO m) F] : Fx Tryz.prog 137 [.pointer (some ⟨b, 0, none⟩)] L (fun v L' => v = .int .i64 m.ws.length ∧ L = L') := by
 refine Fx.kept (t := t) ?_
 refine Fx.mk Tryz.func137 k137 nb_ ?_
 dsimp only [c137, envOf, Nat.reduceAdd]
 refine Cx.openp (t := t) rfl ?_
 rintro ⟨⟨r, c⟩, ⟨x0, x1, x2, x3, x4⟩⟩
 simp only [memL, List.cons_append, List.nil_append]
 refine Cx.liftp fun hm => ?_
 refine go ?_
 exact Kr.one (.inr rfl) rfl (MemO.close (a := some ⟨b, 0, none⟩) (r := r) m hm rfl rfl rfl) ⟨rfl, rfl⟩
theorem cellsCount {b : Nat} {m : Mm} {F : St} [t : Take L (some ⟨b, 0, none⟩) (MemO m) F] (hn : m.n ≤ 1000000000000) : Fx Tryz.prog 116 [.pointer (some ⟨b, 0, none⟩)] L (fun v L' => v = .int .i64 m.n ∧ L = L') := by
 refine Fx.kept (t := t) ?_
 refine Fx.mk Tryz.func116 k116 nb_ ?_
 dsimp only [c116, envOf, Nat.reduceAdd]
 refine Cx.openp (t := t) rfl ?_
 rintro ⟨⟨r, c⟩, ⟨x0, x1, x2, x3, x4⟩⟩
 simp only [memL, List.cons_append, List.nil_append]
 refine Cx.liftp fun hm => ?_
 refine go ?_
 exact Kr.one (.inr rfl) rfl (MemO.close (a := some ⟨b, 0, none⟩) (r := r) m hm rfl rfl rfl) ⟨congrArg (Value.int .i64) (w64 (by omega) (by omega)), rfl⟩
theorem cellsIs {b : Nat} {m : Mm} {F : St} (i : Int) [t : Take L (some ⟨b, 0, none⟩) (MemO m) F] : Fx Tryz.prog 81 [.pointer (some ⟨b, 0, none⟩), .int .i64 i] L (fun v L' => v = .bool (decide (0 ≤ i ∧ i < m.ws.length)) ∧ L = L') := by
 refine Fx.kept (t := t) ?_
 refine Fx.mk Tryz.func81 k81 nb_ ?_
 dsimp only [c81, envOf, Nat.reduceAdd]
 refine Cx.openp (t := t) rfl ?_
 rintro ⟨⟨r, c⟩, ⟨x0, x1, x2, x3, x4⟩⟩
 simp only [memL, List.cons_append, List.nil_append]
 refine Cx.liftp fun hm => ?_
 refine go ?_
 refine Sx.ifp rfl (fun h => ?_) (fun h => ?_)
 ·refine go ?_
  exact Kr.one (.inr rfl) rfl (MemO.close (a := some ⟨b, 0, none⟩) (r := r) m hm rfl rfl rfl) ⟨congrArg Value.bool (decide_eq_decide.2 (by omega)), rfl⟩
 ·refine go ?_
  exact Kr.one (.inr rfl) rfl (MemO.close (a := some ⟨b, 0, none⟩) (r := r) m hm rfl rfl rfl) ⟨congrArg Value.bool (decide_eq_false (fun hh => h hh.1)).symm, rfl⟩
theorem cellsPeek {b : Nat} {m : Mm} {F : St} (i : Nat) (hi : i < m.ws.length) [t : Take L (some ⟨b, 0, none⟩) (MemO m) F] : Fx Tryz.prog 29 [.pointer (some ⟨b, 0, none⟩), .int .i64 i] L (fun v L' => v = wd (m.at_ i) ∧ L = L') := by
 refine Fx.kept (t := t) ?_
 refine Fx.mk Tryz.func29 k29 nb_ ?_
 dsimp only [c29, envOf, Nat.reduceAdd]
 refine go ?_
 refine Sx.ca rfl (cellsIs (b := b) (m := m) (i : Int)) ?_
 rintro v L' ⟨rfl, rfl⟩
 rw [decide_eq_true (show (0 : Int) ≤ i ∧ (i : Int) < m.ws.length by omega)]
 refine go ?_
 refine Sx.openp (t := t) rfl ?_
 rintro ⟨⟨r, c⟩, ⟨x0, x1, x2, x3, x4⟩⟩
 simp only [memL, List.cons_append, List.nil_append]
 refine Sx.liftp fun hm => ?_
 refine go ?_
 refine Sx.rowsome (a := r) (by omega) fun g hr => ?_
 subst hr
 refine Sx.pv rfl ⟨by omega, by omega⟩ ?_
 refine Sx.ldr rfl (v := wd (m.at_ i)) (by simpa using us_get (Mm.get hi)) ?_
 refine go ?_
 exact Kr.one (.inr rfl) rfl (MemO.close (a := some ⟨b, 0, none⟩) (r := some ⟨g, 0, none⟩) m hm rfl rfl rfl) ⟨rfl, rfl⟩
theorem cellsLay {b : Nat} {m : Mm} {F : St} (i w : Nat) (hi : i < m.ws.length) (hw : w < 18446744073709551616) [t : Take L (some ⟨b, 0, none⟩) (MemO m) F] : Fx Tryz.prog 23 [.pointer (some ⟨b, 0, none⟩), .int .i64 i, wd w] L (fun v L' => v = .int .i64 0 ∧ L' = pt (some ⟨b, 0, none⟩) (MemO (m.lay i w)) :: F) := by
 refine Fx.mk Tryz.func23 k23 nb_ ?_
 dsimp only [c23, envOf, Nat.reduceAdd]
 refine go ?_
 refine Sx.ca rfl (cellsIs (b := b) (m := m) (i : Int)) ?_
 rintro v L' ⟨rfl, rfl⟩
 rw [decide_eq_true (show (0 : Int) ≤ i ∧ (i : Int) < m.ws.length by omega)]
 refine go ?_
 refine Sx.openp (t := t) rfl ?_
 rintro ⟨⟨r, c⟩, ⟨x0, x1, x2, x3, x4⟩⟩
 simp only [memL, List.cons_append, List.nil_append]
 refine Sx.liftp fun hm => ?_
 refine go ?_
 refine Sx.rowsome (a := r) (by omega) fun g hr => ?_
 subst hr
 refine Sx.pv rfl ⟨by omega, by omega⟩ ?_
 refine Sx.str (b := g) rfl rfl rfl rfl rfl (by rw [length_us]; simp; omega) (lay_one (by rw [length_us]; simpa using hi)) ?_
 refine go ?_
 refine Kr.one (.inr rfl) rfl (MemO.close (a := some ⟨b, 0, none⟩) (r := some ⟨g, 0, none⟩) (m.lay i w) ⟨Mm.ok_lay hm.1 hw, by rw [Mm.len_lay]; exact hm.2.1, hm.2.2⟩ rfl Mm.len_lay.symm ?_) ⟨rfl, rfl⟩
 simp only [Nat.zero_add, Nat.mul_one, Int.toNat_natCast]
 exact us_set m.ws i w
set_option maxHeartbeats 1000000 in
theorem cellsStroke {b : Nat} {m : Mm} {F : St} (kd : Int) (i w : Nat) (ok : Bool) (hi : i < m.ws.length) (hw : w < 18446744073709551616) [t : Take L (some ⟨b, 0, none⟩) (MemO m) F] :
  Fx Tryz.prog 205 [.pointer (some ⟨b, 0, none⟩), .int .i64 kd, .int .i64 i, wd w, .bool ok] L (fun v L' => v = wd (m.at_ i) ∧ L' = pt (some ⟨b, 0, none⟩) (MemO (m.put i w)) :: F) := by
 refine Fx.mk Tryz.func205 k205 nb_ ?_
 dsimp only [c205, envOf, Nat.reduceAdd]
 refine Cx.openp (t := t) rfl ?_
 rintro ⟨⟨r, c⟩, ⟨x0, x1, x2, x3, x4⟩⟩
 simp only [memL, List.cons_append, List.nil_append]
 refine Cx.liftp fun hm => ?_
 refine Cx.rowkey (a := r) fun hx0 hn0 _ hk0 => ?_
 obtain ⟨g, rfl⟩ : ∃ g, r = some ⟨g, 0, none⟩ := by
  rcases hk0 with h | h
  ·omega
  ·exact h
 refine go ?_
 refine Sx.pv rfl ⟨by omega, by omega⟩ ?_
 refine Sx.ldr rfl (v := wd (m.at_ i)) (by simpa using us_get (Mm.get hi)) ?_
 refine go ?_
 refine Sx.pv rfl ⟨by omega, by omega⟩ ?_
 refine Sx.str (b := g) rfl rfl rfl rfl rfl (by rw [length_us]; simp; omega) (lay_one (by rw [length_us]; simpa using hi)) ?_
 refine go ?_
 rw [wrap_succ]
 refine Sx.st (b := b) rfl rfl rfl rfl rfl rfl ?_
 dsimp only [lay]
 refine go ?_
 refine Kr.one (.inr rfl) rfl (MemO.close (a := some ⟨b, 0, none⟩) (r := some ⟨g, 0, none⟩) (m.put i w) ⟨Mm.ok_put hm.1 hw, by rw [Mm.len_put]; exact hm.2.1, rfl⟩ rfl Mm.len_put.symm ?_) ⟨rfl, rfl⟩
 simp only [Nat.zero_add, Nat.mul_one, Int.toNat_natCast]
 exact us_set m.ws i w
theorem putSame (m : Mm) (i : Nat) (hi : i < m.ws.length) : m.put i (m.at_ i) = m.tick := by
 unfold Mm.put Mm.tick
 congr 1
 have := Mm.get hi
 rw [List.getElem?_eq_getElem hi, Option.some.injEq] at this
 rw [← this]
 exact List.set_getElem_self hi
end
end Go.Proofs.YtflalhdofhobmaaGreat


namespace Go.Proofs.YtflalhdofhobmaaGreat
open Go
attribute [local irreducible] Sx Cx Rx Fx Krg Ksq Kbl Klp Kr
section
variable {L F : St}
theorem cellsLoad {b : Nat} {m : Mm} {F : St} (i : Nat) (hi : i < m.ws.length) [t : Take L (some ⟨b, 0, none⟩) (MemO m) F] :
  Fx Tryz.prog 151 [.pointer (some ⟨b, 0, none⟩), .int .i64 i] L (fun v L' => v = .tuple #[wd (m.at_ i), .int .i64 0] ∧ L' = pt (some ⟨b, 0, none⟩) (MemO m.tick) :: F) := by
 refine Fx.mk Tryz.func151 k151 nb_ ?_
 dsimp only [c151, envOf, Nat.reduceAdd]
 refine go ?_
 refine Sx.ca rfl (cellsIs (b := b) (m := m) (i : Int)) ?_
 rintro v L' ⟨rfl, rfl⟩
 rw [decide_eq_true (show (0 : Int) ≤ i ∧ (i : Int) < m.ws.length by omega)]
 refine go ?_
 refine Sx.openp (t := t) rfl ?_
 rintro ⟨⟨r, c⟩, ⟨x0, x1, x2, x3, x4⟩⟩
 simp only [memL, List.cons_append, List.nil_append]
 refine Sx.liftp fun hm => ?_
 refine Sx.rowkey (a := r) fun hx0 hn0 _ hk0 => ?_
 obtain ⟨g, rfl⟩ : ∃ g, r = some ⟨g, 0, none⟩ := by
  rcases hk0 with h | h
  ·omega
  ·exact h
 have hlt := Mm.at_lt hm.1 i
 refine go ?_
 refine Sx.pv rfl ⟨by omega, by omega⟩ ?_
 refine Sx.ldr rfl (v := wd (m.at_ i)) (by simpa using us_get (Mm.get hi)) ?_
 refine Sx.ent (MemO.close (a := some ⟨b, 0, none⟩) (r := some ⟨g, 0, none⟩) m hm rfl rfl rfl) ?_
 refine Sx.ca rfl (cellsStroke (b := b) (m := m) 1 i (m.at_ i) true hi hlt) ?_
 rintro v L' ⟨rfl, rfl⟩
 rw [putSame m i hi]
 refine go ?_
 exact Kr.two (.inr rfl) rfl rfl (Ent.refl _) ⟨rfl, rfl⟩
theorem cellsStore {b : Nat} {m : Mm} {F : St} (i w : Nat) (hi : i < m.ws.length) (hw : w < 18446744073709551616) [t : Take L (some ⟨b, 0, none⟩) (MemO m) F] :
  Fx Tryz.prog 214 [.pointer (some ⟨b, 0, none⟩), .int .i64 i, wd w] L (fun v L' => v = .int .i64 0 ∧ L' = pt (some ⟨b, 0, none⟩) (MemO (m.put i w)) :: F) := by
 refine Fx.mk Tryz.func214 k214 nb_ ?_
 dsimp only [c214, envOf, Nat.reduceAdd]
 refine go ?_
 refine Sx.ca rfl (cellsIs (b := b) (m := m) (i : Int)) ?_
 rintro v L' ⟨rfl, rfl⟩
 rw [decide_eq_true (show (0 : Int) ≤ i ∧ (i : Int) < m.ws.length by omega)]
 refine go ?_
 refine Sx.ca rfl (cellsStroke (b := b) (m := m) 2 i w true hi hw) ?_
 rintro v L' ⟨rfl, rfl⟩
 refine go ?_
 exact Kr.one (.inr rfl) rfl (Ent.refl _) ⟨rfl, rfl⟩
theorem cellsCas {b : Nat} {m : Mm} {F : St} (i o w : Nat) (hi : i < m.ws.length) (hw : w < 18446744073709551616) [t : Take L (some ⟨b, 0, none⟩) (MemO m) F] :
  Fx Tryz.prog 228 [.pointer (some ⟨b, 0, none⟩), .int .i64 i, wd o, wd w] L (fun v L' => v = .tuple #[.bool (decide (m.at_ i = o)), .int .i64 0] ∧ L' = pt (some ⟨b, 0, none⟩) (MemO (m.cas i o w)) :: F) := by
 refine Fx.mk Tryz.func228 k228 nb_ ?_
 dsimp only [c228, envOf, Nat.reduceAdd]
 refine go ?_
 refine Sx.ca rfl (cellsIs (b := b) (m := m) (i : Int)) ?_
 rintro v L' ⟨rfl, rfl⟩
 rw [decide_eq_true (show (0 : Int) ≤ i ∧ (i : Int) < m.ws.length by omega)]
 refine go ?_
 refine Sx.openp (t := t) rfl ?_
 rintro ⟨⟨r, c⟩, ⟨x0, x1, x2, x3, x4⟩⟩
 simp only [memL, List.cons_append, List.nil_append]
 refine Sx.liftp fun hm => ?_
 refine Sx.rowkey (a := r) fun hx0 hn0 _ hk0 => ?_
 obtain ⟨g, rfl⟩ : ∃ g, r = some ⟨g, 0, none⟩ := by
  rcases hk0 with h | h
  ·omega
  ·exact h
 have hlt := Mm.at_lt hm.1 i
 refine go ?_
 refine Sx.pv rfl ⟨by omega, by omega⟩ ?_
 refine Sx.ldr rfl (v := wd (m.at_ i)) (by simpa using us_get (Mm.get hi)) ?_
 refine go ?_
 refine Cx.ifn rfl (fun h => ?_) (fun h => ?_)
 ·have h' : m.at_ i ≠ o := fun e => h (by rw [e])
  refine go ?_
  refine Sx.pv rfl ⟨by omega, by omega⟩ ?_
  refine Sx.ldr rfl (v := wd (m.at_ i)) (by simpa using us_get (Mm.get hi)) ?_
  refine Sx.ent (MemO.close (a := some ⟨b, 0, none⟩) (r := some ⟨g, 0, none⟩) m hm rfl rfl rfl) ?_
  refine Sx.ca rfl (cellsStroke (b := b) (m := m) 3 i (m.at_ i) false hi hlt) ?_
  rintro v L' ⟨rfl, rfl⟩
  rw [putSame m i hi]
  refine go ?_
  refine Kr.two (.inr rfl) rfl rfl (Ent.refl _) ⟨?_, ?_⟩
  ·rw [decide_eq_false h']
  ·unfold Mm.cas; rw [if_neg h']
 ·have h' : m.at_ i = o := by omega
  refine Cx.ent (MemO.close (a := some ⟨b, 0, none⟩) (r := some ⟨g, 0, none⟩) m hm rfl rfl rfl) ?_
  refine go ?_
  refine Sx.ca rfl (cellsStroke (b := b) (m := m) 3 i w true hi hw) ?_
  rintro v L' ⟨rfl, rfl⟩
  refine go ?_
  refine Kr.two (.inr rfl) rfl rfl (Ent.refl _) ⟨?_, ?_⟩
  ·rw [decide_eq_true h']
  ·unfold Mm.cas; rw [if_pos h']
end
end Go.Proofs.YtflalhdofhobmaaGreat


namespace Go.Proofs.YtflalhdofhobmaaGreat
open Go
attribute [local irreducible] Sx Cx Rx Fx Krg Ksq Kbl Klp Kr
section
variable {L F : St}
abbrev mth (f : FuncId) (b : Nat) : Value := .func (.func f) #[.pointer (some ⟨b, 0, none⟩)] #[]
theorem machGo {b : Nat} {T : TypeId} {nx : Value} {f : FuncId} {w : Value} {rest : List Value} [t : Take L (some ⟨b, 0, none⟩) (Blk T (nx :: rest)) F] :
  Fx Tryz.prog 79 [.pointer (some ⟨b, 0, none⟩), .func (.func f) #[w] #[]] L (fun v L' => v = .tuple #[] ∧ L' = pt (some ⟨b, 0, none⟩) (Blk T (.func (.func f) #[w] #[] :: rest)) :: F) := by
 refine Fx.mk Tryz.func79 k79 nb_ ?_
 dsimp only [c79, envOf, Nat.reduceAdd]
 refine go ?_
 exact Kr.none (.inl rfl) (Ent.refl _) ⟨rfl, rfl⟩
theorem machDoneYes {b : Nat} {T : TypeId} {rest : List Value} [t : Take L (some ⟨b, 0, none⟩) (Blk T (.nilFunc :: rest)) F] : Fx Tryz.prog 92 [.pointer (some ⟨b, 0, none⟩)] L (fun v L' => v = .bool true ∧ L = L') := by
 refine Fx.mk Tryz.func92 k92 nb_ ?_
 dsimp only [c92, envOf, Nat.reduceAdd]
 refine go ?_
 exact Kr.one (.inr rfl) rfl (Ent.refl _) ⟨rfl, rfl⟩
theorem machDoneNo {b : Nat} {T : TypeId} {f : FuncId} {w : Value} {rest : List Value} [t : Take L (some ⟨b, 0, none⟩) (Blk T (.func (.func f) #[w] #[] :: rest)) F] : Fx Tryz.prog 92 [.pointer (some ⟨b, 0, none⟩)] L (fun v L' => v = .bool false ∧ L = L') := by
 refine Fx.mk Tryz.func92 k92 nb_ ?_
 dsimp only [c92, envOf, Nat.reduceAdd]
 refine go ?_
 exact Kr.one (.inr rfl) rfl (Ent.refl _) ⟨rfl, rfl⟩
theorem machStepDone {b : Nat} {T : TypeId} {rest : List Value} [t : Take L (some ⟨b, 0, none⟩) (Blk T (.nilFunc :: rest)) F] : Fx Tryz.prog 91 [.pointer (some ⟨b, 0, none⟩)] L (fun v L' => v = .bool false ∧ L = L') := by
 refine Fx.mk Tryz.func91 k91 nb_ ?_
 dsimp only [c91, envOf, Nat.reduceAdd]
 refine go ?_
 exact Kr.one (.inr rfl) rfl (Ent.refl _) ⟨rfl, rfl⟩
theorem machStep {b : Nat} {T : TypeId} {f : FuncId} {w z1 z2 z3 : Value} {cnt : Int} {rest : List Value} {R : Value → St → Prop} [t : Take L (some ⟨b, 0, none⟩) (Blk T (.func (.func f) #[w] #[] :: z1 :: z2 :: z3 :: .int .i64 cnt :: rest)) F]
  (hc : callable Tryz.prog f = true) (hf : Fx Tryz.prog f [w] (pt (some ⟨b, 0, none⟩) (Blk T (.nilFunc :: z1 :: z2 :: z3 :: .int .i64 (IntKind.i64.wrap (cnt + 1)) :: rest)) :: F) R) :
  Fx Tryz.prog 91 [.pointer (some ⟨b, 0, none⟩)] L (fun v L' => v = .bool true ∧ ∃ u, R u L') := by
 refine Fx.mk Tryz.func91 k91 nb_ ?_
 dsimp only [c91, envOf, Nat.reduceAdd]
 refine go ?_
 refine Sx.cl (p := [w]) (q := []) (vs := []) rfl hc rfl hf ?_
 intro u L' hR
 refine go ?_
 exact Kr.one (.inr rfl) rfl (Ent.refl _) ⟨rfl, u, hR⟩
theorem machOnNo {b : Nat} {T : TypeId} {fd : FuncId} {w nx z1 z3 : Value} {rest : List Value} [t : Take L (some ⟨b, 0, none⟩) (Blk T (nx :: z1 :: .func (.func fd) #[w] #[] :: z3 :: rest)) F]
  (hc : callable Tryz.prog fd = true) (hd : Fx Tryz.prog fd [w] L (fun v L' => v = .bool false ∧ L = L')) :
  Fx Tryz.prog 190 [.pointer (some ⟨b, 0, none⟩)] L (fun v L' => v = .tuple #[] ∧ L' = pt (some ⟨b, 0, none⟩) (Blk T (mth 232 b :: z1 :: .func (.func fd) #[w] #[] :: z3 :: rest)) :: F) := by
 refine Fx.mk Tryz.func190 k190 nb_ ?_
 dsimp only [c190, envOf, Nat.reduceAdd]
 refine go ?_
 refine Sx.cl (p := [w]) (q := []) (vs := []) rfl hc rfl hd ?_
 rintro v L' ⟨rfl, rfl⟩
 refine go ?_
 exact Kr.none (.inl rfl) (Ent.refl _) ⟨rfl, rfl⟩
theorem machOnYes {b : Nat} {T : TypeId} {fd ft : FuncId} {w u nx z1 : Value} {rest : List Value} {R : Value → St → Prop} [t : Take L (some ⟨b, 0, none⟩) (Blk T (nx :: z1 :: .func (.func fd) #[w] #[] :: .func (.func ft) #[u] #[] :: rest)) F]
  (hc : callable Tryz.prog fd = true) (hd : Fx Tryz.prog fd [w] L (fun v L' => v = .bool true ∧ L = L')) (hct : callable Tryz.prog ft = true) (ht : Fx Tryz.prog ft [u] L R) :
  Fx Tryz.prog 190 [.pointer (some ⟨b, 0, none⟩)] L (fun v L' => v = .tuple #[] ∧ ∃ x, R x L') := by
 refine Fx.mk Tryz.func190 k190 nb_ ?_
 dsimp only [c190, envOf, Nat.reduceAdd]
 refine go ?_
 refine Sx.cl (p := [w]) (q := []) (vs := []) rfl hc rfl hd ?_
 rintro v L' ⟨rfl, rfl⟩
 refine go ?_
 refine Sx.cl (p := [u]) (q := []) (vs := []) rfl hct rfl ht ?_
 intro x L' hR
 refine go ?_
 exact Kr.none (.inr rfl) (Ent.refl _) ⟨rfl, x, hR⟩
theorem machThrough {b : Nat} {T : TypeId} {fs fd ft : FuncId} {ws w u nx z1 z2 z3 : Value} {rest : List Value} {R : Value → St → Prop} [t : Take L (some ⟨b, 0, none⟩) (Blk T (nx :: z1 :: z2 :: z3 :: rest)) F]
  (hon : Fx Tryz.prog 190 [.pointer (some ⟨b, 0, none⟩)] (pt (some ⟨b, 0, none⟩) (Blk T (nx :: .func (.func fs) #[ws] #[] :: .func (.func fd) #[w] #[] :: .func (.func ft) #[u] #[] :: rest)) :: F) R) :
  Fx Tryz.prog 119 [.pointer (some ⟨b, 0, none⟩), .func (.func fs) #[ws] #[], .func (.func fd) #[w] #[], .func (.func ft) #[u] #[]] L (fun v L' => v = .tuple #[] ∧ ∃ x, R x L') := by
 refine Fx.mk Tryz.func119 k119 nb_ ?_
 dsimp only [c119, envOf, Nat.reduceAdd]
 refine go ?_
 refine Sx.ca rfl hon ?_
 intro x L' hR
 refine go ?_
 exact Kr.none (.inl rfl) (Ent.refl _) ⟨rfl, x, hR⟩
theorem machGoes {b : Nat} {T : TypeId} {fs : FuncId} {ws nx : Value} {rest : List Value} {R1 R2 : Value → St → Prop} [t : Take L (some ⟨b, 0, none⟩) (Blk T (nx :: .func (.func fs) #[ws] #[] :: rest)) F]
  (hc : callable Tryz.prog fs = true) (hs : Fx Tryz.prog fs [ws] L R1) (hon : ∀ x L1, R1 x L1 → Fx Tryz.prog 190 [.pointer (some ⟨b, 0, none⟩)] L1 R2) :
  Fx Tryz.prog 232 [.pointer (some ⟨b, 0, none⟩)] L (fun v L' => v = .tuple #[] ∧ ∃ x, R2 x L') := by
 refine Fx.mk Tryz.func232 k232 nb_ ?_
 dsimp only [c232, envOf, Nat.reduceAdd]
 refine go ?_
 refine Sx.cl (p := [ws]) (q := []) (vs := []) rfl hc rfl hs ?_
 intro x L1 hR1
 refine go ?_
 refine Sx.ca rfl (hon x L1 hR1) ?_
 intro y L2 hR2
 refine go ?_
 exact Kr.none (.inl rfl) (Ent.refl _) ⟨rfl, y, hR2⟩
end
end Go.Proofs.YtflalhdofhobmaaGreat


namespace Go.Proofs.YtflalhdofhobmaaGreat
open Go
attribute [local irreducible] Sx Cx Rx Fx Krg Ksq Kbl Klp Kr
section
variable {L F G : St}
abbrev skV (mp : Nat) (k : Sk) : List Value := [.pointer (some ⟨mp, 0, none⟩), .int .i64 k.head, .int .i64 k.links, .int .i64 k.n]
abbrev SkO (mp : Nat) (k : Sk) : Option Addr → As := Blk 171 (skV mp k)
theorem stackTop {sb mp : Nat} {k : Sk} (w : Nat) (hw : w < 18446744073709551616) [s : Take L (some ⟨sb, 0, none⟩) (SkO mp k) F] :
  Fx Tryz.prog 95 [.pointer (some ⟨sb, 0, none⟩), wd w] L (fun v L' => v = .int .i64 (k.top w) ∧ L = L') := by
 refine Fx.mk Tryz.func95 k95 nb_ ?_
 dsimp only [c95, envOf, Nat.reduceAdd]
 refine go ?_
 refine Sx.ca rfl (getHead w hw) ?_
 rintro v L' ⟨rfl, rfl⟩
 refine Sx.al fun g => ?_
 refine Sx.st (b := g) rfl rfl rfl rfl rfl rfl ?_
 dsimp only [lay]
 refine go ?_
 refine Cx.ordc rfl kr_ ?_
 refine ge ?_
 refine Cx.ifp rfl (fun h => ?_) (fun h => ?_)
 ·refine go ?_
  exact Kr.one (.inr rfl) rfl Ent.drop ⟨by unfold Sk.top; rw [if_pos h], rfl⟩
 ·refine go ?_
  exact Kr.one (.inr rfl) rfl Ent.drop ⟨by unfold Sk.top; rw [if_neg h], rfl⟩
theorem stackBelow {sb mp : Nat} {k : Sk} (w : Nat) (hw : w < 18446744073709551616) (hn : k.n ≤ 4096) [s : Take L (some ⟨sb, 0, none⟩) (SkO mp k) F] :
  Fx Tryz.prog 96 [.pointer (some ⟨sb, 0, none⟩), wd w] L (fun v L' => v = .int .i64 (k.below w) ∧ L = L') := by
 refine Fx.mk Tryz.func96 k96 nb_ ?_
 dsimp only [c96, envOf, Nat.reduceAdd]
 refine go ?_
 rw [wrap64 (n := k.n) (by omega)]
 refine Cx.ifp rfl (fun h => ?_) (fun h => ?_)
 ·refine go ?_
  exact Kr.one (.inr rfl) rfl (Ent.refl _) ⟨by unfold Sk.below; rw [if_pos (by omega)], rfl⟩
 ·refine go ?_
  rw [w64 (n := (w : Int)) (by omega) (by omega), w64 (n := (w : Int) - 1) (by omega) (by omega)]
  exact Kr.one (.inr rfl) rfl (Ent.refl _) ⟨by unfold Sk.below; rw [if_neg (by omega)], rfl⟩
theorem stackCell {g mp : Nat} {T : TypeId} {m : Mm} (i : Int) {F G : St} [t : Take L (some ⟨mp, 0, none⟩) (MemO m) F] [s : Take L (some ⟨g, 0, none⟩) (Blk T [.pointer (some ⟨mp, 0, none⟩)]) G] :
  Fx Tryz.prog 202 [.int .i64 i, .pointer (some ⟨g, 0, none⟩)] L (fun v L' => v = .bool (decide (0 ≤ i ∧ i < m.ws.length)) ∧ L = L') := by
 refine Fx.mk Tryz.func202 k202 nb_ ?_
 dsimp only [c202, envOf, Nat.reduceAdd]
 refine go ?_
 refine Sx.ifp rfl (fun h => ?_) (fun h => ?_)
 ·refine go ?_
  refine Sx.ca rfl (cellsLen (b := mp) (m := m)) ?_
  rintro v L' ⟨rfl, rfl⟩
  refine go ?_
  exact Kr.one (.inr rfl) rfl (Ent.refl _) ⟨congrArg Value.bool (decide_eq_decide.2 (by omega)), rfl⟩
 ·refine go ?_
  exact Kr.one (.inr rfl) rfl (Ent.refl _) ⟨congrArg Value.bool (decide_eq_false (fun hh => h hh.1)).symm, rfl⟩
theorem stackNew {mp : Nat} {m : Mm} {k : Sk} (hk : k.ok m.ws.length) [t : Take L (some ⟨mp, 0, none⟩) (MemO m) F] :
  Fx Tryz.prog 138 [.pointer (some ⟨mp, 0, none⟩), .int .i64 k.head, .int .i64 k.links, .int .i64 k.n] L (fun v L' => ∃ g, v = .tuple #[.pointer (some ⟨g, 0, none⟩), .int .i64 0] ∧ L' = pt (some ⟨g, 0, none⟩) (SkO mp k) :: L) := by
 obtain ⟨h1, h2, h3, h4, h5, h6⟩ := hk
 refine Fx.mk Tryz.func138 k138 nb_ ?_
 dsimp only [c138, envOf, Nat.reduceAdd]
 refine Cx.sq ?_
 refine Cx.rg ?_
 refine Sx.bx rfl rfl fun g => ?_
 refine go ?_
 refine Sx.gyes rfl (decide_eq_false (by omega)) ?_
 refine go ?_
 refine Sx.gyes rfl (decide_eq_false (by omega)) ?_
 refine go ?_
 refine Sx.cl (p := []) (q := [.pointer (some ⟨g, 0, none⟩)]) rfl kr_ rfl (stackCell (mp := mp) (m := m) (k.head : Int)) ?_
 rintro v L' ⟨rfl, rfl⟩
 rw [decide_eq_true (show (0 : Int) ≤ k.head ∧ (k.head : Int) < m.ws.length by omega)]
 refine go ?_
 refine Sx.cl (p := []) (q := [.pointer (some ⟨g, 0, none⟩)]) rfl kr_ rfl (stackCell (mp := mp) (m := m) (k.links : Int)) ?_
 rintro v L' ⟨rfl, rfl⟩
 rw [decide_eq_true (show (0 : Int) ≤ k.links ∧ (k.links : Int) < m.ws.length by omega)]
 refine go ?_
 rw [w64 (n := (k.links : Int) + k.n) (by omega) (by omega), w64 (n := (k.links : Int) + k.n - 1) (by omega) (by omega)]
 refine Sx.cl (p := []) (q := [.pointer (some ⟨g, 0, none⟩)]) rfl kr_ rfl (stackCell (mp := mp) (m := m) ((k.links : Int) + k.n - 1)) ?_
 rintro v L' ⟨rfl, rfl⟩
 rw [decide_eq_true (show (0 : Int) ≤ (k.links : Int) + k.n - 1 ∧ (k.links : Int) + k.n - 1 < m.ws.length by omega)]
 refine go ?_
 refine Sx.ifp rfl (fun h7 => ?_) (fun h7 => ?_)
 ·refine go ?_
  rw [w64 (n := (k.links : Int) + k.n) (by omega) (by omega)]
  refine Cx.cno rfl (decide_eq_false (by omega)) ?_
  refine go ?_
  refine Sx.bx rfl rfl fun q => ?_
  refine go ?_
  exact Kr.two (.inr rfl) rfl rfl (Ent.cons Ent.drop) ⟨q, rfl, rfl⟩
 ·refine go ?_
  refine Sx.bx rfl rfl fun q => ?_
  refine go ?_
  exact Kr.two (.inr rfl) rfl rfl (Ent.cons Ent.drop) ⟨q, rfl, rfl⟩
theorem stackExchange {sb mp : Nat} {k : Sk} {m : Mm} (w : Nat) (i : Int) (hk : k.ok m.ws.length) (hw : w < 18446744073709551616) (h1 : -1 ≤ i) (h2 : i < k.n) [t : Take L (some ⟨mp, 0, none⟩) (MemO m) F] [s : Take F (some ⟨sb, 0, none⟩) (SkO mp k) G] :
  Fx Tryz.prog 268 [.pointer (some ⟨sb, 0, none⟩), wd w, .int .i64 i] L (fun v L' => v = .bool (decide (m.at_ k.head = w)) ∧ L' = pt (some ⟨mp, 0, none⟩) (MemO (m.cas k.head w (nextW w i))) :: F) := by
 obtain ⟨k1, k2, k3, k4, k5, k6⟩ := hk
 have hlt := nextW_lt (i := i) hw (by omega)
 refine Fx.mk Tryz.func268 k268 nb_ ?_
 dsimp only [c268, envOf, Nat.reduceAdd]
 refine Cx.ent (Ent.trans (Ent.of t.out) (Ent.cons (Ent.of s.out))) ?_
 refine go ?_
 refine Sx.ca rfl (getHead w hw) ?_
 rintro v L' ⟨rfl, rfl⟩
 refine go ?_
 refine Sx.ca rfl (wordNext _ i _ (hdT_lt hw)) ?_
 rintro v L' ⟨rfl, rfl⟩
 refine go ?_
 refine Sx.ca rfl (putHead i _ h1 (by omega) (laterT_lt (hdT_lt hw))) ?_
 rintro v L' ⟨rfl, rfl⟩
 rw [show laterT (hdT w) * 4294967296 + (i + 1).toNat = nextW w i from rfl]
 refine go ?_
 refine Cx.ordc rfl kr_ ?_
 refine ge ?_
 refine Ev.caH kr_ rfl rfl (cellsCas (b := mp) (m := m) k.head w (nextW w i) k3 hlt) (Pres.deps kr_) ?_
 rintro v L' ⟨rfl, rfl⟩
 refine ge ?_
 refine go ?_
 exact Kr.one (.inr rfl) rfl (Ent.cons (Ent.of s.back)) ⟨rfl, rfl⟩
end
end Go.Proofs.YtflalhdofhobmaaGreat


namespace Go.Proofs.YtflalhdofhobmaaGreat
open Go
attribute [local irreducible] Sx Cx Rx Fx Krg Ksq Kbl Klp Kr
section
variable {L F G : St}
def popNx (a : Option Addr) (q : PopS) : Value := bif q.done then .nilFunc else .func (.func (match q.at_ with | 0 => 222 | 1 => 250 | _ => 263)) #[.pointer a] #[]
def popL (T : TypeId) (sb : Nat) (k : Sk) (q : PopS) (a : Option Addr) (y : (Option Addr × Nat) × Int) : St :=
 [lift (q.ok k), pt a (Blk T [popNx a q, .nilFunc, .nilFunc, .nilFunc, .int .i64 y.2, .pointer (some ⟨sb, 0, none⟩), .int .i64 q.most, .int .i64 q.under, wd q.was, .slice y.1.1 q.got.length y.1.2]), pt y.1.1 (Row 3 1 q.got.length y.1.2 (ints q.got))]
def PopT (T : TypeId) (sb : Nat) (k : Sk) (q : PopS) (a : Option Addr) : As := exs (popL T sb k q a)
abbrev PopO := PopT 278
theorem PopO.close {T : TypeId} {sb : Nat} {k : Sk} {a r : Option Addr} {c n : Nat} {cnt : Int} {v0 v1 v2 v3 : Value} {w : List Value} {F G : St} (q : PopS) (hq : q.ok k)
  [t : Take L a (Blk T [v0, .nilFunc, .nilFunc, .nilFunc, .int .i64 cnt, .pointer (some ⟨sb, 0, none⟩), v1, v2, v3, .slice r n c]) F] [u : Take F r (Row 3 1 n c w) G]
  (h0 : v0 = popNx a q) (h1 : v1 = .int .i64 q.most) (h2 : v2 = .int .i64 q.under) (h3 : v3 = wd q.was) (hn : n = q.got.length) (hw : w = ints q.got) : Ent L (pt a (PopT T sb k q) :: G) := by
 subst h0; subst h1; subst h2; subst h3; subst hn; subst hw
 refine Ent.trans (Ent.take1 (t := t) (Ent.of u.out)) ?_
 refine Ent.trans (Ent.lift hq (Ent.refl _)) ?_
 exact Ent.close (f := popL T sb k q a) rfl ((r, c), cnt)
theorem stackPop {sb : Nat} {k : Sk} (most : Int) (hn : 1 ≤ k.n) : Fx Tryz.prog 162 [.pointer (some ⟨sb, 0, none⟩), .int .i64 most] L (fun v L' => ∃ g, v = .pointer (some ⟨g, 0, none⟩) ∧ L' = pt (some ⟨g, 0, none⟩) (PopO sb k (PopS.init most)) :: L) := by
 refine Fx.mk Tryz.func162 k162 nb_ ?_
 dsimp only [c162, envOf, Nat.reduceAdd]
 refine go ?_
 refine Sx.bx rfl rfl fun g => ?_
 refine go ?_
 refine Sx.ca rfl (machGo (b := g)) ?_
 rintro v L' ⟨rfl, rfl⟩
 refine go ?_
 refine Kr.one (.inr rfl) rfl ?_ ⟨g, rfl, rfl⟩
 refine Ent.trans (Ent.rownil 3 1) ?_
 refine PopO.close (a := some ⟨g, 0, none⟩) (r := none) (sb := sb) (PopS.init most) (PopS.ok_init hn most) rfl ?_ rfl rfl rfl rfl
 refine congrArg (Value.int .i64) ?_
 show _ = min (max most 1) 8
 simp only [cond_true, cond_false]
 (repeat' split) <;> omega
abbrev popF (b sb mp : Nat) (k : Sk) (m : Mm) (q : PopS) (r : Option Addr) (c : Nat) (cnt : Int) (G : St) : St :=
 pt (some ⟨b, 0, none⟩) (Blk 278 [.nilFunc, .nilFunc, .nilFunc, .nilFunc, .int .i64 cnt, .pointer (some ⟨sb, 0, none⟩), .int .i64 q.most, .int .i64 q.under, wd q.was, .slice r q.got.length c]) ::
 pt r (Row 3 1 q.got.length c (ints q.got)) :: pt (some ⟨mp, 0, none⟩) (MemO m) :: pt (some ⟨sb, 0, none⟩) (SkO mp k) :: G
abbrev popR (b sb mp : Nat) (k : Sk) (m : Mm) (q : PopS) (G : St) (v : Value) (L' : St) : Prop :=
 L' = pt (some ⟨b, 0, none⟩) (PopO sb k (popStep k m q).1) :: pt (some ⟨mp, 0, none⟩) (MemO (popStep k m q).2) :: pt (some ⟨sb, 0, none⟩) (SkO mp k) :: G
theorem pop_load_ {b sb mp : Nat} {k : Sk} {m : Mm} {q : PopS} {r : Option Addr} {c : Nat} {cnt : Int} (hm : m.ok) (hk : k.ok m.ws.length) (hq : q.ok k) (ha : q.at_ = 0) (hd : q.done = false) :
  Fx Tryz.prog 222 [.pointer (some ⟨b, 0, none⟩)] (popF b sb mp k m q r c cnt G) (popR b sb mp k m q G) := by
 have hok := popStep_ok hk hm hq
 have hlt := Mm.at_lt hm k.head
 obtain ⟨k1, k2, k3, k4, k5, k6⟩ := hk
 have e : ∀ x, popStep k m q = x → popStep k m q = x := fun _ h => h
 refine Fx.mk Tryz.func222 k222 nb_ ?_
 dsimp only [c222, envOf, Nat.reduceAdd]
 refine go ?_
 refine Cx.ordc rfl kr_ ?_
 refine ge ?_
 refine Ev.caH kr_ rfl rfl (cellsLoad (b := mp) (m := m) k.head k3) (Pres.deps kr_) ?_
 rintro v L' ⟨rfl, rfl⟩
 refine ge ?_
 refine Ev.stbH (b := b) kr_ rfl rfl rfl rfl rfl (by rfl) rfl (Pres.deps kr_) ?_
 refine ge ?_
 refine go ?_
 refine Cx.ordc rfl kr_ ?_
 refine ge ?_
 refine Ev.cakH kr_ rfl rfl (stackTop (sb := sb) (mp := mp) (k := k) (m.at_ k.head) hlt) ?_
 refine ge ?_
 refine go ?_
 refine Cx.ifp rfl (fun h => ?_) (fun h => ?_)
 ·have e : popStep k m q = ({ q with was := m.at_ k.head, got := [k.top (m.at_ k.head)], at_ := 1 }, m.tick) := by
   unfold popStep; rw [hd, ha]; simp only [Bool.false_eq_true, if_false]; rw [if_pos h]
  rw [e] at hok
  refine go ?_
  refine Sx.bs (sz := 1) rfl rfl fun g => ?_
  refine Sx.apn rfl rfl (Rd.row (b := g) (E := 3) (cap := 1) rfl) rfl (by simp [maxLen]) (by omega) fun ra ca hc => ?_
  refine go ?_
  refine Sx.ca rfl (machGo (b := b)) ?_
  rintro v L' ⟨rfl, rfl⟩
  refine go ?_
  refine Kr.none (.inl rfl) ?_ rfl
  rw [e]
  refine Ent.trans (PopO.close (a := some ⟨b, 0, none⟩) (r := ra) (sb := sb) (k := k) _ hok ?_ rfl rfl rfl rfl rfl) ?_
  ·simp [popNx, hd]
  ·exact ent
 ·have e : popStep k m q = ({ q with was := m.at_ k.head, got := [], done := true }, m.tick) := by
   unfold popStep; rw [hd, ha]; simp only [Bool.false_eq_true, if_false]; rw [if_neg h]
  rw [e] at hok
  refine go ?_
  refine Kr.none (.inl rfl) ?_ rfl
  rw [e]
  refine Ent.trans (Ent.rownil 3 1) ?_
  refine Ent.trans (PopO.close (a := some ⟨b, 0, none⟩) (r := none) (sb := sb) (k := k) _ hok ?_ rfl rfl rfl rfl rfl) ?_
  ·simp [popNx]
  ·exact ent
theorem lastI_get {l : List Int} (h : l ≠ []) : l[l.length - 1]? = some (lastI l) := by
 unfold lastI
 rw [List.getLastD_eq_getLast?, ← List.getLast?_eq_getElem?, List.getLast?_eq_some_getLast h]; rfl
theorem pop_link_ {b sb mp : Nat} {k : Sk} {m : Mm} {q : PopS} {r : Option Addr} {c : Nat} {cnt : Int} (hm : m.ok) (hk : k.ok m.ws.length) (hq : q.ok k) (ha : q.at_ = 1) (hd : q.done = false) :
  Fx Tryz.prog 250 [.pointer (some ⟨b, 0, none⟩)] (popF b sb mp k m q r c cnt G) (popR b sb mp k m q G) := by
 have hok := popStep_ok hk hm hq
 have hne := hq.ne hd (by omega)
 have hlp := List.length_pos_iff.2 hne
 have hrg := hq.g _ (lastI_mem hne)
 have hlen := hq.len
 obtain ⟨k1, k2, k3, k4, k5, k6⟩ := hk
 have hx0 : (ints q.got)[q.got.length - 1]? = some (.int .i64 (lastI q.got)) := by simp only [ints, List.getElem?_map, lastI_get hne]; rfl
 obtain ⟨x, hx⟩ : ∃ x : Nat, lastI q.got = x := ⟨(lastI q.got).toNat, by omega⟩
 have hlt := Mm.at_lt hm (k.links + x)
 have hat : k.links + (lastI q.got).toNat = k.links + x := by omega
 refine Fx.mk Tryz.func250 k250 nb_ ?_
 dsimp only [c250, envOf, Nat.reduceAdd]
 refine Cx.rowkey (a := r) fun hxl _ _ hkr => ?_
 obtain ⟨rg, rfl⟩ : ∃ g, r = some ⟨g, 0, none⟩ := by
  rcases hkr with h | h
  ·omega
  ·exact h
 refine go ?_
 refine Cx.ordc rfl kr_ ?_
 refine ge ?_
 rw [w64 (n := (q.got.length : Int) - 1) (by omega) (by omega)]
 refine Ev.pvH kr_ rfl rfl ⟨by omega, by omega⟩ ?_
 refine Ev.ldrH (b := rg) kr_ rfl rfl (v := .int .i64 (lastI q.got)) (by rw [show 0 + ((q.got.length : Int) - 1).toNat * 1 = q.got.length - 1 by omega]; exact hx0) ?_
 refine ge ?_
 rw [hx, w64 (n := (k.links : Int) + x) (by omega) (by omega), show (k.links : Int) + x = ((k.links + x : Nat) : Int) by omega]
 refine Ev.caH kr_ rfl rfl (cellsLoad (b := mp) (m := m) (k.links + x) (by omega)) (Pres.deps kr_) ?_
 rintro v L' ⟨rfl, rfl⟩
 refine ge ?_
 refine go ?_
 refine Sx.ca rfl (stackBelow (sb := sb) (mp := mp) (k := k) (m.at_ (k.links + x)) hlt k2) ?_
 rintro v L' ⟨rfl, rfl⟩
 refine go ?_
 refine Cx.ordc rfl kr_ ?_
 refine ge ?_
 have hbl := k.below_lt (m.at_ (k.links + x))
 have no : (popStep k m q = ({ q with under := k.below (m.at_ (k.links + x)), at_ := 2 }, m.tick)) → Ent
   (pt (some ⟨b, 0, none⟩) (Blk 278 [mth 263 b, .nilFunc, .nilFunc, .nilFunc, .int .i64 cnt, .pointer (some ⟨sb, 0, none⟩), .int .i64 q.most, .int .i64 (k.below (m.at_ (k.links + x))), wd q.was, .slice (some ⟨rg, 0, none⟩) q.got.length c]) ::
    pt (some ⟨mp, 0, none⟩) (MemO m.tick) :: pt (some ⟨rg, 0, none⟩) (Row 3 1 q.got.length c (ints q.got)) :: pt (some ⟨sb, 0, none⟩) (SkO mp k) :: G)
   (pt (some ⟨b, 0, none⟩) (PopO sb k (popStep k m q).1) :: pt (some ⟨mp, 0, none⟩) (MemO (popStep k m q).2) :: pt (some ⟨sb, 0, none⟩) (SkO mp k) :: G) := by
  intro e
  rw [e] at hok ⊢
  refine Ent.trans (PopO.close (a := some ⟨b, 0, none⟩) (r := some ⟨rg, 0, none⟩) (sb := sb) (k := k) _ hok ?_ rfl rfl rfl rfl rfl) (Ent.refl _)
  simp [popNx, hd]
 have eno : (¬ (0 ≤ k.below (m.at_ (k.links + x)) ∧ (q.got.length : Int) < q.most)) → popStep k m q = ({ q with under := k.below (m.at_ (k.links + x)), at_ := 2 }, m.tick) := by
  intro h
  unfold popStep; rw [hd, ha]; simp only [Bool.false_eq_true, if_false]; rw [hat, if_neg h]
 by_cases h0 : 0 ≤ k.below (m.at_ (k.links + x))
 ·refine Ev.yes 49 rfl (decide_eq_true h0) ?_
  refine ge ?_
  refine Cx.ifp rfl (fun h1 => ?_) (fun h1 => ?_)
  ·have e : popStep k m q = ({ q with under := k.below (m.at_ (k.links + x)), got := q.got ++ [k.below (m.at_ (k.links + x))] }, m.tick) := by
    unfold popStep; rw [hd, ha]; simp only [Bool.false_eq_true, if_false]; rw [hat, if_pos ⟨h0, h1⟩]
   rw [e] at hok
   refine go ?_
   refine Cx.ordc rfl kr_ ?_
   refine ge ?_
   refine Ev.bsH (sz := 1) kr_ rfl rfl rfl (.dep rfl (.keep (fun v L' ⟨_, _, e⟩ => by subst e; exact Has.cell rfl) .nil)) fun g => ?_
   refine ge ?_
   refine Ev.apH (ra := some ⟨rg, 0, none⟩) kr_ rfl rfl rfl (Rd.row (b := g) (E := 3) (cap := 1) rfl) rfl (by simp [maxLen]; omega) (by omega) (Pres.deps kr_) fun ra ca hc hka => ?_
   refine ge ?_
   refine Ev.stbH (b := b) kr_ rfl rfl rfl rfl rfl (by rfl) rfl (Pres.deps kr_) ?_
   refine ge ?_
   refine go ?_
   refine Sx.ca rfl (machGo (b := b)) ?_
   rintro v L' ⟨rfl, rfl⟩
   refine go ?_
   refine Kr.none (.inl rfl) ?_ rfl
   rw [e]
   refine Ent.trans (PopO.close (a := some ⟨b, 0, none⟩) (r := ra) (sb := sb) (k := k) _ hok ?_ rfl rfl rfl (by simp) (by simp [ints_append]; rfl)) ?_
   ·simp [popNx, hd, ha]
   ·exact ent
  ·refine go ?_
   refine Sx.ca rfl (machGo (b := b)) ?_
   rintro v L' ⟨rfl, rfl⟩
   refine go ?_
   exact Kr.none (.inl rfl) (no (eno fun h => h1 h.2)) rfl
 ·refine Ev.no 49 rfl (decide_eq_false h0) ?_
  refine ge ?_
  refine go ?_
  refine Sx.ca rfl (machGo (b := b)) ?_
  rintro v L' ⟨rfl, rfl⟩
  refine go ?_
  exact Kr.none (.inl rfl) (no (eno fun h => h0 h.1)) rfl
theorem pop_cas_ {b sb mp : Nat} {k : Sk} {m : Mm} {q : PopS} {r : Option Addr} {c : Nat} {cnt : Int} (hm : m.ok) (hk : k.ok m.ws.length) (hq : q.ok k) (ha : q.at_ = 2) (hd : q.done = false) :
  Fx Tryz.prog 263 [.pointer (some ⟨b, 0, none⟩)] (popF b sb mp k m q r c cnt G) (popR b sb mp k m q G) := by
 have hok := popStep_ok hk hm hq
 have e : popStep k m q = ({ q with at_ := 0, done := decide (m.at_ k.head = q.was) }, m.cas k.head q.was (nextW q.was q.under)) := by
  unfold popStep; rw [hd, ha]; rfl
 rw [e] at hok
 refine Fx.mk Tryz.func263 k263 nb_ ?_
 dsimp only [c263, envOf, Nat.reduceAdd]
 refine go ?_
 refine Cx.ordc rfl kr_ ?_
 refine ge ?_
 refine Ev.caH kr_ rfl rfl (stackExchange (sb := sb) (mp := mp) (k := k) (m := m) q.was q.under hk hq.w hq.u1 hq.u2) (Pres.deps kr_) ?_
 rintro v L' ⟨rfl, rfl⟩
 refine ge ?_
 refine Cx.ifn rfl (fun h => ?_) (fun h => ?_)
 ·rw [decide_eq_false h] at e hok
  refine go ?_
  refine Sx.ca rfl (machGo (b := b)) ?_
  rintro v L' ⟨rfl, rfl⟩
  refine go ?_
  refine Kr.none (.inl rfl) ?_ rfl
  rw [e]
  refine Ent.trans (PopO.close (a := some ⟨b, 0, none⟩) (r := r) (sb := sb) (k := k) _ hok ?_ rfl rfl rfl rfl rfl) ?_
  ·simp [popNx]
  ·exact ent
 ·rw [decide_eq_true h] at e hok
  refine go ?_
  refine Kr.none (.inl rfl) ?_ rfl
  rw [e]
  refine Ent.trans (PopO.close (a := some ⟨b, 0, none⟩) (r := r) (sb := sb) (k := k) _ hok ?_ rfl rfl rfl rfl rfl) ?_
  ·simp [popNx]
  ·exact ent
theorem memKey {b : Nat} {m : Mm} {F : St} [t : Take L (some ⟨b, 0, none⟩) (MemO m) F] : ∀ h, holds L h → m.ok ∧ m.ws.length ≤ 8388608 := by
 intro h hh
 have h1 := t.out h hh
 obtain ⟨y, hy⟩ := holds_ex.1 h1
 have := holds_lift.1 hy
 exact ⟨this.1.1, this.1.2.1⟩
theorem popStepC {b sb mp : Nat} {k : Sk} {m : Mm} {q : PopS} {F1 F2 : St} (hk : k.ok m.ws.length) [tp : Take L (some ⟨b, 0, none⟩) (PopO sb k q) F1] [t : Take F1 (some ⟨mp, 0, none⟩) (MemO m) F2] [s : Take F2 (some ⟨sb, 0, none⟩) (SkO mp k) G] :
  Fx Tryz.prog 163 [.pointer (some ⟨b, 0, none⟩)] L (fun v L' => v = .bool (!q.done) ∧ L' = pt (some ⟨b, 0, none⟩) (PopO sb k (popStep k m q).1) :: pt (some ⟨mp, 0, none⟩) (MemO (popStep k m q).2) :: F2) := by
 refine Fx.mk Tryz.func163 k163 nb_ ?_
 dsimp only [c163, envOf, Nat.reduceAdd]
 refine Cx.ent (Ent.trans (Ent.of tp.out) (Ent.cons (Ent.trans (Ent.of t.out) (Ent.cons (Ent.of s.out))))) ?_
 refine Cx.pure (memKey (b := mp) (m := m)) fun hm => ?_
 refine Cx.openp (a := some ⟨b, 0, none⟩) rfl ?_
 rintro ⟨⟨r, c⟩, cnt⟩
 simp only [popL, List.cons_append, List.nil_append]
 refine Cx.liftp fun hq => ?_
 cases hd : q.done with
 | true =>
   have e : popStep k m q = (q, m) := by unfold popStep; rw [hd]; rfl
   rw [e, show popNx (some ⟨b, 0, none⟩) q = .nilFunc by simp [popNx, hd]]
   refine go ?_
   refine Sx.ca rfl (machStepDone (b := b)) ?_
   rintro v L' ⟨rfl, rfl⟩
   refine go ?_
   refine Kr.one (.inr rfl) rfl ?_ ⟨rfl, rfl⟩
   refine Ent.trans (PopO.close (a := some ⟨b, 0, none⟩) (r := r) (sb := sb) (k := k) q hq ?_ rfl rfl rfl rfl rfl) (Ent.cons (Ent.cons (Ent.of s.back)))
   simp [popNx, hd]
 | false =>
   have hcase := hq.a
   rcases (show q.at_ = 0 ∨ q.at_ = 1 ∨ q.at_ = 2 by omega) with ha | ha | ha
   ·rw [show popNx (some ⟨b, 0, none⟩) q = .func (.func 222) #[.pointer (some ⟨b, 0, none⟩)] #[] by simp [popNx, hd, ha]]
    refine go ?_
    refine Sx.ca rfl (machStep (b := b) kr_ (pop_load_ (G := G) hm.1 hk hq ha hd)) ?_
    rintro v L' ⟨rfl, u, rfl⟩
    refine go ?_
    exact Kr.one (.inr rfl) rfl (Ent.cons (Ent.cons (Ent.of s.back))) ⟨rfl, rfl⟩
   ·rw [show popNx (some ⟨b, 0, none⟩) q = .func (.func 250) #[.pointer (some ⟨b, 0, none⟩)] #[] by simp [popNx, hd, ha]]
    refine go ?_
    refine Sx.ca rfl (machStep (b := b) kr_ (pop_link_ (G := G) hm.1 hk hq ha hd)) ?_
    rintro v L' ⟨rfl, u, rfl⟩
    refine go ?_
    exact Kr.one (.inr rfl) rfl (Ent.cons (Ent.cons (Ent.of s.back))) ⟨rfl, rfl⟩
   ·rw [show popNx (some ⟨b, 0, none⟩) q = .func (.func 263) #[.pointer (some ⟨b, 0, none⟩)] #[] by simp [popNx, hd, ha]]
    refine go ?_
    refine Sx.ca rfl (machStep (b := b) kr_ (pop_cas_ (G := G) hm.1 hk hq ha hd)) ?_
    rintro v L' ⟨rfl, u, rfl⟩
    refine go ?_
    exact Kr.one (.inr rfl) rfl (Ent.cons (Ent.cons (Ent.of s.back))) ⟨rfl, rfl⟩
theorem popDoneC {b sb : Nat} {k : Sk} {q : PopS} {F1 : St} [tp : Take L (some ⟨b, 0, none⟩) (PopO sb k q) F1] : Fx Tryz.prog 164 [.pointer (some ⟨b, 0, none⟩)] L (fun v L' => v = .bool q.done ∧ L = L') := by
 refine Fx.kept (t := tp) ?_
 refine Fx.mk Tryz.func164 k164 nb_ ?_
 dsimp only [c164, envOf, Nat.reduceAdd]
 refine Cx.openp (t := tp) rfl ?_
 rintro ⟨⟨r, c⟩, cnt⟩
 simp only [popL, List.cons_append, List.nil_append]
 refine Cx.liftp fun hq => ?_
 cases hd : q.done with
 | true =>
   have e : popNx (some ⟨b, 0, none⟩) q = .nilFunc := by simp [popNx, hd]
   rw [e]
   refine go ?_
   refine Sx.ca rfl (machDoneYes (b := b)) ?_
   rintro v L' ⟨rfl, rfl⟩
   refine go ?_
   exact Kr.one (.inr rfl) rfl (PopO.close (a := some ⟨b, 0, none⟩) (r := r) (sb := sb) (k := k) q hq e.symm rfl rfl rfl rfl rfl) ⟨rfl, rfl⟩
 | false =>
   have e : popNx (some ⟨b, 0, none⟩) q = .func (.func (match q.at_ with | 0 => 222 | 1 => 250 | _ => 263)) #[.pointer (some ⟨b, 0, none⟩)] #[] := by simp [popNx, hd]
   rw [e]
   refine go ?_
   refine Sx.ca rfl (machDoneNo (b := b)) ?_
   rintro v L' ⟨rfl, rfl⟩
   refine go ?_
   exact Kr.one (.inr rfl) rfl (PopO.close (a := some ⟨b, 0, none⟩) (r := r) (sb := sb) (k := k) q hq e.symm rfl rfl rfl rfl rfl) ⟨rfl, rfl⟩
theorem popGot {b sb : Nat} {k : Sk} {q : PopS} {F1 : St} (hd : q.done = true) [tp : Take L (some ⟨b, 0, none⟩) (PopO sb k q) F1] : Fx Tryz.prog 223 [.pointer (some ⟨b, 0, none⟩)] L
  (fun v L' => ∃ ro co, v = .slice ro q.got.length co ∧ L' = pt ro (Row 3 1 q.got.length co (ints q.got)) :: pt (some ⟨b, 0, none⟩) (PopO sb k q) :: F1) := by
 refine Fx.mk Tryz.func223 k223 nb_ ?_
 dsimp only [c223, envOf, Nat.reduceAdd]
 refine go ?_
 refine Sx.ca rfl (popDoneC (b := b) (sb := sb) (k := k) (q := q)) ?_
 rintro v L' ⟨rfl, rfl⟩
 rw [hd]
 refine go ?_
 refine Sx.openp (t := tp) rfl ?_
 rintro ⟨⟨r, c⟩, cnt⟩
 simp only [popL, List.cons_append, List.nil_append]
 refine Sx.liftp fun hq => ?_
 have hlen := hq.len
 refine go ?_
 refine Sx.rowkey (a := r) fun hxl _ _ hkr => ?_
 refine Sx.ca rfl (clone (Rd.any (a := r) hxl (hkr.imp (fun h => h.2.1) id)) (ones_ints _) (by omega)) ?_
 rintro v L' ⟨ra, ca, rfl, rfl⟩
 refine go ?_
 refine Kr.one (.inr rfl) rfl (Ent.cons (PopO.close (a := some ⟨b, 0, none⟩) (r := r) (sb := sb) (k := k) q hq rfl rfl rfl rfl rfl rfl)) ⟨ra, ca, rfl, rfl⟩
end
end Go.Proofs.YtflalhdofhobmaaGreat


namespace Go.Proofs.YtflalhdofhobmaaGreat
open Go
attribute [local irreducible] Sx Cx Rx Fx Krg Ksq Kbl Klp Kr
section
variable {L F : St}
abbrev cfg (w c wd sl ca ba : Int) : Value := .agg #[.int .i64 w, .int .i64 c, .int .i64 wd, .int .i64 sl, .int .i64 ca, .int .i64 ba]
def MayC (w c wd sl ca ba : Int) : Prop := (1 ≤ w ∧ w ≤ 64) ∧ (1 ≤ c ∧ c ≤ 4096) ∧ (8 ≤ wd ∧ wd ≤ 1024) ∧ wd.tmod 8 = 0 ∧ (1 ≤ sl ∧ sl ≤ 4096) ∧ (0 ≤ ca ∧ ca ≤ 64) ∧ (1 ≤ ba ∧ ba ≤ 8)
instance (w c wd sl ca ba : Int) : Decidable (MayC w c wd sl ca ba) := by unfold MayC; infer_instance
theorem within_ (n lo hi : Int) : Fx Tryz.prog 82 [.int .i64 n, .int .i64 lo, .int .i64 hi] L (fun v L' => v = .bool (decide (lo ≤ n ∧ n ≤ hi)) ∧ L = L') := by
 refine Fx.mk Tryz.func82 k82 nb_ ?_
 dsimp only [c82, envOf, Nat.reduceAdd]
 refine go ?_
 refine Sx.ifp rfl (fun h => ?_) (fun h => ?_)
 ·refine go ?_
  exact Kr.one (.inr rfl) rfl (Ent.refl _) ⟨by simp [pick, h], rfl⟩
 ·refine go ?_
  exact Kr.one (.inr rfl) rfl (Ent.refl _) ⟨by simp [pick, h], rfl⟩
theorem may_ (w c wd sl ca ba : Int) : Fx Tryz.prog 77 [cfg w c wd sl ca ba] L (fun v L' => v = .bool (decide (MayC w c wd sl ca ba)) ∧ L = L') := by
 refine Fx.mk Tryz.func77 k77 nb_ ?_
 dsimp only [c77, envOf, Nat.reduceAdd]
 refine go ?_
 refine Sx.bx rfl rfl fun g => ?_
 refine go ?_
 refine Sx.ca rfl (within_ w 1 64) ?_
 rintro v L' ⟨rfl, rfl⟩
 refine go ?_
 refine Sx.ifp rfl (fun h1 => ?_) (fun h1 => ?_)
 rotate_left
 ·refine go ?_
  exact Kr.one (.inr rfl) rfl Ent.drop ⟨by rw [decide_eq_false (fun h : MayC w c wd sl ca ba => h1 h.1)], rfl⟩
 refine go ?_
 refine Sx.ca rfl (within_ c 1 4096) ?_
 rintro v L' ⟨rfl, rfl⟩
 refine go ?_
 refine Sx.ifp rfl (fun h2 => ?_) (fun h2 => ?_)
 rotate_left
 ·refine go ?_
  exact Kr.one (.inr rfl) rfl Ent.drop ⟨by rw [decide_eq_false (fun h : MayC w c wd sl ca ba => h2 h.2.1)], rfl⟩
 refine go ?_
 refine Sx.ca rfl (within_ wd 8 1024) ?_
 rintro v L' ⟨rfl, rfl⟩
 refine go ?_
 refine Sx.ifp rfl (fun h3 => ?_) (fun h3 => ?_)
 rotate_left
 ·refine go ?_
  exact Kr.one (.inr rfl) rfl Ent.drop ⟨by rw [decide_eq_false (fun h : MayC w c wd sl ca ba => h3 h.2.2.1)], rfl⟩
 refine go ?_
 refine Sx.pv rfl (by decide) ?_
 refine go ?_
 refine Sx.ifp rfl (fun h4 => ?_) (fun h4 => ?_)
 rotate_left
 ·refine go ?_
  exact Kr.one (.inr rfl) rfl Ent.drop ⟨by rw [decide_eq_false (fun h : MayC w c wd sl ca ba => h4 h.2.2.2.1)], rfl⟩
 refine go ?_
 refine Sx.ca rfl (within_ sl 1 4096) ?_
 rintro v L' ⟨rfl, rfl⟩
 refine go ?_
 refine Sx.ifp rfl (fun h5 => ?_) (fun h5 => ?_)
 rotate_left
 ·refine go ?_
  exact Kr.one (.inr rfl) rfl Ent.drop ⟨by rw [decide_eq_false (fun h : MayC w c wd sl ca ba => h5 h.2.2.2.2.1)], rfl⟩
 refine go ?_
 refine Sx.ca rfl (within_ ca 0 64) ?_
 rintro v L' ⟨rfl, rfl⟩
 refine go ?_
 refine Sx.ifp rfl (fun h6 => ?_) (fun h6 => ?_)
 rotate_left
 ·refine go ?_
  exact Kr.one (.inr rfl) rfl Ent.drop ⟨by rw [decide_eq_false (fun h : MayC w c wd sl ca ba => h6 h.2.2.2.2.2.1)], rfl⟩
 refine go ?_
 refine Sx.ca rfl (within_ ba 1 8) ?_
 rintro v L' ⟨rfl, rfl⟩
 refine go ?_
 refine Kr.one (.inr rfl) rfl Ent.drop ⟨?_, rfl⟩
 simp only [pick, cond_true, Value.bool.injEq, decide_eq_decide]
 exact ⟨fun h => ⟨h1, h2, h3, h4, h5, h6, h⟩, fun h => h.2.2.2.2.2.2⟩
theorem in_ (n lo hi : Int) : Fx Tryz.prog 173 [.int .i64 n, .int .i64 lo, .int .i64 hi] L (fun v L' => v = .bool (decide (lo ≤ n ∧ n ≤ hi)) ∧ L = L') := by
 refine Fx.mk Tryz.func173 k173 nb_ ?_
 dsimp only [c173, envOf, Nat.reduceAdd]
 refine go ?_
 refine Sx.ifp rfl (fun h => ?_) (fun h => ?_)
 ·refine go ?_
  exact Kr.one (.inr rfl) rfl (Ent.refl _) ⟨by simp [pick, h], rfl⟩
 ·refine go ?_
  exact Kr.one (.inr rfl) rfl (Ent.refl _) ⟨by simp [pick, h], rfl⟩
theorem refMay_ (w c wd sl ca ba : Int) : Fx Tryz.prog 185 [cfg w c wd sl ca ba] L (fun v L' => v = .bool (decide (MayC w c wd sl ca ba)) ∧ L = L') := by
 refine Fx.mk Tryz.func185 k185 nb_ ?_
 dsimp only [c185, envOf, Nat.reduceAdd]
 refine go ?_
 refine Sx.bx rfl rfl fun g => ?_
 refine go ?_
 refine Sx.ca rfl (in_ w 1 64) ?_
 rintro v L' ⟨rfl, rfl⟩
 refine go ?_
 refine Sx.ifp rfl (fun h1 => ?_) (fun h1 => ?_)
 rotate_left
 ·refine go ?_
  exact Kr.one (.inr rfl) rfl Ent.drop ⟨by rw [decide_eq_false (fun h : MayC w c wd sl ca ba => h1 h.1)], rfl⟩
 refine go ?_
 refine Sx.ca rfl (in_ c 1 4096) ?_
 rintro v L' ⟨rfl, rfl⟩
 refine go ?_
 refine Sx.ifp rfl (fun h2 => ?_) (fun h2 => ?_)
 rotate_left
 ·refine go ?_
  exact Kr.one (.inr rfl) rfl Ent.drop ⟨by rw [decide_eq_false (fun h : MayC w c wd sl ca ba => h2 h.2.1)], rfl⟩
 refine go ?_
 refine Sx.ca rfl (in_ wd 8 1024) ?_
 rintro v L' ⟨rfl, rfl⟩
 refine go ?_
 refine Sx.ifp rfl (fun h3 => ?_) (fun h3 => ?_)
 rotate_left
 ·refine go ?_
  exact Kr.one (.inr rfl) rfl Ent.drop ⟨by rw [decide_eq_false (fun h : MayC w c wd sl ca ba => h3 h.2.2.1)], rfl⟩
 refine go ?_
 refine Sx.pv rfl (by decide) ?_
 refine go ?_
 refine Sx.ifp rfl (fun h4 => ?_) (fun h4 => ?_)
 rotate_left
 ·refine go ?_
  exact Kr.one (.inr rfl) rfl Ent.drop ⟨by rw [decide_eq_false (fun h : MayC w c wd sl ca ba => h4 h.2.2.2.1)], rfl⟩
 refine go ?_
 refine Sx.ca rfl (in_ sl 1 4096) ?_
 rintro v L' ⟨rfl, rfl⟩
 refine go ?_
 refine Sx.ifp rfl (fun h5 => ?_) (fun h5 => ?_)
 rotate_left
 ·refine go ?_
  exact Kr.one (.inr rfl) rfl Ent.drop ⟨by rw [decide_eq_false (fun h : MayC w c wd sl ca ba => h5 h.2.2.2.2.1)], rfl⟩
 refine go ?_
 refine Sx.ca rfl (in_ ca 0 64) ?_
 rintro v L' ⟨rfl, rfl⟩
 refine go ?_
 refine Sx.ifp rfl (fun h6 => ?_) (fun h6 => ?_)
 rotate_left
 ·refine go ?_
  exact Kr.one (.inr rfl) rfl Ent.drop ⟨by rw [decide_eq_false (fun h : MayC w c wd sl ca ba => h6 h.2.2.2.2.2.1)], rfl⟩
 refine go ?_
 refine Sx.ca rfl (in_ ba 1 8) ?_
 rintro v L' ⟨rfl, rfl⟩
 refine go ?_
 refine Kr.one (.inr rfl) rfl Ent.drop ⟨?_, rfl⟩
 simp only [pick, cond_true, Value.bool.injEq, decide_eq_decide]
 exact ⟨fun h => ⟨h1, h2, h3, h4, h5, h6, h⟩, fun h => h.2.2.2.2.2.2⟩
end
end Go.Proofs.YtflalhdofhobmaaGreat


namespace Go.Proofs.YtflalhdofhobmaaGreat
open Go
attribute [local irreducible] Sx Cx Rx Fx Krg Ksq Kbl Klp Kr
def startC (w c wd sl : Int) (i : Nat) : Int := match i with
 | 0 => 3
 | 1 => 3 + w
 | 2 => 3 + w + sl
 | 3 => 3 + w + sl + sl
 | 4 => 3 + w + sl + sl + c
 | _ => 3 + w + sl + sl + c + c * wd
def manyC (w c wd sl : Int) (i : Nat) : Int := match i with
 | 0 => w
 | 1 => sl
 | 2 => sl
 | 3 => c
 | _ => c * wd
def lenC (w c wd sl : Int) : Int := 3 + w + sl + sl + c + c * wd
def frC (w c wd sl : Int) (i j : Nat) : Value := .int .i64 (bif Nat.blt j i then startC w c wd sl j else 0)
def partsL (w c wd sl : Int) (i : Nat) : List Value :=
 [.int .i64 3, frC w c wd sl i 0, .int .i64 w, .int .i64 4, frC w c wd sl i 1, .int .i64 sl, .int .i64 5, frC w c wd sl i 2, .int .i64 sl, .int .i64 6, frC w c wd sl i 3, .int .i64 c, .int .i64 7, frC w c wd sl i 4, .int .i64 (c * wd)]
theorem MayC.mul {w c wd sl ca ba : Int} (h : MayC w c wd sl ca ba) : 8 ≤ c * wd ∧ c * wd ≤ 4194304 := by
 obtain ⟨_, h2, h3, _⟩ := h
 constructor
 ·have := Int.mul_le_mul h2.1 h3.1 (by omega) (by omega); omega
 ·have := Int.mul_le_mul h2.2 h3.2 (by omega) (by omega); omega
section
variable {L F : St}
set_option maxHeartbeats 2000000 in
theorem layParts (w c wd sl ca ba : Int) (h : MayC w c wd sl ca ba) : Fx Tryz.prog 78 [cfg w c wd sl ca ba] L (fun v L' => v = .agg (partsL w c wd sl 5).toArray ∧ L = L') := by
 have hm := h.mul
 obtain ⟨h1, h2, h3, h4, h5, h6, h7⟩ := h
 refine Fx.mk Tryz.func78 k78 nb_ ?_
 dsimp only [c78, envOf, Nat.reduceAdd]
 refine Cx.sq ?_
 refine Cx.rg ?_
 refine Sx.bx rfl rfl fun g => ?_
 refine Sx.al fun r => ?_
 refine go ?_
 rw [w64 (n := c * wd) (by omega) (by omega)]
 refine Sx.al fun q => ?_
 refine Sx.st (b := q) rfl rfl rfl rfl rfl rfl ?_
 refine go ?_
 refine Cx.lp (α := {i : Nat // i ≤ 5}) (fun i => [(2, .pointer (some ⟨r, 0, none⟩)), (3, .pointer (some ⟨q, 0, none⟩)), (4, .int .i64 (startC w c wd sl i.1)), (25, .int .i64 i.1)])
  (fun i => pt (some ⟨q, 0, none⟩) (Blk 143 (partsL w c wd sl i.1)) :: pt (some ⟨r, 0, none⟩) (Blk 143 (List.replicate 15 (.int .i64 0))) :: L) (fun i => 5 - i.1) ⟨0, by omega⟩ (sub.cons rfl (sub.cons rfl (sub.cons rfl (sub.cons rfl sub.nil)))) (Ent.cons (Ent.cons Ent.drop)) ?_
 rintro ⟨i, hi⟩
 dsimp only
 rcases (show i = 0 ∨ i = 1 ∨ i = 2 ∨ i = 3 ∨ i = 4 ∨ i = 5 by omega) with rfl | rfl | rfl | rfl | rfl | rfl
 ·refine gg ?_
  simp only [startC]
  rw [w64 (n := (3 : Int) + w) (by omega) (by omega)]
  exact Klp.nm ⟨0 + 1, by omega⟩ (sub.cons rfl (sub.cons rfl (sub.cons rfl (sub.cons rfl sub.nil)))) (Ent.refl _) (by simp)
 ·refine gg ?_
  simp only [startC]
  rw [w64 (n := 3 + w + sl) (by omega) (by omega)]
  exact Klp.nm ⟨1 + 1, by omega⟩ (sub.cons rfl (sub.cons rfl (sub.cons rfl (sub.cons rfl sub.nil)))) (Ent.refl _) (by simp)
 ·refine gg ?_
  simp only [startC]
  rw [w64 (n := 3 + w + sl + sl) (by omega) (by omega)]
  exact Klp.nm ⟨2 + 1, by omega⟩ (sub.cons rfl (sub.cons rfl (sub.cons rfl (sub.cons rfl sub.nil)))) (Ent.refl _) (by simp)
 ·refine gg ?_
  simp only [startC]
  rw [w64 (n := 3 + w + sl + sl + c) (by omega) (by omega)]
  exact Klp.nm ⟨3 + 1, by omega⟩ (sub.cons rfl (sub.cons rfl (sub.cons rfl (sub.cons rfl sub.nil)))) (Ent.refl _) (by simp)
 ·refine gg ?_
  simp only [startC]
  rw [w64 (n := 3 + w + sl + sl + c + c * wd) (by omega) (by omega)]
  exact Klp.nm ⟨4 + 1, by omega⟩ (sub.cons rfl (sub.cons rfl (sub.cons rfl (sub.cons rfl sub.nil)))) (Ent.refl _) (by simp)
 ·refine go ?_
  refine Sx.st (b := r) rfl rfl rfl rfl rfl rfl ?_
  refine go ?_
  exact Kr_cell (b := r) (.inr rfl) rfl rfl (L' := L) (Ent.trans Ent.drop Ent.drop) ⟨rfl, rfl⟩
theorem layLen (w c wd sl ca ba : Int) (h : MayC w c wd sl ca ba) : Fx Tryz.prog 17 [cfg w c wd sl ca ba] L (fun v L' => v = .int .i64 (lenC w c wd sl) ∧ L = L') := by
 have hm := h.mul
 refine Fx.mk Tryz.func17 k17 nb_ ?_
 dsimp only [c17, envOf, Nat.reduceAdd]
 refine Cx.sq ?_
 refine Cx.rg ?_
 refine Sx.bx rfl rfl fun g => ?_
 refine go ?_
 refine Sx.ca rfl (may_ w c wd sl ca ba) ?_
 rintro v L' ⟨rfl, rfl⟩
 rw [decide_eq_true h]
 refine go ?_
 refine Sx.ca rfl (layParts w c wd sl ca ba h) ?_
 rintro v L' ⟨rfl, rfl⟩
 obtain ⟨h1, h2, h3, h4, h5, h6, h7⟩ := h
 refine Sx.al fun q => ?_
 refine Sx.st (b := q) rfl rfl rfl rfl rfl rfl ?_
 refine gg ?_
 refine Sx.al fun r => ?_
 refine Sx.st (b := r) rfl rfl rfl rfl rfl rfl ?_
 refine go ?_
 exact Kr.one (.inr rfl) rfl (Ent.trans Ent.drop (Ent.trans Ent.drop Ent.drop)) ⟨congrArg (Value.int .i64) (w64 (n := 3 + w + sl + sl + c + c * wd) (by omega) (by omega)), rfl⟩
def cellC (w c wd sl : Int) (q : Nat) (n : Int) : Int := if 0 ≤ n ∧ n < manyC w c wd sl q then startC w c wd sl q + n else -1
set_option maxHeartbeats 8000000 in
theorem layCell (w c wd sl ca ba : Int) (h : MayC w c wd sl ca ba) (q : Nat) (hq : q < 5) (n : Int) (kd : Int) (hk : kd = 3 + q) : Fx Tryz.prog 83 [cfg w c wd sl ca ba, .int .i64 kd, .int .i64 n] L (fun v L' => v = .int .i64 (cellC w c wd sl q n) ∧ L = L') := by
 have hm := h.mul
 refine Fx.mk Tryz.func83 k83 nb_ ?_
 dsimp only [c83, envOf, Nat.reduceAdd]
 refine Cx.sq ?_
 refine Cx.rg ?_
 refine Sx.bx rfl rfl fun g => ?_
 refine go ?_
 refine Sx.ca rfl (may_ w c wd sl ca ba) ?_
 rintro v L' ⟨rfl, rfl⟩
 rw [decide_eq_true h]
 refine go ?_
 refine Sx.ca rfl (layParts w c wd sl ca ba h) ?_
 rintro v L' ⟨rfl, rfl⟩
 obtain ⟨h1, h2, h3, h4, h5, h6, h7⟩ := h
 refine go ?_
 refine Cx.lp (α := {i : Nat // i ≤ 5 ∧ (q < i → ¬ (0 ≤ n ∧ n < manyC w c wd sl q))}) (fun i => [(1, .int .i64 kd), (2, .int .i64 n), (13, .agg (partsL w c wd sl 5).toArray), (14, .int .i64 i.1)])
  (fun _ => L) (fun i => 5 - i.1) ⟨0, by omega, by omega⟩ (sub.cons rfl (sub.cons rfl (sub.cons rfl (sub.cons rfl sub.nil)))) Ent.drop ?_
 rintro ⟨i, hi, hno⟩
 dsimp only at hno ⊢
 rcases (show i = 0 ∨ i = 1 ∨ i = 2 ∨ i = 3 ∨ i = 4 ∨ i = 5 by omega) with rfl | rfl | rfl | rfl | rfl | rfl
 ·refine gg ?_
  refine Sx.al fun p => ?_
  refine Sx.st (b := p) rfl rfl rfl rfl rfl rfl ?_
  refine go ?_
  by_cases hqi : q = 0
  ·subst hqi
   refine Sx.gyes rfl (decide_eq_true (by omega)) ?_
   refine go ?_
   rw [w64 (n := w - 1) (by omega) (by omega)]
   refine Sx.ca rfl (within_ n 0 (w - 1)) ?_
   rintro v L' ⟨rfl, rfl⟩
   refine go ?_
   refine Cx.ifp rfl (fun hr => ?_) (fun hr => ?_)
   ·refine go ?_
    refine Kr.one (.inr rfl) rfl Ent.drop ⟨congrArg (Value.int .i64) ?_, rfl⟩
    unfold cellC
    rw [if_pos ⟨hr.1, by simp only [manyC]; omega⟩]
    exact w64 (n := startC w c wd sl 0 + n) (by simp only [startC]; omega) (by simp only [startC]; omega)
   ·refine go ?_
    exact Klp.nm ⟨0 + 1, by omega, fun _ hh => hr ⟨hh.1, by have := hh.2; simp only [manyC] at this; omega⟩⟩ (sub.cons rfl (sub.cons rfl (sub.cons rfl (sub.cons rfl sub.nil)))) Ent.drop (by simp)
  ·refine Sx.gno rfl (decide_eq_false (by omega)) ?_
   refine go ?_
   exact Klp.nm ⟨0 + 1, by omega, fun hh => hno (by omega)⟩ (sub.cons rfl (sub.cons rfl (sub.cons rfl (sub.cons rfl sub.nil)))) Ent.drop (by simp)
 ·refine gg ?_
  refine Sx.al fun p => ?_
  refine Sx.st (b := p) rfl rfl rfl rfl rfl rfl ?_
  refine go ?_
  by_cases hqi : q = 1
  ·subst hqi
   refine Sx.gyes rfl (decide_eq_true (by omega)) ?_
   refine go ?_
   rw [w64 (n := sl - 1) (by omega) (by omega)]
   refine Sx.ca rfl (within_ n 0 (sl - 1)) ?_
   rintro v L' ⟨rfl, rfl⟩
   refine go ?_
   refine Cx.ifp rfl (fun hr => ?_) (fun hr => ?_)
   ·refine go ?_
    refine Kr.one (.inr rfl) rfl Ent.drop ⟨congrArg (Value.int .i64) ?_, rfl⟩
    unfold cellC
    rw [if_pos ⟨hr.1, by simp only [manyC]; omega⟩]
    exact w64 (n := startC w c wd sl 1 + n) (by simp only [startC]; omega) (by simp only [startC]; omega)
   ·refine go ?_
    exact Klp.nm ⟨1 + 1, by omega, fun _ hh => hr ⟨hh.1, by have := hh.2; simp only [manyC] at this; omega⟩⟩ (sub.cons rfl (sub.cons rfl (sub.cons rfl (sub.cons rfl sub.nil)))) Ent.drop (by simp)
  ·refine Sx.gno rfl (decide_eq_false (by omega)) ?_
   refine go ?_
   exact Klp.nm ⟨1 + 1, by omega, fun hh => hno (by omega)⟩ (sub.cons rfl (sub.cons rfl (sub.cons rfl (sub.cons rfl sub.nil)))) Ent.drop (by simp)
 ·refine gg ?_
  refine Sx.al fun p => ?_
  refine Sx.st (b := p) rfl rfl rfl rfl rfl rfl ?_
  refine go ?_
  by_cases hqi : q = 2
  ·subst hqi
   refine Sx.gyes rfl (decide_eq_true (by omega)) ?_
   refine go ?_
   rw [w64 (n := sl - 1) (by omega) (by omega)]
   refine Sx.ca rfl (within_ n 0 (sl - 1)) ?_
   rintro v L' ⟨rfl, rfl⟩
   refine go ?_
   refine Cx.ifp rfl (fun hr => ?_) (fun hr => ?_)
   ·refine go ?_
    refine Kr.one (.inr rfl) rfl Ent.drop ⟨congrArg (Value.int .i64) ?_, rfl⟩
    unfold cellC
    rw [if_pos ⟨hr.1, by simp only [manyC]; omega⟩]
    exact w64 (n := startC w c wd sl 2 + n) (by simp only [startC]; omega) (by simp only [startC]; omega)
   ·refine go ?_
    exact Klp.nm ⟨2 + 1, by omega, fun _ hh => hr ⟨hh.1, by have := hh.2; simp only [manyC] at this; omega⟩⟩ (sub.cons rfl (sub.cons rfl (sub.cons rfl (sub.cons rfl sub.nil)))) Ent.drop (by simp)
  ·refine Sx.gno rfl (decide_eq_false (by omega)) ?_
   refine go ?_
   exact Klp.nm ⟨2 + 1, by omega, fun hh => hno (by omega)⟩ (sub.cons rfl (sub.cons rfl (sub.cons rfl (sub.cons rfl sub.nil)))) Ent.drop (by simp)
 ·refine gg ?_
  refine Sx.al fun p => ?_
  refine Sx.st (b := p) rfl rfl rfl rfl rfl rfl ?_
  refine go ?_
  by_cases hqi : q = 3
  ·subst hqi
   refine Sx.gyes rfl (decide_eq_true (by omega)) ?_
   refine go ?_
   rw [w64 (n := c - 1) (by omega) (by omega)]
   refine Sx.ca rfl (within_ n 0 (c - 1)) ?_
   rintro v L' ⟨rfl, rfl⟩
   refine go ?_
   refine Cx.ifp rfl (fun hr => ?_) (fun hr => ?_)
   ·refine go ?_
    refine Kr.one (.inr rfl) rfl Ent.drop ⟨congrArg (Value.int .i64) ?_, rfl⟩
    unfold cellC
    rw [if_pos ⟨hr.1, by simp only [manyC]; omega⟩]
    exact w64 (n := startC w c wd sl 3 + n) (by simp only [startC]; omega) (by simp only [startC]; omega)
   ·refine go ?_
    exact Klp.nm ⟨3 + 1, by omega, fun _ hh => hr ⟨hh.1, by have := hh.2; simp only [manyC] at this; omega⟩⟩ (sub.cons rfl (sub.cons rfl (sub.cons rfl (sub.cons rfl sub.nil)))) Ent.drop (by simp)
  ·refine Sx.gno rfl (decide_eq_false (by omega)) ?_
   refine go ?_
   exact Klp.nm ⟨3 + 1, by omega, fun hh => hno (by omega)⟩ (sub.cons rfl (sub.cons rfl (sub.cons rfl (sub.cons rfl sub.nil)))) Ent.drop (by simp)
 ·refine gg ?_
  refine Sx.al fun p => ?_
  refine Sx.st (b := p) rfl rfl rfl rfl rfl rfl ?_
  refine go ?_
  by_cases hqi : q = 4
  ·subst hqi
   refine Sx.gyes rfl (decide_eq_true (by omega)) ?_
   refine go ?_
   rw [w64 (n := c * wd - 1) (by omega) (by omega)]
   refine Sx.ca rfl (within_ n 0 (c * wd - 1)) ?_
   rintro v L' ⟨rfl, rfl⟩
   refine go ?_
   refine Cx.ifp rfl (fun hr => ?_) (fun hr => ?_)
   ·refine go ?_
    refine Kr.one (.inr rfl) rfl Ent.drop ⟨congrArg (Value.int .i64) ?_, rfl⟩
    unfold cellC
    rw [if_pos ⟨hr.1, by simp only [manyC]; omega⟩]
    exact w64 (n := startC w c wd sl 4 + n) (by simp only [startC]; omega) (by simp only [startC]; omega)
   ·refine go ?_
    exact Klp.nm ⟨4 + 1, by omega, fun _ hh => hr ⟨hh.1, by have := hh.2; simp only [manyC] at this; omega⟩⟩ (sub.cons rfl (sub.cons rfl (sub.cons rfl (sub.cons rfl sub.nil)))) Ent.drop (by simp)
  ·refine Sx.gno rfl (decide_eq_false (by omega)) ?_
   refine go ?_
   exact Klp.nm ⟨4 + 1, by omega, fun hh => hno (by omega)⟩ (sub.cons rfl (sub.cons rfl (sub.cons rfl (sub.cons rfl sub.nil)))) Ent.drop (by simp)
 ·refine go ?_
  refine Kr.one (.inr rfl) rfl (Ent.refl _) ⟨?_, rfl⟩
  unfold cellC
  rw [if_neg (hno hq)]
theorem layRoot (w c wd sl ca ba : Int) (h : MayC w c wd sl ca ba) (n : Int) : Fx Tryz.prog 94 [cfg w c wd sl ca ba, .int .i64 n] L (fun v L' => v = .int .i64 (cellC w c wd sl 1 n) ∧ L = L') := by
 refine Fx.mk Tryz.func94 k94 nb_ ?_
 dsimp only [c94, envOf, Nat.reduceAdd]
 refine Cx.sq ?_
 refine Cx.rg ?_
 refine Sx.bx rfl rfl fun g => ?_
 refine go ?_
 refine Sx.ca rfl (layCell w c wd sl ca ba h 1 (by omega) n _ (by omega)) ?_
 rintro v L' ⟨rfl, rfl⟩
 refine go ?_
 exact Kr.one (.inr rfl) rfl Ent.drop ⟨rfl, rfl⟩
theorem laySlot (w c wd sl ca ba : Int) (h : MayC w c wd sl ca ba) (n : Int) : Fx Tryz.prog 140 [cfg w c wd sl ca ba, .int .i64 n] L (fun v L' => v = .int .i64 (cellC w c wd sl 2 n) ∧ L = L') := by
 refine Fx.mk Tryz.func140 k140 nb_ ?_
 dsimp only [c140, envOf, Nat.reduceAdd]
 refine Cx.sq ?_
 refine Cx.rg ?_
 refine Sx.bx rfl rfl fun g => ?_
 refine go ?_
 refine Sx.ca rfl (layCell w c wd sl ca ba h 2 (by omega) n _ (by omega)) ?_
 rintro v L' ⟨rfl, rfl⟩
 refine go ?_
 exact Kr.one (.inr rfl) rfl Ent.drop ⟨rfl, rfl⟩
theorem layLink (w c wd sl ca ba : Int) (h : MayC w c wd sl ca ba) (n : Int) : Fx Tryz.prog 139 [cfg w c wd sl ca ba, .int .i64 n] L (fun v L' => v = .int .i64 (cellC w c wd sl 3 n) ∧ L = L') := by
 refine Fx.mk Tryz.func139 k139 nb_ ?_
 dsimp only [c139, envOf, Nat.reduceAdd]
 refine Cx.sq ?_
 refine Cx.rg ?_
 refine Sx.bx rfl rfl fun g => ?_
 refine go ?_
 refine Sx.ca rfl (layCell w c wd sl ca ba h 3 (by omega) n _ (by omega)) ?_
 rintro v L' ⟨rfl, rfl⟩
 refine go ?_
 exact Kr.one (.inr rfl) rfl Ent.drop ⟨rfl, rfl⟩
end
end Go.Proofs.YtflalhdofhobmaaGreat


namespace Go.Proofs.YtflalhdofhobmaaGreat
open Go
attribute [local irreducible] Sx Cx Rx Fx Krg Ksq Kbl Klp Kr
section
variable {L F G : St}
theorem fillM_ok {k : Sk} {m : Mm} (h : m.ok) (hn : k.n ≤ 4096) : (fillM k m).ok := Mm.ok_lay (Mm.ok_lay (fillUp_ok h _ (by omega)) (by omega)) (by omega)
set_option maxHeartbeats 1000000 in
theorem stackFill {sb mp : Nat} {k : Sk} {m : Mm} (hk : k.ok m.ws.length) [t : Take L (some ⟨mp, 0, none⟩) (MemO m) F] [s : Take F (some ⟨sb, 0, none⟩) (SkO mp k) G] :
  Fx Tryz.prog 141 [.pointer (some ⟨sb, 0, none⟩)] L (fun v L' => L' = pt (some ⟨mp, 0, none⟩) (MemO (fillM k m)) :: F) := by
 obtain ⟨k1, k2, k3, k4, k5, k6⟩ := hk
 have hul := fillUp_len k m k.n
 refine Fx.mk Tryz.func141 k141 nb_ ?_
 dsimp only [c141, envOf, Nat.reduceAdd]
 refine Cx.ent (Ent.trans (Ent.of t.out) (Ent.cons (Ent.of s.out))) ?_
 refine go ?_
 refine Cx.lp (α := {i : Nat // i ≤ k.n}) (fun i => [(0, .pointer (some ⟨sb, 0, none⟩)), (8, .int .i64 k.n), (9, .int .i64 i.1)]) (fun i => pt (some ⟨mp, 0, none⟩) (MemO (fillUp k m i.1)) :: pt (some ⟨sb, 0, none⟩) (SkO mp k) :: G)
  (fun i => k.n - i.1) ⟨0, by omega⟩ (sub.cons rfl (sub.cons rfl (sub.cons rfl sub.nil))) (Ent.refl _) ?_
 rintro ⟨i, hi⟩
 dsimp only
 refine go ?_
 refine Cx.ifp rfl (fun h => ?_) (fun h => ?_)
 ·have hil := fillUp_len k m i
  refine go ?_
  refine Cx.orde rfl kr_ ?_
  refine ge ?_
  rw [w64 (n := (k.links : Int) + i) (by omega) (by omega), w64 (n := (i : Int) + 2) (by omega) (by omega), wu64 (n := (i : Int) + 2) (by omega) (by omega), show (k.links : Int) + i = ((k.links + i : Nat) : Int) by omega, show (i : Int) + 2 = ((i + 2 : Nat) : Int) by omega]
  refine Ev.caH kr_ rfl rfl (cellsLay (b := mp) (m := fillUp k m i) (k.links + i) (i + 2) (by omega) (by omega)) (Pres.deps kr_) ?_
  rintro v L' ⟨rfl, rfl⟩
  refine ge ?_
  refine go ?_
  rw [w64 (n := (i : Int) + 1) (by omega) (by omega)]
  exact Klp.nm ⟨i + 1, by omega⟩ (sub.cons rfl (sub.cons rfl (sub.cons rfl sub.nil))) (Ent.refl _) (by dsimp only; omega)
 ·have hin : i = k.n := by omega
  subst hin
  refine go ?_
  refine Cx.ordc rfl kr_ ?_
  refine ge ?_
  rw [w64 (n := (k.links : Int) + k.n) (by omega) (by omega), w64 (n := (k.links : Int) + k.n - 1) (by omega) (by omega), show (k.links : Int) + k.n - 1 = ((k.links + k.n - 1 : Nat) : Int) by omega]
  refine Ev.caH kr_ rfl rfl (cellsLay (b := mp) (m := fillUp k m k.n) (k.links + k.n - 1) 0 (by omega) (by omega)) (Pres.deps kr_) ?_
  rintro v L' ⟨rfl, rfl⟩
  refine ge ?_
  refine go ?_
  refine Sx.ca rfl (putHead 0 0 (by omega) (by omega) (by omega)) ?_
  rintro v L' ⟨rfl, rfl⟩
  refine go ?_
  refine Cx.orde rfl kr_ ?_
  refine ge ?_
  refine Ev.caH kr_ rfl rfl (cellsLay (b := mp) (m := (fillUp k m k.n).lay (k.links + k.n - 1) 0) k.head 1 (by rw [Mm.len_lay]; omega) (by omega)) (Pres.deps kr_) ?_
  rintro v L' ⟨rfl, rfl⟩
  refine ge ?_
  exact Kr.none (.inl rfl) (Ent.cons (Ent.of s.back)) rfl
end
end Go.Proofs.YtflalhdofhobmaaGreat


namespace Go.Proofs.YtflalhdofhobmaaGreat
open Go
attribute [local irreducible] Sx Cx Rx Fx Krg Ksq Kbl Klp Kr
structure Cn where
 w : Nat
 c : Nat
 wd : Nat
 sl : Nat
 ca : Nat
 ba : Nat
abbrev Cn.v (x : Cn) : Value := cfg x.w x.c x.wd x.sl x.ca x.ba
abbrev Cn.l (x : Cn) : List Value := [.int .i64 x.w, .int .i64 x.c, .int .i64 x.wd, .int .i64 x.sl, .int .i64 x.ca, .int .i64 x.ba]
def Cn.ok (x : Cn) : Prop := MayC x.w x.c x.wd x.sl x.ca x.ba
def Cn.len (x : Cn) : Nat := 3 + x.w + x.sl + x.sl + x.c + x.c * x.wd
def Cn.link (x : Cn) : Nat := 3 + x.w + x.sl + x.sl
def Cn.slot (x : Cn) : Nat := 3 + x.w + x.sl
def Cn.pool (x : Cn) : Sk := ⟨0, x.link, x.c⟩
def Cn.spare (x : Cn) : Sk := ⟨1, x.slot, x.sl⟩
theorem Cn.lenC (x : Cn) : Proofs.YtflalhdofhobmaaGreat.lenC x.w x.c x.wd x.sl = (x.len : Int) := by unfold Proofs.YtflalhdofhobmaaGreat.lenC Cn.len; push_cast; rfl
theorem Cn.ok.len_le {x : Cn} (h : x.ok) : x.len ≤ 8388608 := by
 have hm := MayC.mul h
 obtain ⟨h1, h2, h3, h4, h5, h6, h7⟩ := h
 have : ((x.c * x.wd : Nat) : Int) ≤ 4194304 := by push_cast; exact hm.2
 unfold Cn.len; omega
theorem Cn.ok.pool {x : Cn} (h : x.ok) {n : Nat} (hn : x.len ≤ n) (hn2 : n ≤ 8388608) : x.pool.ok n := by
 obtain ⟨h1, h2, h3, h4, h5, h6, h7⟩ := h
 unfold Cn.len at hn
 refine ⟨?_, ?_, ?_, ?_, ?_, hn2⟩ <;> simp only [Cn.pool, Cn.link] <;> omega
theorem Cn.ok.spare {x : Cn} (h : x.ok) {n : Nat} (hn : x.len ≤ n) (hn2 : n ≤ 8388608) : x.spare.ok n := by
 obtain ⟨h1, h2, h3, h4, h5, h6, h7⟩ := h
 unfold Cn.len at hn
 refine ⟨?_, ?_, ?_, ?_, ?_, hn2⟩ <;> simp only [Cn.spare, Cn.slot] <;> omega
section
variable {L F G : St}
theorem layLinkN {x : Cn} (h : x.ok) (n : Nat) (hn : n < x.c) : Fx Tryz.prog 139 [x.v, .int .i64 n] L (fun v L' => v = .int .i64 ((x.link + n : Nat) : Int) ∧ L = L') := by
 refine (layLink _ _ _ _ _ _ h (n : Int)).mono ?_
 rintro v L' ⟨rfl, rfl⟩
 refine ⟨congrArg (Value.int .i64) ?_, rfl⟩
 unfold cellC
 rw [if_pos ⟨by omega, by simp only [manyC]; omega⟩]
 simp only [startC, Cn.link]
 push_cast; rfl
abbrev ChO (mp sb : Nat) (x : Cn) : Option Addr → As := Blk 215 (.pointer (some ⟨mp, 0, none⟩) :: x.l ++ [.pointer (some ⟨sb, 0, none⟩)])
set_option maxHeartbeats 1000000 in
theorem chainNew {mp : Nat} {m : Mm} {x : Cn} (hx : x.ok) (hl : x.len ≤ m.ws.length) [t : Take L (some ⟨mp, 0, none⟩) (MemO m) F] :
  Fx Tryz.prog 69 [.pointer (some ⟨mp, 0, none⟩), x.v] L (fun v L' => ∃ g sb, v = .tuple #[.pointer (some ⟨g, 0, none⟩), .int .i64 0] ∧ L' = pt (some ⟨g, 0, none⟩) (ChO mp sb x) :: pt (some ⟨sb, 0, none⟩) (SkO mp x.pool) :: L) := by
 refine Fx.mk Tryz.func69 k69 nb_ ?_
 dsimp only [c69, envOf, Nat.reduceAdd]
 refine Cx.pure (memKey (b := mp) (m := m)) fun hm => ?_
 refine Cx.sq ?_
 refine Cx.rg ?_
 refine Sx.bx rfl rfl fun g => ?_
 refine go ?_
 refine Cx.ordc rfl kr_ ?_
 refine ge ?_
 refine Ev.cakH kr_ rfl rfl (may_ (x.w : Int) x.c x.wd x.sl x.ca x.ba) ?_
 rw [decide_eq_true (show MayC (x.w : Int) x.c x.wd x.sl x.ca x.ba from hx)]
 refine ge ?_
 refine Ev.cakH kr_ rfl rfl (cellsLen (b := mp) (m := m)) ?_
 refine ge ?_
 refine Ev.cakH kr_ rfl rfl (layLen (x.w : Int) x.c x.wd x.sl x.ca x.ba hx) ?_
 rw [x.lenC]
 refine ge ?_
 refine Cx.cno rfl (decide_eq_false (by omega)) ?_
 refine go ?_
 refine Cx.ordc rfl kr_ ?_
 refine ge ?_
 refine Ev.cakH kr_ rfl rfl (layLinkN hx 0 (by have := hx.2.1; omega)) ?_
 refine ge ?_
 refine Ev.caH kr_ rfl rfl (stackNew (mp := mp) (m := m) (k := x.pool) (hx.pool hl hm.2)) (Pres.deps kr_) ?_
 rintro v L' ⟨sb, rfl, rfl⟩
 refine ge ?_
 refine go ?_
 refine Sx.bx rfl rfl fun q => ?_
 refine go ?_
 exact Kr.two (.inr rfl) rfl rfl (Ent.cons (Ent.cons Ent.drop)) ⟨q, sb, rfl, rfl⟩
theorem chainPool {g mp sb : Nat} {x : Cn} [t : Take L (some ⟨g, 0, none⟩) (ChO mp sb x) F] : Fx Tryz.prog 71 [.pointer (some ⟨g, 0, none⟩)] L (fun v L' => v = .pointer (some ⟨sb, 0, none⟩) ∧ L = L') := by
 refine Fx.mk Tryz.func71 k71 nb_ ?_
 dsimp only [c71, envOf, Nat.reduceAdd]
 refine go ?_
 exact Kr.one (.inr rfl) rfl (Ent.refl _) ⟨rfl, rfl⟩
theorem chainFill {g mp sb : Nat} {x : Cn} {m : Mm} {F G H : St} (hk : x.pool.ok m.ws.length) [t : Take L (some ⟨mp, 0, none⟩) (MemO m) F] [s : Take F (some ⟨sb, 0, none⟩) (SkO mp x.pool) G] [c : Take L (some ⟨g, 0, none⟩) (ChO mp sb x) H] :
  Fx Tryz.prog 72 [.pointer (some ⟨g, 0, none⟩)] L (fun v L' => L' = pt (some ⟨mp, 0, none⟩) (MemO (fillM x.pool m)) :: F) := by
 refine Fx.mk Tryz.func72 k72 nb_ ?_
 dsimp only [c72, envOf, Nat.reduceAdd]
 refine go ?_
 refine Sx.ca rfl (stackFill (sb := sb) (mp := mp) (k := x.pool) (m := m) hk) ?_
 rintro v L' rfl
 refine go ?_
 exact Kr.none (.inl rfl) (Ent.refl _) rfl
end
end Go.Proofs.YtflalhdofhobmaaGreat


namespace Go.Proofs.YtflalhdofhobmaaGreat
open Go
attribute [local irreducible] Sx Cx Rx Fx Krg Ksq Kbl Klp Kr
section
variable {L F G : St}
abbrev rtL (r : Rt) : List Value := [.int .i64 (r.gen : Nat), .int .i64 (r.mrk : Nat), .int .i64 (r.cl : Nat), .int .i64 (r.off : Nat)]
abbrev rtV (r : Rt) : Value := .agg #[.int .i64 (r.gen : Nat), .int .i64 (r.mrk : Nat), .int .i64 (r.cl : Nat), .int .i64 (r.off : Nat)]
theorem getRoot (w : Nat) (hw : w < 18446744073709551616) : Fx Tryz.prog 93 [wd w] L (fun v L' => v = rtV (rtOf w) ∧ L = L') := by
 refine Fx.mk Tryz.func93 k93 nb_ ?_
 dsimp only [c93, envOf, Nat.reduceAdd]
 refine Cx.sq ?_
 refine Cx.rg ?_
 refine Sx.al fun g => ?_
 refine go ?_
 refine Sx.ca rfl (bitsGet w 32 32 hw (by omega) (by omega)) ?_
 rintro v L' ⟨rfl, rfl⟩
 refine go ?_
 refine Sx.ca rfl (bitsGet w 16 16 hw (by omega) (by omega)) ?_
 rintro v L' ⟨rfl, rfl⟩
 refine go ?_
 refine Sx.ca rfl (bitsGet w 12 4 hw (by omega) (by omega)) ?_
 rintro v L' ⟨rfl, rfl⟩
 refine go ?_
 refine Sx.ca rfl (bitsGet w 0 12 hw (by omega) (by omega)) ?_
 rintro v L' ⟨rfl, rfl⟩
 refine go ?_
 have e1 : w / 2 ^ 32 % 2 ^ 32 = (rtOf w).gen := by show _ = w / 4294967296; omega
 have e2 : w / 2 ^ 16 % 2 ^ 16 = (rtOf w).mrk := rfl
 have e3 : w / 2 ^ 12 % 2 ^ 4 = (rtOf w).cl := rfl
 have e4 : w / 2 ^ 0 % 2 ^ 12 = (rtOf w).off := by show _ = w % 4096; omega
 have h1 := rtOf_gen hw
 have h2 := rtOf_mrk w
 have h3 := rtOf_cl w
 have h4 := rtOf_off w
 rw [e1, e2, e3, e4, w64 (n := ((rtOf w).gen : Int)) (by omega) (by omega), w64 (n := ((rtOf w).mrk : Int)) (by omega) (by omega), w64 (n := ((rtOf w).cl : Int)) (by omega) (by omega), w64 (n := ((rtOf w).off : Int)) (by omega) (by omega)]
 refine Sx.st (b := g) rfl rfl rfl rfl rfl rfl ?_
 dsimp only [lay]
 refine go ?_
 exact Kr_cell (b := g) (.inr rfl) rfl rfl (L' := L) Ent.drop ⟨rfl, rfl⟩
set_option maxHeartbeats 1000000 in
theorem putRoot (r : Rt) (h : r.ok) : Fx Tryz.prog 227 [rtV r] L (fun v L' => v = .tuple #[wd r.w, .bool true] ∧ L = L') := by
 obtain ⟨h1, h2, h3, h4⟩ := h
 refine Fx.mk Tryz.func227 k227 nb_ ?_
 dsimp only [c227, envOf, Nat.reduceAdd]
 refine Cx.sq ?_
 refine Cx.rg ?_
 refine Sx.bx rfl rfl fun g => ?_
 refine go ?_
 iterate 4
  refine Sx.ca rfl (wordWithin _ _ _ (by omega) (by omega)) ?_
  rintro v L' ⟨rfl, rfl⟩
  refine go ?_
 rw [wrap64 (n := r.off) (by omega)]
 refine Sx.ca rfl (bitsPut 0 0 12 r.off (by omega) (by omega) (by omega) (by omega)) ?_
 rintro v L' ⟨rfl, rfl⟩
 refine go ?_
 rw [wrap64 (n := r.cl) (by omega)]
 refine Sx.ca rfl (bitsPut (r.off * 2 ^ 0 + 0) 12 4 r.cl (by omega) (by omega) (by omega) (by omega)) ?_
 rintro v L' ⟨rfl, rfl⟩
 refine go ?_
 rw [wrap64 (n := r.mrk) (by omega)]
 refine Sx.ca rfl (bitsPut (r.cl * 2 ^ 12 + (r.off * 2 ^ 0 + 0)) 16 16 r.mrk (by omega) (by omega) (by omega) (by omega)) ?_
 rintro v L' ⟨rfl, rfl⟩
 refine go ?_
 rw [wrap64 (n := r.gen) (by omega)]
 refine Sx.ca rfl (bitsPut (r.mrk * 2 ^ 16 + (r.cl * 2 ^ 12 + (r.off * 2 ^ 0 + 0))) 32 32 r.gen (by omega) (by omega) (by omega) (by omega)) ?_
 rintro v L' ⟨rfl, rfl⟩
 refine go ?_
 refine Kr.two (.inr rfl) rfl rfl Ent.drop ⟨?_, rfl⟩
 rw [show r.gen * 2 ^ 32 + (r.mrk * 2 ^ 16 + (r.cl * 2 ^ 12 + (r.off * 2 ^ 0 + 0))) = r.w by unfold Rt.w; omega]
theorem wordLive (r : Rt) (gen : Int) : Fx Tryz.prog 152 [rtV r, .int .i64 gen] L (fun v L' => v = .bool (decide (r.live gen)) ∧ L = L') := by
 refine Fx.mk Tryz.func152 k152 nb_ ?_
 dsimp only [c152, envOf, Nat.reduceAdd]
 refine Cx.sq ?_
 refine Cx.rg ?_
 refine Sx.bx rfl rfl fun g => ?_
 refine go ?_
 refine Sx.ifp rfl (fun h => ?_) (fun h => ?_)
 ·refine go ?_
  refine Kr.one (.inr rfl) rfl Ent.drop ⟨congrArg Value.bool (decide_eq_decide.2 ?_), rfl⟩
  unfold Rt.live
  omega
 ·refine go ?_
  refine Kr.one (.inr rfl) rfl Ent.drop ⟨congrArg Value.bool (decide_eq_false (fun hh => h ?_)).symm, rfl⟩
  have := hh.1
  omega
theorem wordChunk (r : Rt) (h : r.mrk < 65536) : Fx Tryz.prog 213 [rtV r] L (fun v L' => v = .int .i64 r.chunk ∧ L = L') := by
 refine Fx.mk Tryz.func213 k213 nb_ ?_
 dsimp only [c213, envOf, Nat.reduceAdd]
 refine Cx.sq ?_
 refine Cx.rg ?_
 refine Sx.bx rfl rfl fun g => ?_
 refine go ?_
 refine Cx.ifp rfl (fun h => ?_) (fun h => ?_)
 ·refine go ?_
  refine Kr.one (.inr rfl) rfl Ent.drop ⟨congrArg (Value.int .i64) ?_, rfl⟩
  unfold Rt.chunk
  rw [if_pos (by omega)]
 ·refine go ?_
  rw [w64 (n := (r.mrk : Int) - 2) (by omega) (by omega)]
  refine Kr.one (.inr rfl) rfl Ent.drop ⟨congrArg (Value.int .i64) ?_, rfl⟩
  unfold Rt.chunk
  rw [if_neg (by omega)]
theorem sizeRound (cl n : Nat) (hc : cl ≤ 3) (hn : 1 ≤ n) (hn2 : n ≤ 1024) : Fx Tryz.prog 154 [.int .i64 cl, .int .i64 n] L (fun v L' => v = .int .i64 (roundS cl n : Nat) ∧ L = L') := by
 refine Fx.mk Tryz.func154 k154 nb_ ?_
 dsimp only [c154, envOf, Nat.reduceAdd]
 have hr := roundS_cases (n := n) hc
 refine go ?_
 refine Sx.gyes rfl (decide_eq_false (by omega)) ?_
 refine go ?_
 refine Cx.cno rfl (decide_eq_false (by omega)) ?_
 refine go ?_
 have e1 : (bif true then (if (cl : Int) < 0 then (0 : Int) else (cl : Int)) else (if (0 : Int) < (cl : Int) then (0 : Int) else (cl : Int))) = cl := by
  rw [cond_true, if_neg (by omega)]
 have e2 : (bif false then (if (cl : Int) < 3 then (3 : Int) else (cl : Int)) else (if (3 : Int) < (cl : Int) then (3 : Int) else (cl : Int))) = cl := by
  rw [cond_false, if_neg (by omega)]
 rw [e1, e2]
 refine Sx.pv rfl (by omega) ?_
 have hp : 1 ≤ 2 ^ cl ∧ 2 ^ cl ≤ 8 := by rcases (show cl = 0 ∨ cl = 1 ∨ cl = 2 ∨ cl = 3 by omega) with rfl | rfl | rfl | rfl <;> decide
 have e3 : min (cl : Int).toNat IntKind.i64.bits = cl := by rw [Int.toNat_natCast]; exact Nat.min_eq_left (by show cl ≤ 64; omega)
 obtain ⟨P, hP⟩ : ∃ P, P = 2 ^ cl := ⟨_, rfl⟩
 rw [← hP] at hp
 rw [e3, show (1 : Int) * 2 ^ cl = ((2 ^ cl : Nat) : Int) by push_cast; omega, ← hP, w64 (n := (P : Int)) (by omega) (by omega)]
 refine go ?_
 rw [w64 (n := (n : Int) + P) (by omega) (by omega), w64 (n := (n : Int) + P - 1) (by omega) (by omega)]
 refine Sx.pv rfl (by omega) ?_
 have e4 : Int.tdiv ((n : Int) + P - 1) P = (((n + P - 1) / P : Nat) : Int) := by
  rw [show (n : Int) + P - 1 = ((n + P - 1 : Nat) : Int) by omega]; rfl
 have e5 : (n + P - 1) / P * P ≤ n + P - 1 := Nat.div_mul_le_self _ _
 have e6 : (n + P - 1) / P ≤ n + P - 1 := Nat.div_le_self _ _
 have e7 : roundS cl n = (n + P - 1) / P * P := by unfold roundS; rw [hP]
 have e8 : (((n + P - 1) / P : Nat) : Int) * (P : Int) = (((n + P - 1) / P * P : Nat) : Int) := by push_cast; rfl
 obtain ⟨D, hD⟩ : ∃ D, (n + P - 1) / P = D := ⟨_, rfl⟩
 rw [hD] at e4 e5 e6 e7 e8
 obtain ⟨E, hE⟩ : ∃ E, D * P = E := ⟨_, rfl⟩
 rw [hE] at e5 e7 e8
 rw [e4, w64 (n := (D : Int)) (by omega) (by omega)]
 refine go ?_
 rw [e8, w64 (n := (E : Int)) (by omega) (by omega), ← e7]
 exact Kr.one (.inr rfl) rfl (Ent.refl _) ⟨rfl, rfl⟩
theorem sizeRight (wd need : Nat) (hw : 1 ≤ wd) (hw2 : wd ≤ 1024) (hn : 1 ≤ need) (hn2 : need ≤ wd) : Fx Tryz.prog 210 [.int .i64 wd, .int .i64 need] L (fun v L' => v = .bool true ∧ L = L') := by
 refine Fx.mk Tryz.func210 k210 nb_ ?_
 dsimp only [c210, envOf, Nat.reduceAdd]
 refine go ?_
 iterate 3 (refine Sx.gyes rfl (decide_eq_true (by omega)) ?_; refine go ?_)
 refine Kr.one (.inr rfl) rfl (Ent.refl _) ⟨congrArg Value.bool (decide_eq_true (by omega)), rfl⟩
theorem sizeAlone (wd need : Nat) (hw : 1 ≤ wd) (hw2 : wd ≤ 1024) (hn : 1 ≤ need) (hn2 : need ≤ wd) : Fx Tryz.prog 211 [.int .i64 wd, .int .i64 need] L (fun v L' => v = .bool (decide (wd < 2 * need)) ∧ L = L') := by
 refine Fx.mk Tryz.func211 k211 nb_ ?_
 dsimp only [c211, envOf, Nat.reduceAdd]
 refine go ?_
 refine Sx.ca rfl (sizeRight wd need hw hw2 hn hn2) ?_
 rintro v L' ⟨rfl, rfl⟩
 refine go ?_
 rw [w64 (n := 2 * (need : Int)) (by omega) (by omega)]
 refine Kr.one (.inr rfl) rfl (Ent.refl _) ⟨congrArg Value.bool (decide_eq_decide.2 (by omega)), rfl⟩
theorem sizeFits (wd off need : Nat) (hw : 1 ≤ wd) (hw2 : wd ≤ 1024) (hn : 1 ≤ need) (hn2 : need ≤ wd) : Fx Tryz.prog 155 [.int .i64 wd, .int .i64 off, .int .i64 need] L (fun v L' => v = .bool (decide (fitsS wd off need)) ∧ L = L') := by
 refine Fx.mk Tryz.func155 k155 nb_ ?_
 dsimp only [c155, envOf, Nat.reduceAdd]
 refine go ?_
 refine Sx.ca rfl (sizeRight wd need hw hw2 hn hn2) ?_
 rintro v L' ⟨rfl, rfl⟩
 refine go ?_
 refine Sx.ca rfl (sizeAlone wd need hw hw2 hn hn2) ?_
 rintro v L' ⟨rfl, rfl⟩
 by_cases h : wd < 2 * need
 ·rw [decide_eq_true h]
  refine go ?_
  refine Kr.one (.inr rfl) rfl (Ent.refl _) ⟨congrArg Value.bool (decide_eq_false (fun hh => ?_)).symm, rfl⟩
  have := hh.1; omega
 ·rw [decide_eq_false h]
  refine go ?_
  rw [w64 (n := (wd : Int) - need) (by omega) (by omega)]
  refine Kr.one (.inr rfl) rfl (Ent.refl _) ⟨congrArg Value.bool (decide_eq_decide.2 ?_), rfl⟩
  unfold fitsS; omega
theorem sizeAfter (wd need : Nat) (hw : 1 ≤ wd) (hw2 : wd ≤ 1024) (hn : 1 ≤ need) (hn2 : need ≤ wd) : Fx Tryz.prog 247 [.int .i64 wd, .int .i64 need] L (fun v L' => v = .int .i64 (afterS wd need : Nat) ∧ L = L') := by
 refine Fx.mk Tryz.func247 k247 nb_ ?_
 dsimp only [c247, envOf, Nat.reduceAdd]
 refine go ?_
 refine Sx.ca rfl (sizeRight wd need hw hw2 hn hn2) ?_
 rintro v L' ⟨rfl, rfl⟩
 refine go ?_
 refine Sx.ca rfl (sizeAlone wd need hw hw2 hn hn2) ?_
 rintro v L' ⟨rfl, rfl⟩
 by_cases h : wd < 2 * need
 ·rw [decide_eq_true h]
  refine go ?_
  refine Kr.one (.inr rfl) rfl (Ent.refl _) ⟨by unfold afterS; rw [if_pos h], rfl⟩
 ·rw [decide_eq_false h]
  refine go ?_
  refine Kr.one (.inr rfl) rfl (Ent.refl _) ⟨by unfold afterS; rw [if_neg h], rfl⟩
def Cn.root (x : Cn) : Nat := 3 + x.w
def Cn.word (x : Cn) : Nat := 3 + x.w + x.sl + x.sl + x.c
theorem layRootN {x : Cn} (h : x.ok) (n : Nat) (hn : n < x.sl) : Fx Tryz.prog 94 [x.v, .int .i64 n] L (fun v L' => v = .int .i64 ((x.root + n : Nat) : Int) ∧ L = L') := by
 refine (layRoot _ _ _ _ _ _ h (n : Int)).mono ?_
 rintro v L' ⟨rfl, rfl⟩
 refine ⟨congrArg (Value.int .i64) ?_, rfl⟩
 unfold cellC
 rw [if_pos ⟨by omega, by simp only [manyC]; omega⟩]
 simp only [startC, Cn.root]
 push_cast; rfl
theorem laySlotN {x : Cn} (h : x.ok) (n : Nat) (hn : n < x.sl) : Fx Tryz.prog 140 [x.v, .int .i64 n] L (fun v L' => v = .int .i64 ((x.slot + n : Nat) : Int) ∧ L = L') := by
 refine (laySlot _ _ _ _ _ _ h (n : Int)).mono ?_
 rintro v L' ⟨rfl, rfl⟩
 refine ⟨congrArg (Value.int .i64) ?_, rfl⟩
 unfold cellC
 rw [if_pos ⟨by omega, by simp only [manyC]; omega⟩]
 simp only [startC, Cn.slot]
 push_cast; rfl
theorem layWordN {x : Cn} (h : x.ok) (k j : Nat) (hk : k < x.c) (hj : j < x.wd) : Fx Tryz.prog 24 [x.v, .int .i64 k, .int .i64 j] L (fun v L' => v = .int .i64 ((x.word + k * x.wd + j : Nat) : Int) ∧ L = L') := by
 have hmay : MayC (x.w : Int) x.c x.wd x.sl x.ca x.ba := h
 have hm := MayC.mul hmay
 have hlt : k * x.wd + j < x.c * x.wd := by
  have h1 : (k + 1) * x.wd ≤ x.c * x.wd := Nat.mul_le_mul_right _ hk
  rw [Nat.succ_mul] at h1
  omega
 have hcast : ((x.c * x.wd : Nat) : Int) = (x.c : Int) * x.wd := by push_cast; rfl
 have hcast2 : ((k * x.wd : Nat) : Int) = (k : Int) * x.wd := by push_cast; rfl
 refine Fx.mk Tryz.func24 k24 nb_ ?_
 dsimp only [c24, envOf, Nat.reduceAdd]
 refine Cx.sq ?_
 refine Cx.rg ?_
 refine Sx.bx rfl rfl fun g => ?_
 refine go ?_
 obtain ⟨b1, b2, b3, b4, b5, b6, b7⟩ := hmay
 rw [w64 (n := (x.c : Int) - 1) (by omega) (by omega)]
 refine Sx.ca rfl (within_ (k : Int) 0 ((x.c : Int) - 1)) ?_
 rintro v L' ⟨rfl, rfl⟩
 rw [decide_eq_true (show (0 : Int) ≤ k ∧ (k : Int) ≤ (x.c : Int) - 1 by omega)]
 refine go ?_
 rw [w64 (n := (x.wd : Int) - 1) (by omega) (by omega)]
 refine Sx.ca rfl (within_ (j : Int) 0 ((x.wd : Int) - 1)) ?_
 rintro v L' ⟨rfl, rfl⟩
 rw [decide_eq_true (show (0 : Int) ≤ j ∧ (j : Int) ≤ (x.wd : Int) - 1 by omega)]
 refine go ?_
 refine Sx.ca rfl (may_ (x.w : Int) x.c x.wd x.sl x.ca x.ba) ?_
 rintro v L' ⟨rfl, rfl⟩
 rw [decide_eq_true (show MayC (x.w : Int) x.c x.wd x.sl x.ca x.ba from h)]
 refine go ?_
 rw [w64 (n := (k : Int) * x.wd) (by omega) (by omega), w64 (n := (k : Int) * x.wd + j) (by omega) (by omega)]
 refine Sx.ca rfl (layCell _ _ _ _ _ _ h 4 (by omega) ((k : Int) * x.wd + j) _ (by omega)) ?_
 rintro v L' ⟨rfl, rfl⟩
 refine go ?_
 refine Kr.one (.inr rfl) rfl Ent.drop ⟨congrArg (Value.int .i64) ?_, rfl⟩
 unfold cellC
 rw [if_pos ⟨by omega, by simp only [manyC]; omega⟩]
 simp only [startC, Cn.word]
 push_cast; omega
end
end Go.Proofs.YtflalhdofhobmaaGreat


namespace Go.Proofs.YtflalhdofhobmaaGreat
open Go
section
variable {P : Program} {N : Nat} {e : En} {L F : St}
theorem cRs_tc {rs : List ResultVar} {t u n : Nat} {g : Bool} (h : cRs P rs = some [.t t, .c u n g]) : ∃ ty, rs = [.tmp t, .cell u ty] ∧ szT P ty = some n ∧ isAggT P ty = some g := by
 match rs with
 | [] => simp [cRs] at h
 | r :: l =>
   simp only [cRs] at h
   split at h
   ·rename_i r' hr
    split at h
    ·rename_i l' hl
     simp only [Option.some.injEq, List.cons.injEq] at h
     obtain ⟨rfl, rfl⟩ := h
     obtain ⟨ty, rfl, h1, h2⟩ := cRs_cell hl
     cases r with
     | tmp t' => simp [cR] at hr; exact ⟨ty, by rw [hr], h1, h2⟩
     | cell a t' => simp only [cR] at hr; split at hr <;> cases hr
    ·cases h
   ·cases h
theorem Rv_tc {t u n b off : Nat} {x : Value} {vs : List Value} (hx : e.get t = some x) (h : e.get u = some (.pointer (some ⟨b, off, none⟩))) (hh : Has L b off vs) (hn : Nat.beq vs.length n = true) : Rv P N [.t t, .c u n true] e L (.tuple #[x, .agg vs.toArray]) := by
 intro fn a w0 w hr ok s
 obtain ⟨ty, hres, hs, hg⟩ := cRs_tc hr
 have hr2 : fn.results = #[.tmp t, .cell u ty] := by apply Array.ext'; simpa using hres
 have ht := ok.get _ _ h
 have ht2 := ok.get _ _ hx
 have hc := hh w0 w s
 have hn := Nat.eq_of_beq_eq_true hn
 have hl := run_loadCells_list (P := P) w ⟨b, off, none⟩ vs (fun j v hj => by rw [partPlace]; exact hc j v hj)
 rw [hn] at hl
 simp [results, hr2, ht, ht2, loadVar, isAggT_eq hg, szT_eq hs, hl, asAddr]
theorem Kr_tc {R : Value → St → Prop} {t u n b : Nat} {v : Value} {T : TypeId} {cs : List Value} {x : Ex} [i : Take L (some ⟨b, 0, none⟩) (Blk T cs) F] (hx : x = .nm ∨ x = .rt) (hv : e.get t = some v) (h : e.get u = some (.pointer (some ⟨b, 0, none⟩))) (hn : Nat.beq cs.length n = true)
  {L' : St} (hL : Ent L L') (hR : R (.tuple #[v, .agg cs.toArray]) L') : Kr P N [.t t, .c u n true] R x e L := by
 have hn' := Nat.eq_of_beq_eq_true hn
 have e1 : (cs.drop 0).take n = cs := by simp [← hn']
 have hb : Has L b 0 cs := by
  have := Has.blk (T := T) (cs := cs) (n := n) (off := 0) (L := L) (b := b)
  rw [e1] at this; exact this
 exact ⟨hx, _, L', Rv_tc hv h hb hn, hL, hR⟩
end
section
variable {P : Program} {N : Nat} {Kf : En → St → Prop} {r : List It} {ms : List (Nat × (St → Prop))} {e : En} {L F : St} {i ds : Nat} {rs : List Nat} {d : Option Nat} {g : Option (Nat × Bool)}
theorem Ev.stnH {x v : X} {b off n : Nat} {T : TypeId} {cs vs : List Value} (ds' : List Value) {u : Value} [t : Take L (some ⟨b, 0, none⟩) (Blk T cs) F] (hd : lastly i r = true) (hg : gon (e.only rs) g = true)
  (hx : x.get (e.only rs) = some (.pointer (some ⟨b, off, none⟩))) (hv : v.get (e.only rs) = some u) (hu : cellsOf u = some vs) (hn : vs.length = n) (h1 : ones vs = true) (hl : Nat.ble (off + n) cs.length = true) (hds : lay cs off vs = ds')
  (hp : Pres ds (fun v L' => v = undef ∧ L' = pt (some ⟨b, 0, none⟩) (Blk T ds') :: F) ms)
  (k : Ev P N Kf r ms (e.put d undef) (pt (some ⟨b, 0, none⟩) (Blk T ds') :: F)) : Ev P N Kf (⟨i, ds, rs, ⟨d, g, .st x v n⟩⟩ :: r) ms e L := by
 subst hds
 exact .genH hd hp hg (fun e' hs K kk => Sx.st (t := t) (X.get_sub hx hs) (X.get_sub hv hs) hu hn h1 hl (Sx.nil (kk _ _ ⟨rfl, rfl⟩)))
  (fun v L' ⟨e1, e2⟩ => by subst e1; subst e2; exact k)
end
end Go.Proofs.YtflalhdofhobmaaGreat


namespace Go.Proofs.YtflalhdofhobmaaGreat
open Go
attribute [local irreducible] Sx Cx Rx Fx Krg Ksq Kbl Klp Kr
section
variable {L F G : St}
theorem machCount {b : Nat} {T : TypeId} {nx z1 z2 z3 : Value} {cnt : Int} {rest : List Value} [t : Take L (some ⟨b, 0, none⟩) (Blk T (nx :: z1 :: z2 :: z3 :: .int .i64 cnt :: rest)) F] : Fx Tryz.prog 175 [.pointer (some ⟨b, 0, none⟩)] L (fun v L' => v = .int .i64 cnt ∧ L = L') := by
 refine Fx.mk Tryz.func175 k175 nb_ ?_
 dsimp only [c175, envOf, Nat.reduceAdd]
 refine go ?_
 exact Kr.one (.inr rfl) rfl (Ent.refl _) ⟨rfl, rfl⟩
abbrev RoO (mp sb : Nat) (x : Cn) : Option Addr → As := Blk 167 (.pointer (some ⟨mp, 0, none⟩) :: x.l ++ [.pointer (some ⟨sb, 0, none⟩)])
set_option maxHeartbeats 1000000 in
theorem rootsNew {mp : Nat} {m : Mm} {x : Cn} (hx : x.ok) (hl : x.len ≤ m.ws.length) [t : Take L (some ⟨mp, 0, none⟩) (MemO m) F] :
  Fx Tryz.prog 70 [.pointer (some ⟨mp, 0, none⟩), x.v] L (fun v L' => ∃ g sb, v = .tuple #[.pointer (some ⟨g, 0, none⟩), .int .i64 0] ∧ L' = pt (some ⟨g, 0, none⟩) (RoO mp sb x) :: pt (some ⟨sb, 0, none⟩) (SkO mp x.spare) :: L) := by
 refine Fx.mk Tryz.func70 k70 nb_ ?_
 dsimp only [c70, envOf, Nat.reduceAdd]
 refine Cx.pure (memKey (b := mp) (m := m)) fun hm => ?_
 refine Cx.sq ?_
 refine Cx.rg ?_
 refine Sx.bx rfl rfl fun g => ?_
 refine go ?_
 refine Cx.ordc rfl kr_ ?_
 refine ge ?_
 refine Ev.cakH kr_ rfl rfl (may_ (x.w : Int) x.c x.wd x.sl x.ca x.ba) ?_
 rw [decide_eq_true (show MayC (x.w : Int) x.c x.wd x.sl x.ca x.ba from hx)]
 refine ge ?_
 refine Ev.cakH kr_ rfl rfl (cellsLen (b := mp) (m := m)) ?_
 refine ge ?_
 refine Ev.cakH kr_ rfl rfl (layLen (x.w : Int) x.c x.wd x.sl x.ca x.ba hx) ?_
 rw [x.lenC]
 refine ge ?_
 refine Cx.cno rfl (decide_eq_false (by omega)) ?_
 refine go ?_
 refine Cx.ordc rfl kr_ ?_
 refine ge ?_
 refine Ev.cakH kr_ rfl rfl (laySlotN hx 0 (by have := hx.2.2.2.2.1; omega)) ?_
 refine ge ?_
 refine Ev.caH kr_ rfl rfl (stackNew (mp := mp) (m := m) (k := x.spare) (hx.spare hl hm.2)) (Pres.deps kr_) ?_
 rintro v L' ⟨sb, rfl, rfl⟩
 refine ge ?_
 refine go ?_
 refine Sx.bx rfl rfl fun q => ?_
 refine go ?_
 exact Kr.two (.inr rfl) rfl rfl (Ent.cons (Ent.cons Ent.drop)) ⟨q, sb, rfl, rfl⟩
def zeroRt (x : Cn) (m : Mm) : Nat → Mm
 | 0 => m
 | i + 1 => (zeroRt x m i).lay (x.root + i) 0
theorem zeroRt_len (x : Cn) (m : Mm) : ∀ i, (zeroRt x m i).ws.length = m.ws.length
 | 0 => rfl
 | i + 1 => by simp only [zeroRt, Mm.len_lay]; exact zeroRt_len x m i
theorem lay_same {m : Mm} {i v : Nat} (h : i < m.ws.length) (e : m.at_ i = v) : m.lay i v = m := by
 have hg := Mm.get h
 unfold Mm.lay
 rw [← e]
 congr 1
 rw [List.getElem?_eq_getElem h] at hg
 have e2 : m.at_ i = m.ws[i] := by simpa using hg.symm
 rw [e2]
 exact List.set_getElem_self h
theorem zeroRt_same {x : Cn} {m : Mm} (hl : x.root + x.sl ≤ m.ws.length) (h : ∀ i, i < x.sl → m.at_ (x.root + i) = 0) : ∀ i, i ≤ x.sl → zeroRt x m i = m
 | 0, _ => rfl
 | i + 1, hi => by
   simp only [zeroRt]
   rw [zeroRt_same hl h i (by omega)]
   exact lay_same (by omega) (h i (by omega))
set_option maxHeartbeats 1000000 in
theorem rootsFill {g mp sb : Nat} {x : Cn} {m : Mm} {F G H : St} (hx : x.ok) (hl : x.len ≤ m.ws.length) [t : Take L (some ⟨mp, 0, none⟩) (MemO m) F] [s : Take F (some ⟨sb, 0, none⟩) (SkO mp x.spare) G] [c : Take G (some ⟨g, 0, none⟩) (RoO mp sb x) H] :
  Fx Tryz.prog 73 [.pointer (some ⟨g, 0, none⟩)] L (fun v L' => L' = pt (some ⟨mp, 0, none⟩) (MemO (zeroRt x (fillM x.spare m) x.sl)) :: F) := by
 obtain ⟨b1, b2, b3, b4, b5, b6, b7⟩ := show MayC (x.w : Int) x.c x.wd x.sl x.ca x.ba from hx
 have hsz : x.root + x.sl ≤ x.len := by unfold Cn.root Cn.len; omega
 refine Fx.mk Tryz.func73 k73 nb_ ?_
 dsimp only [c73, envOf, Nat.reduceAdd]
 refine Cx.ent (Ent.trans (Ent.of t.out) (Ent.cons (Ent.trans (Ent.of s.out) (Ent.cons (Ent.of c.out))))) ?_
 refine Cx.pure (memKey (b := mp) (m := m)) fun hm => ?_
 refine go ?_
 refine Sx.ca rfl (stackFill (sb := sb) (mp := mp) (k := x.spare) (m := m) (hx.spare hl hm.2)) ?_
 rintro v L' rfl
 refine go ?_
 refine Cx.lp (α := {i : Nat // i ≤ x.sl}) (fun i => [(0, .pointer (some ⟨g, 0, none⟩)), (12, .int .i64 (x.sl : Nat)), (13, .int .i64 i.1)])
  (fun i => pt (some ⟨mp, 0, none⟩) (MemO (zeroRt x (fillM x.spare m) i.1)) :: pt (some ⟨sb, 0, none⟩) (SkO mp x.spare) :: pt (some ⟨g, 0, none⟩) (RoO mp sb x) :: H) (fun i => x.sl - i.1) ⟨0, by omega⟩ (sub.cons rfl (sub.cons rfl (sub.cons rfl sub.nil))) (Ent.refl _) ?_
 rintro ⟨i, hi⟩
 have hzl := zeroRt_len x (fillM x.spare m) i
 rw [fillM_len] at hzl
 dsimp only
 refine go ?_
 refine Cx.ifp rfl (fun h => ?_) (fun h => ?_)
 ·refine go ?_
  refine Cx.orde rfl kr_ ?_
  refine ge ?_
  refine Ev.cakH kr_ rfl rfl (layRootN hx i (by omega)) ?_
  refine ge ?_
  refine Ev.caH kr_ rfl rfl (cellsLay (b := mp) (m := zeroRt x (fillM x.spare m) i) (x.root + i) 0 (by omega) (by omega)) (Pres.deps kr_) ?_
  rintro v L' ⟨rfl, rfl⟩
  refine ge ?_
  refine go ?_
  rw [w64 (n := (i : Int) + 1) (by omega) (by omega)]
  exact Klp.nm ⟨i + 1, by omega⟩ (sub.cons rfl (sub.cons rfl (sub.cons rfl sub.nil))) (Ent.refl _) (by dsimp only; omega)
 ·obtain rfl : i = x.sl := by omega
  refine go ?_
  exact Kr.none (.inl rfl) (Ent.cons (Ent.trans (Ent.cons (Ent.of c.back)) (Ent.of s.back))) rfl
abbrev GrO (mp : Nat) (x : Cn) : Option Addr → As := Blk 146 (.pointer (some ⟨mp, 0, none⟩) :: x.l)
theorem grantNew {mp : Nat} {m : Mm} {x : Cn} (hx : x.ok) (hl : x.len ≤ m.ws.length) [t : Take L (some ⟨mp, 0, none⟩) (MemO m) F] :
  Fx Tryz.prog 18 [.pointer (some ⟨mp, 0, none⟩), x.v] L (fun v L' => ∃ g, v = .tuple #[.pointer (some ⟨g, 0, none⟩), .int .i64 0] ∧ L' = pt (some ⟨g, 0, none⟩) (GrO mp x) :: L) := by
 refine Fx.mk Tryz.func18 k18 nb_ ?_
 dsimp only [c18, envOf, Nat.reduceAdd]
 refine Cx.sq ?_
 refine Cx.rg ?_
 refine Sx.bx rfl rfl fun g => ?_
 refine go ?_
 refine Sx.ca rfl (rootsNew (mp := mp) (m := m) hx hl) ?_
 rintro v L' ⟨r, sb, rfl, rfl⟩
 refine go ?_
 refine Sx.bx rfl rfl fun q => ?_
 refine go ?_
 exact Kr.two (.inr rfl) rfl rfl (Ent.cons (Ent.trans Ent.drop (Ent.trans Ent.drop Ent.drop))) ⟨q, rfl, rfl⟩
end
end Go.Proofs.YtflalhdofhobmaaGreat


namespace Go.Proofs.YtflalhdofhobmaaGreat
open Go
attribute [local irreducible] Sx Cx Rx Fx Krg Ksq Kbl Klp Kr
section
variable {L F G : St}
theorem Sx.re {P : Program} {N : Nat} {l : List Go.Proofs.YtflalhdofhobmaaGreat.G} {e : En} {K : En → St → Prop} {b : Option Addr} {T : TypeId} {vs : List Value} {L : St} (vs' : List Value) (h : vs = vs') (k : Sx P N l e K (pt b (Blk T vs') :: L)) : Sx P N l e K (pt b (Blk T vs) :: L) := h ▸ k
theorem cntW {n : Nat} (h : n ≤ 1000000) : IntKind.i64.wrap ((n : Int) + 1) = ((n + 1 : Nat) : Int) := by rw [w64 (by omega) (by omega)]; push_cast; rfl
theorem rootsLoad {g mp sb : Nat} {x : Cn} {m : Mm} {F1 : St} (n : Nat) (hn : n < x.sl) (hx : x.ok) (hm : m.ok) (hl : x.len ≤ m.ws.length) [t : Take L (some ⟨mp, 0, none⟩) (MemO m) F1] [c : Take F1 (some ⟨g, 0, none⟩) (RoO mp sb x) G] :
  Fx Tryz.prog 174 [.pointer (some ⟨g, 0, none⟩), .int .i64 n] L (fun v L' => v = .tuple #[wd (m.at_ (x.root + n)), rtV (rtOf (m.at_ (x.root + n)))] ∧ L' = pt (some ⟨mp, 0, none⟩) (MemO m.tick) :: F1) := by
 have hsz : x.root + x.sl ≤ x.len := by unfold Cn.root Cn.len; omega
 refine Fx.mk Tryz.func174 k174 nb_ ?_
 dsimp only [c174, envOf, Nat.reduceAdd]
 refine Cx.ent (Ent.trans (Ent.of t.out) (Ent.cons (Ent.of c.out))) ?_
 refine go ?_
 refine Sx.al fun q => ?_
 refine go ?_
 refine Cx.ordc rfl kr_ ?_
 refine ge ?_
 refine Ev.cakH kr_ rfl rfl (layRootN hx n hn) ?_
 refine ge ?_
 refine Ev.caH kr_ rfl rfl (cellsLoad (b := mp) (m := m) (x.root + n) (by omega)) (Pres.deps kr_) ?_
 rintro v L' ⟨rfl, rfl⟩
 refine ge ?_
 refine go ?_
 refine Sx.ca rfl (getRoot (m.at_ (x.root + n)) (Mm.at_lt hm _)) ?_
 rintro v L' ⟨rfl, rfl⟩
 refine go ?_
 refine Sx.st (b := q) rfl rfl rfl rfl rfl rfl ?_
 dsimp only [lay]
 refine go ?_
 refine Kr_tc (b := q) (.inr rfl) rfl rfl rfl ?_ ⟨rfl, rfl⟩
 exact Ent.trans Ent.drop (Ent.cons (Ent.of c.back))
def CreS.rt (cl : Nat) (c : CreS) : Rt := if c.at_ = 2 then nextRt cl c.was else ⟨0, 0, 0, 0⟩
abbrev crB (b r : Nat) (nx n1 n2 n3 pp : Value) (cl : Nat) (cnt slot : Int) (point : Nat) (rt : Rt) (code : Nat) : As :=
 pt (some ⟨b, 0, none⟩) (Blk 232 [nx, n1, n2, n3, .int .i64 cnt, .pointer (some ⟨r, 0, none⟩), .int .i64 cl, pp, .int .i64 slot, .int .i64 (point : Nat), .int .i64 (rt.gen : Nat), .int .i64 (rt.mrk : Nat), .int .i64 (rt.cl : Nat), .int .i64 (rt.off : Nat), .int .i64 (code : Nat)])
def crPL (T : TypeId) (r sp : Nat) (k : Sk) (cl : Nat) (c : CreS) (a : Option Addr) (y : Nat) : St :=
 [pt a (Blk T [.func (.func 232) #[.pointer a] #[], mth 163 y, mth 164 y, .func (.func 165) #[.pointer a] #[], .int .i64 (c.cnt : Nat), .pointer (some ⟨r, 0, none⟩), .int .i64 cl, .pointer (some ⟨y, 0, none⟩), .int .i64 c.slot, .int .i64 (c.point : Nat), .int .i64 ((c.rt cl).gen : Nat), .int .i64 ((c.rt cl).mrk : Nat), .int .i64 ((c.rt cl).cl : Nat), .int .i64 ((c.rt cl).off : Nat), .int .i64 (c.code : Nat)]),
  pt (some ⟨y, 0, none⟩) (PopO sp k c.q)]
def crSL (nx : Value) (T : TypeId) (r : Nat) (cl : Nat) (c : CreS) (a : Option Addr) (y : Value × Value × Value × Value) : St :=
 [pt a (Blk T [nx, y.1, y.2.1, y.2.2.1, .int .i64 (c.cnt : Nat), .pointer (some ⟨r, 0, none⟩), .int .i64 cl, y.2.2.2, .int .i64 c.slot, .int .i64 (c.point : Nat), .int .i64 ((c.rt cl).gen : Nat), .int .i64 ((c.rt cl).mrk : Nat), .int .i64 ((c.rt cl).cl : Nat), .int .i64 ((c.rt cl).off : Nat), .int .i64 (c.code : Nat)])]
def CreT (T : TypeId) (r sp : Nat) (k : Sk) (cl : Nat) (c : CreS) (a : Option Addr) : As := bif c.done then exs (crSL .nilFunc T r cl c a) else match c.at_ with
 | 0 => exs (crPL T r sp k cl c a) | 1 => exs (crSL (.func (.func 224) #[.pointer a] #[]) T r cl c a) | _ => exs (crSL (.func (.func 252) #[.pointer a] #[]) T r cl c a)
abbrev CreO := CreT 232
theorem CreO.p {T : TypeId} {r sp : Nat} {k : Sk} {cl : Nat} {c : CreS} {a : Option Addr} (h : c.done = false) (h0 : c.at_ = 0) : CreT T r sp k cl c a = exs (crPL T r sp k cl c a) := by unfold CreT; rw [h, h0]; rfl
theorem CreO.l {T : TypeId} {r sp : Nat} {k : Sk} {cl : Nat} {c : CreS} {a : Option Addr} (h : c.done = false) (h0 : c.at_ = 1) : CreT T r sp k cl c a = exs (crSL (.func (.func 224) #[.pointer a] #[]) T r cl c a) := by unfold CreT; rw [h, h0]; rfl
theorem CreO.s {T : TypeId} {r sp : Nat} {k : Sk} {cl : Nat} {c : CreS} {a : Option Addr} (h : c.done = false) (h0 : c.at_ = 2) : CreT T r sp k cl c a = exs (crSL (.func (.func 252) #[.pointer a] #[]) T r cl c a) := by unfold CreT; rw [h, h0]; rfl
theorem CreO.d {T : TypeId} {r sp : Nat} {k : Sk} {cl : Nat} {c : CreS} {a : Option Addr} (h : c.done = true) : CreT T r sp k cl c a = exs (crSL .nilFunc T r cl c a) := by unfold CreT; rw [h]; rfl
theorem CreO.closeP {b r sp p : Nat} {k : Sk} {cl : Nat} (c : CreS) (h : c.done = false) (h0 : c.at_ = 0) {cnt slot : Int} {point code : Nat} {rt : Rt} {q : PopS} (e1 : cnt = (c.cnt : Nat)) (e2 : slot = c.slot) (e3 : point = c.point) (e4 : rt = c.rt cl) (e5 : code = c.code) (e6 : q = c.q) :
  Ent (crB b r (mth 232 b) (mth 163 p) (mth 164 p) (mth 165 b) (.pointer (some ⟨p, 0, none⟩)) cl cnt slot point rt code :: pt (some ⟨p, 0, none⟩) (PopO sp k q) :: G) (pt (some ⟨b, 0, none⟩) (CreO r sp k cl c) :: G) := by
 subst e1 e2 e3 e4 e5 e6
 exact Ent.close (f := crPL 232 r sp k cl c (some ⟨b, 0, none⟩)) (CreO.p h h0) p
theorem CreO.closeL {b r sp : Nat} {k : Sk} {cl : Nat} {n1 n2 n3 pp : Value} (c : CreS) (h : c.done = false) (h0 : c.at_ = 1) {cnt slot : Int} {point code : Nat} {rt : Rt} (e1 : cnt = (c.cnt : Nat)) (e2 : slot = c.slot) (e3 : point = c.point) (e4 : rt = c.rt cl) (e5 : code = c.code) :
  Ent (crB b r (mth 224 b) n1 n2 n3 pp cl cnt slot point rt code :: G) (pt (some ⟨b, 0, none⟩) (CreO r sp k cl c) :: G) := by
 subst e1 e2 e3 e4 e5
 exact Ent.close (f := crSL (mth 224 b) 232 r cl c (some ⟨b, 0, none⟩)) (CreO.l h h0) (n1, n2, n3, pp)
theorem CreO.closeS {b r sp : Nat} {k : Sk} {cl : Nat} {n1 n2 n3 pp : Value} (c : CreS) (h : c.done = false) (h0 : c.at_ = 2) {cnt slot : Int} {point code : Nat} {rt : Rt} (e1 : cnt = (c.cnt : Nat)) (e2 : slot = c.slot) (e3 : point = c.point) (e4 : rt = c.rt cl) (e5 : code = c.code) :
  Ent (crB b r (mth 252 b) n1 n2 n3 pp cl cnt slot point rt code :: G) (pt (some ⟨b, 0, none⟩) (CreO r sp k cl c) :: G) := by
 subst e1 e2 e3 e4 e5
 exact Ent.close (f := crSL (mth 252 b) 232 r cl c (some ⟨b, 0, none⟩)) (CreO.s h h0) (n1, n2, n3, pp)
theorem CreO.closeD {b r sp : Nat} {k : Sk} {cl : Nat} {n1 n2 n3 pp : Value} (c : CreS) (h : c.done = true) {cnt slot : Int} {point code : Nat} {rt : Rt} (e1 : cnt = (c.cnt : Nat)) (e2 : slot = c.slot) (e3 : point = c.point) (e4 : rt = c.rt cl) (e5 : code = c.code) :
  Ent (crB b r .nilFunc n1 n2 n3 pp cl cnt slot point rt code :: G) (pt (some ⟨b, 0, none⟩) (CreO r sp k cl c) :: G) := by
 subst e1 e2 e3 e4 e5
 exact Ent.close (f := crSL .nilFunc 232 r cl c (some ⟨b, 0, none⟩)) (CreO.d h) (n1, n2, n3, pp)
set_option maxHeartbeats 2000000 in
theorem rootsCreate {g mp sb : Nat} {x : Cn} (cl : Nat) (hcl : cl ≤ 3) (hx : x.ok) [c : Take L (some ⟨g, 0, none⟩) (RoO mp sb x) F] {F2 : St} [s : Take F (some ⟨sb, 0, none⟩) (SkO mp x.spare) F2] :
  Fx Tryz.prog 84 [.pointer (some ⟨g, 0, none⟩), .int .i64 cl] L (fun v L' => ∃ b, v = .pointer (some ⟨b, 0, none⟩) ∧ L' = pt (some ⟨b, 0, none⟩) (CreO g sb x.spare cl CreS.init) :: L) := by
 obtain ⟨b1, b2, b3, b4, b5, b6, b7⟩ := show MayC (x.w : Int) x.c x.wd x.sl x.ca x.ba from hx
 refine Fx.mk Tryz.func84 k84 nb_ ?_
 dsimp only [c84, envOf, Nat.reduceAdd]
 refine Cx.ent (Ent.trans (Ent.of c.out) (Ent.cons (Ent.of s.out))) ?_
 refine go ?_
 have e1 : (bif true then (if (cl : Int) < 0 then (0 : Int) else (cl : Int)) else (if (0 : Int) < (cl : Int) then (0 : Int) else (cl : Int))) = cl := by
  rw [cond_true, if_neg (by omega)]
 have e2 : (bif false then (if (cl : Int) < 3 then (3 : Int) else (cl : Int)) else (if (3 : Int) < (cl : Int) then (3 : Int) else (cl : Int))) = cl := by
  rw [cond_false, if_neg (by omega)]
 rw [e1, e2]
 refine Sx.ca rfl (stackPop (sb := sb) (k := x.spare) 1 (by show 1 ≤ x.sl; omega)) ?_
 rintro v L' ⟨p, rfl, rfl⟩
 refine go ?_
 refine Sx.bx rfl rfl fun b => ?_
 refine Sx.re [.nilFunc, .nilFunc, .nilFunc, .nilFunc, .int .i64 0, .pointer (some ⟨g, 0, none⟩), .int .i64 cl, .pointer (some ⟨p, 0, none⟩), .int .i64 (-1), .int .i64 0, .int .i64 0, .int .i64 0, .int .i64 0, .int .i64 0, .int .i64 0] rfl ?_
 refine go ?_
 refine Cx.ordc rfl kr_ ?_
 refine ge ?_
 refine Ev.caH kr_ rfl rfl (machThrough (b := b) (machOnNo (b := b) kr_ (popDoneC (b := p) (sb := sb) (k := x.spare) (q := PopS.init 1)))) (Pres.deps kr_) ?_
 rintro v L' ⟨rfl, w, rfl, rfl⟩
 refine ge ?_
 refine go ?_
 refine Kr.one (.inr rfl) rfl ?_ ⟨b, rfl, rfl⟩
 refine Ent.trans (CreO.closeP (b := b) (r := g) (sp := sb) (p := p) (k := x.spare) (cl := cl) (rt := ⟨0, 0, 0, 0⟩) CreS.init rfl rfl rfl rfl rfl rfl rfl rfl) (Ent.cons ?_)
 exact Ent.trans (Ent.cons (Ent.of s.back)) (Ent.of c.back)
theorem crNext {b r : Nat} {nx n1 n2 n3 pp : Value} {cl : Nat} {cnt slot : Int} {point code : Nat} {rt : Rt} (w : Rt) (hg : w.gen < 4294967296) [tk : Take L (some ⟨b, 0, none⟩) (Blk 232 [nx, n1, n2, n3, .int .i64 cnt, .pointer (some ⟨r, 0, none⟩), .int .i64 cl, pp, .int .i64 slot, .int .i64 (point : Nat), .int .i64 (rt.gen : Nat), .int .i64 (rt.mrk : Nat), .int .i64 (rt.cl : Nat), .int .i64 (rt.off : Nat), .int .i64 (code : Nat)]) F] :
  Fx Tryz.prog 251 [.pointer (some ⟨b, 0, none⟩), rtV w] L (fun v L' => v = rtV ⟨laterT w.gen, 1, cl, 0⟩ ∧ L = L') := by
 obtain ⟨gn, mk_, cw, ow⟩ := w
 dsimp only at hg ⊢
 refine Fx.mk Tryz.func251 k251 nb_ ?_
 dsimp only [c251, envOf, Nat.reduceAdd]
 refine Cx.sq ?_
 refine Cx.rg ?_
 refine Sx.bx rfl rfl fun q => ?_
 refine go ?_
 refine Sx.al fun o => ?_
 repeat' (first|refine Zo0 rfl ?_|refine Zo1 ?_|refine Zo2 ?_|refine Zo3 ?_|refine Zo4 ?_|refine Zo5 ?_|refine Zo6 ?_|refine Zo7 ?_|refine Zo8 rfl ?_|refine Zo9 rfl ?_|refine Zoa ?_|refine Zob ?_|refine Zoc ?_|refine Zod ?_|refine Zoe ?_|refine Zof ?_|refine Zog ?_|refine Zoh ?_|refine Zom rfl (by rfl) ?_|refine Zon rfl rfl ?_|refine Zoo rfl rfl rfl rfl (by rfl) (by rfl) ?_|refine Zop rfl trivial ?_|refine Zoq rfl rfl rfl ?_)
 refine Cx.ifp rfl (fun h => ?_) (fun h => ?_)
 ·refine go ?_
  rw [w64 (n := (gn : Int) + 1) (by omega) (by omega)]
  refine Sx.st (b := o) rfl rfl rfl rfl rfl rfl ?_
  dsimp only [lay]
  refine go ?_
  refine Kr_cell (b := o) (.inr rfl) rfl rfl (L' := L) (Ent.trans Ent.drop Ent.drop) ⟨?_, rfl⟩
  dsimp only at h
  unfold laterT
  rw [if_pos (show gn < 4294967295 by omega)]
  rfl
 ·refine go ?_
  refine Sx.st (b := o) rfl rfl rfl rfl rfl rfl ?_
  dsimp only [lay]
  refine go ?_
  refine Kr_cell (b := o) (.inr rfl) rfl rfl (L' := L) (Ent.trans Ent.drop Ent.drop) ⟨?_, rfl⟩
  dsimp only at h
  unfold laterT
  rw [if_neg (show ¬ gn < 4294967295 by omega)]
  rfl
end
end Go.Proofs.YtflalhdofhobmaaGreat


namespace Go.Proofs.YtflalhdofhobmaaGreat
open Go
attribute [local irreducible] Sx Cx Rx Fx Krg Ksq Kbl Klp Kr
section
variable {L F G : St}
theorem crPopped_ {b r sp p : Nat} {k : Sk} {cl : Nat} {c : CreS} {n1 n2 n3 : Value} {cnt : Int} (hcnt : cnt = ((c.cnt + 1 : Nat) : Int)) (h0 : c.at_ = 0) (hd : c.done = false) {q : PopS} (hq : q.done = true) (hl : q.got.length ≤ 8) :
  Fx Tryz.prog 165 [.pointer (some ⟨b, 0, none⟩)] (crB b r .nilFunc n1 n2 n3 (.pointer (some ⟨p, 0, none⟩)) cl cnt c.slot c.point (c.rt cl) c.code :: pt (some ⟨p, 0, none⟩) (PopO sp k q) :: G)
   (fun v L' => L' = pt (some ⟨b, 0, none⟩) (CreO r sp k cl (crPopped { c with cnt := c.cnt + 1, q := q })) :: G) := by
 subst hcnt
 refine Fx.mk Tryz.func165 k165 nb_ ?_
 dsimp only [c165, envOf, Nat.reduceAdd]
 refine go ?_
 refine Sx.ca rfl (machCount (b := b)) ?_
 rintro v L' ⟨rfl, rfl⟩
 refine go ?_
 refine Sx.ca rfl (popGot (b := p) (sb := sp) (k := k) (q := q) hq) ?_
 rintro v L' ⟨ro, co, rfl, rfl⟩
 refine go ?_
 cases hg : q.got with
 | nil =>
   have e : crPopped { c with cnt := c.cnt + 1, q := q } = { c with cnt := c.cnt + 1, q := q, point := c.cnt + 1, code := 7, done := true } := by unfold crPopped; rw [hg]
   rw [e]
   refine go ?_
   refine Kr.none (.inr rfl) ?_ rfl
   refine Ent.trans (Ent.take (a := some ⟨b, 0, none⟩)) ?_
   refine Ent.trans (CreO.closeD (b := b) (r := r) (sp := sp) (k := k) (cl := cl) (rt := c.rt cl) { c with cnt := c.cnt + 1, q := q, point := c.cnt + 1, code := 7, done := true } rfl rfl rfl rfl rfl rfl) (Ent.cons ?_)
   exact ent
 | cons y l =>
   have e : crPopped { c with cnt := c.cnt + 1, q := q } = { c with cnt := c.cnt + 1, q := q, point := c.cnt + 1, slot := y, at_ := 1 } := by unfold crPopped; rw [hg]
   rw [e]
   rw [hg] at hl
   simp only [List.length_cons] at hl ⊢
   refine Cx.cno rfl (decide_eq_false (by omega)) ?_
   refine Cx.rowkey (a := ro) fun hx0 hn0 hc0 hk0 => ?_
   obtain ⟨rg, rfl⟩ : ∃ g, ro = some ⟨g, 0, none⟩ := by
    rcases hk0 with h | h
    ·omega
    ·exact h
   refine go ?_
   refine Sx.pv rfl ⟨by omega, by omega⟩ ?_
   refine Sx.ldr (b := rg) rfl (v := .int .i64 y) rfl ?_
   refine go ?_
   refine Sx.ca rfl (machGo (b := b)) ?_
   rintro v L' ⟨rfl, rfl⟩
   refine go ?_
   refine Kr.none (.inl rfl) ?_ rfl
   refine Ent.trans (Ent.take (a := some ⟨b, 0, none⟩)) ?_
   refine Ent.trans (CreO.closeL (b := b) (r := r) (sp := sp) (k := k) (cl := cl) (rt := c.rt cl) { c with cnt := c.cnt + 1, q := q, point := c.cnt + 1, slot := y, at_ := 1 } hd rfl rfl rfl rfl ?_ rfl) (Ent.cons ?_)
   ·unfold CreS.rt; dsimp only; rw [if_neg (by omega), if_neg (by omega)]
   ·exact ent
theorem crLoad_ {b r mp sp : Nat} {x : Cn} {m : Mm} {cl : Nat} {c : CreS} {n1 n2 n3 pp : Value} {cnt : Int} (hcnt : cnt = ((c.cnt + 1 : Nat) : Int)) (h1 : c.at_ = 1) (hd : c.done = false) (hx : x.ok) (hm : m.ok) (hl : x.len ≤ m.ws.length) (hs : 0 ≤ c.slot ∧ c.slot < x.sl) :
  Fx Tryz.prog 224 [.pointer (some ⟨b, 0, none⟩)] (crB b r .nilFunc n1 n2 n3 pp cl cnt c.slot c.point (c.rt cl) c.code :: pt (some ⟨r, 0, none⟩) (RoO mp sp x) :: pt (some ⟨mp, 0, none⟩) (MemO m) :: G)
   (fun v L' => L' = pt (some ⟨b, 0, none⟩) (CreO r sp x.spare cl { c with cnt := c.cnt + 1, was := m.at_ (x.root + c.slot.toNat), at_ := 2 }) :: pt (some ⟨mp, 0, none⟩) (MemO m.tick) :: pt (some ⟨r, 0, none⟩) (RoO mp sp x) :: G) := by
 subst hcnt
 obtain ⟨s, hs1⟩ : ∃ s : Nat, c.slot = s := ⟨c.slot.toNat, by omega⟩
 rw [hs1, Int.toNat_natCast]
 refine Fx.mk Tryz.func224 k224 nb_ ?_
 dsimp only [c224, envOf, Nat.reduceAdd]
 refine Cx.sq ?_
 refine Cx.rd ?_
 refine Rx.pvs rfl ?_
 refine Rx.ldbK 0 rfl rfl rfl (by rfl) rfl rfl ?_
 refine Rx.pvs rfl ?_
 refine Rx.ldbK 0 rfl rfl rfl (by rfl) rfl rfl ?_
 refine Rx.pvs rfl ?_
 refine Rx.two rfl rfl rfl ?_ ?_
 ·refine Sx.ca rfl (rootsLoad (g := r) (mp := mp) (sb := sp) (x := x) (m := m) s (by omega) hx hm hl) ?_
  rintro v L' ⟨rfl, rfl⟩
  refine Sx.nil ⟨⟨⟨trivial, Has.cell rfl⟩, Has.cell rfl⟩, ?_⟩
  refine Rx.pvs rfl ?_
  refine Rx.one rfl rfl rfl ?_
  refine Sx.al fun q => ?_
  refine Sx.nil ⟨⟨⟨trivial, Has.cell rfl⟩, Has.cell rfl⟩, ?_⟩
  refine Rx.pvs rfl ?_
  refine Rx.one rfl rfl rfl ?_
  refine Sx.st (b := q) rfl rfl rfl rfl rfl rfl ?_
  refine Sx.re (rtL (rtOf (m.at_ (x.root + s)))) rfl ?_
  refine Sx.nil ⟨⟨⟨trivial, Has.cell rfl⟩, Has.cell rfl⟩, ?_⟩
  refine Rx.nil ?_
  refine go ?_
  refine Sx.ca rfl (crNext (b := b) (r := r) (cl := cl) (rtOf (m.at_ (x.root + s))) (rtOf_gen (Mm.at_lt hm _))) ?_
  rintro v L' ⟨rfl, rfl⟩
  refine go ?_
  refine Sx.st (b := b) rfl rfl rfl rfl rfl rfl ?_
  refine Sx.re [.nilFunc, n1, n2, n3, .int .i64 ((c.cnt + 1 : Nat) : Int), .pointer (some ⟨r, 0, none⟩), .int .i64 cl, pp, .int .i64 (s : Nat), .int .i64 (c.point : Nat), .int .i64 ((nextRt cl (m.at_ (x.root + s))).gen : Nat), .int .i64 ((nextRt cl (m.at_ (x.root + s))).mrk : Nat), .int .i64 ((nextRt cl (m.at_ (x.root + s))).cl : Nat), .int .i64 ((nextRt cl (m.at_ (x.root + s))).off : Nat), .int .i64 (c.code : Nat)] rfl ?_
  refine go ?_
  refine Sx.ca rfl (machGo (b := b)) ?_
  rintro v L' ⟨rfl, rfl⟩
  refine go ?_
  refine Kr.none (.inl rfl) ?_ rfl
  refine Ent.trans (Ent.take (a := some ⟨b, 0, none⟩)) ?_
  refine Ent.trans (CreO.closeS (b := b) (r := r) (sp := sp) (k := x.spare) (cl := cl) (rt := nextRt cl (m.at_ (x.root + s))) { c with cnt := c.cnt + 1, slot := (s : Int), was := m.at_ (x.root + s), at_ := 2 } hd rfl rfl rfl rfl ?_ rfl) (Ent.cons ?_)
  ·unfold CreS.rt; dsimp only; rw [if_pos rfl]
  ·exact ent
 ·refine Sx.al fun q => ?_
  refine Sx.nil ⟨⟨⟨trivial, Has.cell rfl⟩, Has.cell rfl⟩, ?_⟩
  refine Rx.pvs rfl ?_
  refine Rx.one rfl rfl rfl ?_
  refine Sx.ca rfl (rootsLoad (g := r) (mp := mp) (sb := sp) (x := x) (m := m) s (by omega) hx hm hl) ?_
  rintro v L' ⟨rfl, rfl⟩
  refine Sx.nil ⟨⟨⟨trivial, Has.cell rfl⟩, Has.cell rfl⟩, ?_⟩
  refine Rx.pvs rfl ?_
  refine Rx.one rfl rfl rfl ?_
  refine Sx.st (b := q) rfl rfl rfl rfl rfl rfl ?_
  refine Sx.re (rtL (rtOf (m.at_ (x.root + s)))) rfl ?_
  refine Sx.nil ⟨⟨⟨trivial, Has.cell rfl⟩, Has.cell rfl⟩, ?_⟩
  refine Rx.nil ?_
  refine go ?_
  refine Sx.ca rfl (crNext (b := b) (r := r) (cl := cl) (rtOf (m.at_ (x.root + s))) (rtOf_gen (Mm.at_lt hm _))) ?_
  rintro v L' ⟨rfl, rfl⟩
  refine go ?_
  refine Sx.st (b := b) rfl rfl rfl rfl rfl rfl ?_
  refine Sx.re [.nilFunc, n1, n2, n3, .int .i64 ((c.cnt + 1 : Nat) : Int), .pointer (some ⟨r, 0, none⟩), .int .i64 cl, pp, .int .i64 (s : Nat), .int .i64 (c.point : Nat), .int .i64 ((nextRt cl (m.at_ (x.root + s))).gen : Nat), .int .i64 ((nextRt cl (m.at_ (x.root + s))).mrk : Nat), .int .i64 ((nextRt cl (m.at_ (x.root + s))).cl : Nat), .int .i64 ((nextRt cl (m.at_ (x.root + s))).off : Nat), .int .i64 (c.code : Nat)] rfl ?_
  refine go ?_
  refine Sx.ca rfl (machGo (b := b)) ?_
  rintro v L' ⟨rfl, rfl⟩
  refine go ?_
  refine Kr.none (.inl rfl) ?_ rfl
  refine Ent.trans (Ent.take (a := some ⟨b, 0, none⟩)) ?_
  refine Ent.trans (CreO.closeS (b := b) (r := r) (sp := sp) (k := x.spare) (cl := cl) (rt := nextRt cl (m.at_ (x.root + s))) { c with cnt := c.cnt + 1, slot := (s : Int), was := m.at_ (x.root + s), at_ := 2 } hd rfl rfl rfl rfl ?_ rfl) (Ent.cons ?_)
  ·unfold CreS.rt; dsimp only; rw [if_pos rfl]
  ·exact ent
theorem crStore_ {b r mp sp : Nat} {x : Cn} {m : Mm} {cl : Nat} {c : CreS} {n1 n2 n3 pp : Value} {cnt : Int} (hcnt : cnt = ((c.cnt + 1 : Nat) : Int)) (h2 : c.at_ = 2) (hcl : cl ≤ 3) (hx : x.ok) (hw : c.was < 18446744073709551616) (hl : x.len ≤ m.ws.length) (hs : 0 ≤ c.slot ∧ c.slot < x.sl) :
  Fx Tryz.prog 252 [.pointer (some ⟨b, 0, none⟩)] (crB b r .nilFunc n1 n2 n3 pp cl cnt c.slot c.point (c.rt cl) c.code :: pt (some ⟨r, 0, none⟩) (RoO mp sp x) :: pt (some ⟨mp, 0, none⟩) (MemO m) :: G)
   (fun v L' => L' = pt (some ⟨b, 0, none⟩) (CreO r sp x.spare cl { c with cnt := c.cnt + 1, done := true }) :: pt (some ⟨mp, 0, none⟩) (MemO (m.put (x.root + c.slot.toNat) (nextRt cl c.was).w)) :: pt (some ⟨r, 0, none⟩) (RoO mp sp x) :: G) := by
 subst hcnt
 have hsz : x.root + x.sl ≤ x.len := by unfold Cn.root Cn.len; omega
 have hrt : c.rt cl = nextRt cl c.was := by unfold CreS.rt; rw [if_pos h2]
 have hnk := nextRt_ok hw hcl
 obtain ⟨s, hs1⟩ : ∃ s : Nat, c.slot = s := ⟨c.slot.toNat, by omega⟩
 rw [hs1, Int.toNat_natCast, hrt]
 obtain ⟨R, hR⟩ : ∃ R, nextRt cl c.was = R := ⟨_, rfl⟩
 rw [hR] at hnk ⊢
 refine Fx.mk Tryz.func252 k252 nb_ ?_
 dsimp only [c252, envOf, Nat.reduceAdd]
 refine go ?_
 refine Sx.ca rfl (putRoot R hnk) ?_
 rintro v L' ⟨rfl, rfl⟩
 refine go ?_
 refine Cx.orde rfl kr_ ?_
 refine ge ?_
 refine Ev.cakH kr_ rfl rfl (layRootN hx s (by omega)) ?_
 refine ge ?_
 refine Ev.caH kr_ rfl rfl (cellsStore (b := mp) (m := m) (x.root + s) R.w (by omega) (Rt.w_lt hnk)) (Pres.deps kr_) ?_
 rintro v L' ⟨rfl, rfl⟩
 refine ge ?_
 refine Kr.none (.inl rfl) ?_ rfl
 refine Ent.trans (Ent.take (a := some ⟨b, 0, none⟩)) ?_
 refine Ent.trans (CreO.closeD (b := b) (r := r) (sp := sp) (k := x.spare) (cl := cl) (rt := R) { c with cnt := c.cnt + 1, slot := (s : Int), done := true } rfl rfl rfl rfl (by rw [← hR, ← hrt]; rfl) rfl) (Ent.cons ?_)
 exact ent
theorem cr_l {k : Sk} {m : Mm} {q : PopS} (h : q.ok k) {len : Nat} (hk : k.ok len) (hm : m.ok) : (popStep k m q).1.got.length ≤ 8 := (popStep_ok hk hm h).len
theorem crStepC {b r mp sp : Nat} {x : Cn} {m : Mm} {cl : Nat} {c : CreS} {F1 F2 F3 : St} (hx : x.ok) (hl : x.len ≤ m.ws.length) (hcl : cl ≤ 3) (hc : c.ok x.spare)
  [t1 : Take L (some ⟨b, 0, none⟩) (CreO r sp x.spare cl c) F1] [t2 : Take F1 (some ⟨mp, 0, none⟩) (MemO m) F2] [t3 : Take F2 (some ⟨r, 0, none⟩) (RoO mp sp x) F3] [t4 : Take F3 (some ⟨sp, 0, none⟩) (SkO mp x.spare) G] :
  Fx Tryz.prog 86 [.pointer (some ⟨b, 0, none⟩)] L
   (fun v L' => v = .bool (!c.done) ∧ L' = pt (some ⟨b, 0, none⟩) (CreO r sp x.spare cl (crStep x.spare x.root cl m c).1) :: pt (some ⟨mp, 0, none⟩) (MemO (crStep x.spare x.root cl m c).2) :: F2) := by
 have hback : Ent (pt (some ⟨r, 0, none⟩) (RoO mp sp x) :: pt (some ⟨sp, 0, none⟩) (SkO mp x.spare) :: G) F2 := Ent.trans (Ent.cons (Ent.of t4.back)) (Ent.of t3.back)
 obtain ⟨ha, hq0, hw, hs, hn⟩ := hc
 refine Fx.mk Tryz.func86 k86 nb_ ?_
 dsimp only [c86, envOf, Nat.reduceAdd]
 refine Cx.ent (Ent.trans (Ent.of t1.out) (Ent.cons (Ent.trans (Ent.of t2.out) (Ent.cons (Ent.trans (Ent.of t3.out) (Ent.cons (Ent.of t4.out))))))) ?_
 refine Cx.pure (memKey (b := mp) (m := m)) fun hm => ?_
 have hk := hx.spare (n := m.ws.length) hl hm.2
 cases hd : c.done with
 | true =>
   have e1 : crStep x.spare x.root cl m c = (c, m) := by unfold crStep; rw [hd]; rfl
   rw [e1]
   refine Cx.openp (a := some ⟨b, 0, none⟩) (CreO.d hd) ?_
   rintro ⟨n1, n2, n3, pp⟩
   simp only [crSL, List.cons_append, List.nil_append]
   refine go ?_
   refine Sx.ca rfl (machStepDone (b := b)) ?_
   rintro v L' ⟨rfl, rfl⟩
   refine go ?_
   exact Kr.one (.inr rfl) rfl (Ent.trans (CreO.closeD c hd rfl rfl rfl rfl rfl) (Ent.cons (Ent.cons hback))) ⟨rfl, rfl⟩
 | false =>
   rcases (show c.at_ = 0 ∨ c.at_ = 1 ∨ c.at_ = 2 by omega) with h0 | h0 | h0
   ·refine Cx.openp (a := some ⟨b, 0, none⟩) (CreO.p hd h0) ?_
    intro p
    simp only [crPL, List.cons_append, List.nil_append]
    have hlen := cr_l (m := m) hq0 hk hm.1
    cases hq : (popStep x.spare m c.q).1.done with
    | true =>
      have e1 : crStep x.spare x.root cl m c = (crPopped { c with cnt := c.cnt + 1, q := (popStep x.spare m c.q).1 }, (popStep x.spare m c.q).2) := by unfold crStep; rw [hd, h0]; simp only [Bool.false_eq_true, if_false, hq, if_true]
      rw [e1]
      refine go ?_
      refine Sx.ca rfl (machStep (b := b) kr_ (machGoes (b := b) kr_ (popStepC (b := p) (mp := mp) (sb := sp) (k := x.spare) (m := m) (q := c.q) hk)
       (R2 := fun v L' => v = .tuple #[] ∧ ∃ w : Value, L' = pt (some ⟨b, 0, none⟩) (CreO r sp x.spare cl (crPopped { c with cnt := c.cnt + 1, q := (popStep x.spare m c.q).1 })) :: pt (some ⟨mp, 0, none⟩) (MemO (popStep x.spare m c.q).2) :: pt (some ⟨r, 0, none⟩) (RoO mp sp x) :: pt (some ⟨sp, 0, none⟩) (SkO mp x.spare) :: G) ?_)) ?_
      ·rintro v L1 ⟨rfl, rfl⟩
       have hon := machOnYes (b := b) kr_ (fd := 164) (ft := 165) (w := .pointer (some ⟨p, 0, none⟩)) (u := .pointer (some ⟨b, 0, none⟩))
        (L := pt (some ⟨p, 0, none⟩) (PopO sp x.spare (popStep x.spare m c.q).1) :: pt (some ⟨mp, 0, none⟩) (MemO (popStep x.spare m c.q).2) :: crB b r .nilFunc (mth 163 p) (mth 164 p) (mth 165 b) (.pointer (some ⟨p, 0, none⟩)) cl (IntKind.i64.wrap ((c.cnt : Int) + 1)) c.slot c.point (c.rt cl) c.code :: pt (some ⟨r, 0, none⟩) (RoO mp sp x) :: pt (some ⟨sp, 0, none⟩) (SkO mp x.spare) :: G)
        ((popDoneC (b := p) (sb := sp) (k := x.spare) (q := (popStep x.spare m c.q).1)).mono (by rintro v L' ⟨rfl, rfl⟩; exact ⟨by rw [hq], rfl⟩)) kr_
        (Fx.ent (M := crB b r .nilFunc (mth 163 p) (mth 164 p) (mth 165 b) (.pointer (some ⟨p, 0, none⟩)) cl (IntKind.i64.wrap ((c.cnt : Int) + 1)) c.slot c.point (c.rt cl) c.code :: pt (some ⟨p, 0, none⟩) (PopO sp x.spare (popStep x.spare m c.q).1) :: pt (some ⟨mp, 0, none⟩) (MemO (popStep x.spare m c.q).2) :: pt (some ⟨r, 0, none⟩) (RoO mp sp x) :: pt (some ⟨sp, 0, none⟩) (SkO mp x.spare) :: G) (by exact ent)
         (crPopped_ (b := b) (r := r) (sp := sp) (p := p) (k := x.spare) (cl := cl) (c := c) (cntW hn) h0 hd hq hlen))
       refine hon.mono ?_
       rintro v L' ⟨rfl, w, rfl⟩
       exact ⟨rfl, .tuple #[], rfl⟩
      ·rintro v L' ⟨rfl, w, _, w2, _, w3, rfl⟩
       refine go ?_
       exact Kr.one (.inr rfl) rfl (Ent.cons (Ent.cons hback)) ⟨rfl, rfl⟩
    | false =>
      have e1 : crStep x.spare x.root cl m c = ({ c with cnt := c.cnt + 1, q := (popStep x.spare m c.q).1 }, (popStep x.spare m c.q).2) := by unfold crStep; rw [hd, h0]; simp only [Bool.false_eq_true, if_false, hq]
      rw [e1]
      refine go ?_
      refine Sx.ca rfl (machStep (b := b) kr_ (machGoes (b := b) kr_ (popStepC (b := p) (mp := mp) (sb := sp) (k := x.spare) (m := m) (q := c.q) hk)
       (R2 := fun v L' => v = .tuple #[] ∧ L' = crB b r (mth 232 b) (mth 163 p) (mth 164 p) (mth 165 b) (.pointer (some ⟨p, 0, none⟩)) cl (IntKind.i64.wrap ((c.cnt : Int) + 1)) c.slot c.point (c.rt cl) c.code ::
        pt (some ⟨p, 0, none⟩) (PopO sp x.spare (popStep x.spare m c.q).1) :: pt (some ⟨mp, 0, none⟩) (MemO (popStep x.spare m c.q).2) :: pt (some ⟨r, 0, none⟩) (RoO mp sp x) :: pt (some ⟨sp, 0, none⟩) (SkO mp x.spare) :: G) ?_)) ?_
      ·rintro v L1 ⟨rfl, rfl⟩
       refine (machOnNo (b := b) kr_ ((popDoneC (b := p) (sb := sp) (k := x.spare) (q := (popStep x.spare m c.q).1)).mono (by rintro v L' ⟨rfl, rfl⟩; exact ⟨by rw [hq], rfl⟩))).mono ?_
       rintro v L' ⟨rfl, rfl⟩
       exact ⟨rfl, rfl⟩
      ·rintro v L' ⟨rfl, w, _, w2, _, rfl⟩
       refine go ?_
       refine Kr.one (.inr rfl) rfl ?_ ⟨rfl, rfl⟩
       refine Ent.trans (CreO.closeP (p := p) { c with cnt := c.cnt + 1, q := (popStep x.spare m c.q).1 } hd h0 (cntW hn) rfl rfl rfl rfl rfl) (Ent.cons ?_)
       exact Ent.cons hback
   ·refine Cx.openp (a := some ⟨b, 0, none⟩) (CreO.l hd h0) ?_
    rintro ⟨n1, n2, n3, pp⟩
    simp only [crSL, List.cons_append, List.nil_append]
    have e1 : crStep x.spare x.root cl m c = ({ c with cnt := c.cnt + 1, was := m.at_ (x.root + c.slot.toNat), at_ := 2 }, m.tick) := by unfold crStep; rw [hd, h0]; rfl
    rw [e1]
    refine Cx.ent (M := crB b r (mth 224 b) n1 n2 n3 pp cl c.cnt c.slot c.point (c.rt cl) c.code :: pt (some ⟨r, 0, none⟩) (RoO mp sp x) :: pt (some ⟨mp, 0, none⟩) (MemO m) :: pt (some ⟨sp, 0, none⟩) (SkO mp x.spare) :: G) (by exact ent) ?_
    refine go ?_
    refine Sx.ca rfl (machStep (b := b) kr_ (crLoad_ (b := b) (r := r) (mp := mp) (sp := sp) (x := x) (m := m) (cl := cl) (c := c) (cntW hn) h0 hd hx hm.1 hl (hs (by omega)))) ?_
    rintro v L' ⟨rfl, w, rfl⟩
    refine go ?_
    exact Kr.one (.inr rfl) rfl (Ent.cons (Ent.cons hback)) ⟨rfl, rfl⟩
   ·refine Cx.openp (a := some ⟨b, 0, none⟩) (CreO.s hd h0) ?_
    rintro ⟨n1, n2, n3, pp⟩
    simp only [crSL, List.cons_append, List.nil_append]
    have e1 : crStep x.spare x.root cl m c = ({ c with cnt := c.cnt + 1, done := true }, m.put (x.root + c.slot.toNat) (nextRt cl c.was).w) := by unfold crStep; rw [hd, h0]; rfl
    rw [e1]
    refine Cx.ent (M := crB b r (mth 252 b) n1 n2 n3 pp cl c.cnt c.slot c.point (c.rt cl) c.code :: pt (some ⟨r, 0, none⟩) (RoO mp sp x) :: pt (some ⟨mp, 0, none⟩) (MemO m) :: pt (some ⟨sp, 0, none⟩) (SkO mp x.spare) :: G) (by exact ent) ?_
    refine go ?_
    refine Sx.ca rfl (machStep (b := b) kr_ (crStore_ (b := b) (r := r) (mp := mp) (sp := sp) (x := x) (m := m) (cl := cl) (c := c) (cntW hn) h0 hcl hx hw hl (hs (by omega)))) ?_
    rintro v L' ⟨rfl, w, rfl⟩
    refine go ?_
    exact Kr.one (.inr rfl) rfl (Ent.cons (Ent.cons hback)) ⟨rfl, rfl⟩
theorem crDone {b r sp : Nat} {k : Sk} {cl : Nat} {c : CreS} {F1 : St} (hd : c.done = true) [t1 : Take L (some ⟨b, 0, none⟩) (CreO r sp k cl c) F1] : Fx Tryz.prog 89 [.pointer (some ⟨b, 0, none⟩)] L (fun v L' => v = .bool true ∧ L = L') := by
 refine Fx.kept (t := t1) ?_
 refine Fx.mk Tryz.func89 k89 nb_ ?_
 dsimp only [c89, envOf, Nat.reduceAdd]
 refine Cx.ent (Ent.of t1.out) ?_
 refine Cx.openp (a := some ⟨b, 0, none⟩) (CreO.d hd) ?_
 rintro ⟨n1, n2, n3, pp⟩
 simp only [crSL, List.cons_append, List.nil_append]
 refine go ?_
 refine Sx.ca rfl (machDoneYes (b := b)) ?_
 rintro v L' ⟨rfl, rfl⟩
 refine go ?_
 exact Kr.one (.inr rfl) rfl (CreO.closeD c hd rfl rfl rfl rfl rfl) ⟨rfl, rfl⟩
theorem crCode {b r sp : Nat} {k : Sk} {cl : Nat} {c : CreS} {F1 : St} (hd : c.done = true) [t1 : Take L (some ⟨b, 0, none⟩) (CreO r sp k cl c) F1] : Fx Tryz.prog 90 [.pointer (some ⟨b, 0, none⟩)] L (fun v L' => v = .int .i64 (c.code : Nat) ∧ L = L') := by
 refine Fx.kept (t := t1) ?_
 refine Fx.mk Tryz.func90 k90 nb_ ?_
 dsimp only [c90, envOf, Nat.reduceAdd]
 refine Cx.ent (Ent.of t1.out) ?_
 refine Cx.openp (a := some ⟨b, 0, none⟩) (CreO.d hd) ?_
 rintro ⟨n1, n2, n3, pp⟩
 simp only [crSL, List.cons_append, List.nil_append]
 refine go ?_
 exact Kr.one (.inr rfl) rfl (CreO.closeD c hd rfl rfl rfl rfl rfl) ⟨rfl, rfl⟩
theorem crRegion {b r sp : Nat} {k : Sk} {cl : Nat} {c : CreS} {F1 : St} (hd : c.done = true) (h2 : c.at_ = 2) (h0 : c.code = 0) [t1 : Take L (some ⟨b, 0, none⟩) (CreO r sp k cl c) F1] : Fx Tryz.prog 88 [.pointer (some ⟨b, 0, none⟩)] L
  (fun v L' => v = .tuple #[.int .i64 c.slot, .int .i64 (laterT (rtOf c.was).gen : Nat)] ∧ L = L') := by
 refine Fx.kept (t := t1) ?_
 have hrt : c.rt cl = nextRt cl c.was := by unfold CreS.rt; rw [if_pos h2]
 refine Fx.mk Tryz.func88 k88 nb_ ?_
 dsimp only [c88, envOf, Nat.reduceAdd]
 refine Cx.ent (Ent.of t1.out) ?_
 refine go ?_
 refine Sx.ca rfl (crDone (b := b) (r := r) (sp := sp) (k := k) (cl := cl) (c := c) hd) ?_
 rintro v L' ⟨rfl, rfl⟩
 refine Sx.openp (a := some ⟨b, 0, none⟩) (CreO.d hd) ?_
 rintro ⟨n1, n2, n3, pp⟩
 simp only [crSL, List.cons_append, List.nil_append]
 rw [h0]
 refine go ?_
 refine Cx.ordc rfl kr_ ?_
 refine ge ?_
 refine go ?_
 refine Kr.two (.inr rfl) rfl rfl (CreO.closeD c hd rfl rfl rfl rfl h0.symm) ⟨?_, rfl⟩
 rw [hrt]; rfl
end
end Go.Proofs.YtflalhdofhobmaaGreat


namespace Go.Proofs.YtflalhdofhobmaaGreat
open Go
attribute [local irreducible] Sx Cx Rx Fx Krg Ksq Kbl Klp Kr
section
variable {L F : St}
def LimboT (T : TypeId) (m : Lm) (a : Option Addr) : As :=
 exs fun (y : (Option Addr × Nat) × (Option Addr × Nat) × (Option Addr × Nat)) =>
  [pt a (Blk T [.int .i64 m.t0, .slice y.1.1 m.x0.length y.1.2, .int .i64 m.t1, .slice y.2.1.1 m.x1.length y.2.1.2, .int .i64 m.t2, .slice y.2.2.1 m.x2.length y.2.2.2, .int .i64 m.last]),
   pt y.1.1 (Row 3 1 m.x0.length y.1.2 (ints m.x0)), pt y.2.1.1 (Row 3 1 m.x1.length y.2.1.2 (ints m.x1)), pt y.2.2.1 (Row 3 1 m.x2.length y.2.2.2 (ints m.x2))]
abbrev LimboO := LimboT 255
theorem LimboO.close {T : TypeId} {a r0 r1 r2 : Option Addr} {c0 c1 c2 n0 n1 n2 : Nat} {v0 v1 v2 v3 : Value} {w0 w1 w2 : List Value} {F F0 F1 G : St} (m : Lm)
  [t : Take L a (Blk T [v0, .slice r0 n0 c0, v1, .slice r1 n1 c1, v2, .slice r2 n2 c2, v3]) F] [u0 : Take F r0 (Row 3 1 n0 c0 w0) F0] [u1 : Take F0 r1 (Row 3 1 n1 c1 w1) F1] [u2 : Take F1 r2 (Row 3 1 n2 c2 w2) G]
  (h0 : v0 = .int .i64 m.t0) (h1 : v1 = .int .i64 m.t1) (h2 : v2 = .int .i64 m.t2) (h3 : v3 = .int .i64 m.last) (e0 : n0 = m.x0.length) (e1 : n1 = m.x1.length) (e2 : n2 = m.x2.length)
  (g0 : w0 = ints m.x0) (g1 : w1 = ints m.x1) (g2 : w2 = ints m.x2) : Ent L (pt a (LimboT T m) :: G) := by
 subst h0; subst h1; subst h2; subst h3; subst e0; subst e1; subst e2; subst g0; subst g1; subst g2
 refine Ent.trans (Ent.take1 (t := t) (Ent.trans (Ent.of u0.out) (Ent.cons (Ent.trans (Ent.of u1.out) (Ent.cons (Ent.of u2.out)))))) ?_
 exact Ent.close (f := fun (y : (Option Addr × Nat) × (Option Addr × Nat) × (Option Addr × Nat)) =>
  [pt a (Blk T [.int .i64 m.t0, .slice y.1.1 m.x0.length y.1.2, .int .i64 m.t1, .slice y.2.1.1 m.x1.length y.2.1.2, .int .i64 m.t2, .slice y.2.2.1 m.x2.length y.2.2.2, .int .i64 m.last]),
   pt y.1.1 (Row 3 1 m.x0.length y.1.2 (ints m.x0)), pt y.2.1.1 (Row 3 1 m.x1.length y.2.1.2 (ints m.x1)), pt y.2.2.1 (Row 3 1 m.x2.length y.2.2.2 (ints m.x2))]) rfl ((r0, c0), (r1, c1), (r2, c2))
theorem limboNew : Fx Tryz.prog 148 [] L (fun v L' => ∃ g, v = .pointer (some ⟨g, 0, none⟩) ∧ L' = pt (some ⟨g, 0, none⟩) (LimboO Lm.nil) :: L) := by
 refine Fx.mk Tryz.func148 k148 nb_ ?_
 dsimp only [c148, envOf, Nat.reduceAdd]
 refine go ?_
 refine Sx.bx rfl rfl fun g => ?_
 refine go ?_
 refine Kr.one (.inr rfl) rfl ?_ ⟨g, rfl, rfl⟩
 refine Ent.trans (Ent.rownil 3 1) (Ent.trans (Ent.rownil 3 1) (Ent.trans (Ent.rownil 3 1) ?_))
 exact LimboO.close (a := some ⟨g, 0, none⟩) (r0 := none) (r1 := none) (r2 := none) Lm.nil rfl rfl rfl rfl rfl rfl rfl rfl rfl rfl
end
end Go.Proofs.YtflalhdofhobmaaGreat


namespace Go.Proofs.YtflalhdofhobmaaGreat
open Go
attribute [local irreducible] Sx Cx Rx Fx Krg Ksq Kbl Klp Kr
section
variable {L F : St}
theorem limboLen {b : Nat} {m : Lm} {F : St} [t : Take L (some ⟨b, 0, none⟩) (LimboO m) F] (hb : m.size ≤ 1000000000) :
  Fx Tryz.prog 217 [.pointer (some ⟨b, 0, none⟩)] L (fun v L' => v = .int .i64 m.size ∧ L' = pt (some ⟨b, 0, none⟩) (LimboO m) :: F) := by
 have hs : m.size = m.x0.length + m.x1.length + m.x2.length := rfl
 refine Fx.mk Tryz.func217 k217 nb_ ?_
 dsimp only [c217, envOf, Nat.reduceAdd]
 refine Cx.openp (t := t) rfl ?_
 rintro ⟨⟨r0, c0⟩, ⟨r1, c1⟩, ⟨r2, c2⟩⟩
 simp only [List.cons_append, List.nil_append]
 refine go ?_
 generalize hM : (pt (some ⟨b, 0, none⟩) (Blk 255 [.int .i64 m.t0, .slice r0 m.x0.length c0, .int .i64 m.t1, .slice r1 m.x1.length c1, .int .i64 m.t2, .slice r2 m.x2.length c2, .int .i64 m.last]) ::
  pt r0 (Row 3 1 m.x0.length c0 (ints m.x0)) :: pt r1 (Row 3 1 m.x1.length c1 (ints m.x1)) :: pt r2 (Row 3 1 m.x2.length c2 (ints m.x2)) :: F) = M
 refine Cx.lp (α := {i : Nat // i ≤ 3}) (fun i => [(3, .int .i64 (((List.range i.1).map fun k => (m.items k).length).sum : Nat)), (9, .agg #[.int .i64 m.t0, .slice r0 m.x0.length c0, .int .i64 m.t1, .slice r1 m.x1.length c1, .int .i64 m.t2, .slice r2 m.x2.length c2]), (10, .int .i64 i.1)])
  (fun _ => M) (fun i => 3 - i.1) ⟨0, by omega⟩ (sub.cons rfl (sub.cons rfl (sub.cons rfl sub.nil))) (Ent.refl _) ?_
 rintro ⟨i, hi⟩
 dsimp only
 rcases (show i = 0 ∨ i = 1 ∨ i = 2 ∨ i = 3 by omega) with rfl | rfl | rfl | rfl
 ·refine go ?_
  refine Sx.pv rfl ⟨by omega, by omega⟩ ?_
  refine Sx.al fun g => ?_
  refine Sx.st (b := g) rfl rfl rfl rfl rfl rfl ?_
  dsimp only [lay]
  refine go ?_
  refine Klp.nm ⟨1, by omega⟩ (sub.cons ?_ (sub.cons rfl (sub.cons rfl sub.nil))) (Ent.drop) (by simp)
  simp only [List.range_succ, List.range_zero, List.nil_append, List.map_append, List.map_cons, List.map_nil, List.sum_append, List.sum_cons, List.sum_nil, Nat.zero_add, Nat.add_zero]
  refine congrArg (fun z => some (Value.int .i64 z)) ?_
  refine Eq.trans (w64 (by simp [Lm.items]) (by simp [Lm.items]; omega)) ?_
  simp [Lm.items]
 ·refine go ?_
  refine Sx.pv rfl ⟨by omega, by omega⟩ ?_
  refine Sx.al fun g => ?_
  refine Sx.st (b := g) rfl rfl rfl rfl rfl rfl ?_
  dsimp only [lay]
  refine go ?_
  refine Klp.nm ⟨2, by omega⟩ (sub.cons ?_ (sub.cons rfl (sub.cons rfl sub.nil))) (Ent.drop) (by simp)
  simp only [List.range_succ, List.range_zero, List.nil_append, List.map_append, List.map_cons, List.map_nil, List.sum_append, List.sum_cons, List.sum_nil, Nat.zero_add, Nat.add_zero]
  refine congrArg (fun z => some (Value.int .i64 z)) ?_
  refine Eq.trans (w64 (by simp [Lm.items]; omega) (by simp [Lm.items]; omega)) ?_
  simp [Lm.items]
 ·refine go ?_
  refine Sx.pv rfl ⟨by omega, by omega⟩ ?_
  refine Sx.al fun g => ?_
  refine Sx.st (b := g) rfl rfl rfl rfl rfl rfl ?_
  dsimp only [lay]
  refine go ?_
  refine Klp.nm ⟨3, by omega⟩ (sub.cons ?_ (sub.cons rfl (sub.cons rfl sub.nil))) (Ent.drop) (by simp)
  simp only [List.range_succ, List.range_zero, List.nil_append, List.map_append, List.map_cons, List.map_nil, List.sum_append, List.sum_cons, List.sum_nil, Nat.zero_add, Nat.add_zero]
  refine congrArg (fun z => some (Value.int .i64 z)) ?_
  refine Eq.trans (w64 (by simp [Lm.items]; omega) (by simp [Lm.items]; omega)) ?_
  simp [Lm.items]
 ·refine go ?_
  subst hM
  refine Kr.one (.inr rfl) rfl (LimboO.close (a := some ⟨b, 0, none⟩) (r0 := r0) (r1 := r1) (r2 := r2) m rfl rfl rfl rfl rfl rfl rfl rfl rfl rfl) ⟨?_, rfl⟩
  simp [List.range_succ, Lm.items, hs]
  omega
end
end Go.Proofs.YtflalhdofhobmaaGreat


namespace Go.Proofs.YtflalhdofhobmaaGreat
open Go
attribute [local irreducible] Sx Cx Rx Fx Krg Ksq Kbl Klp Kr
section
variable {L F : St}
theorem bucketOpen {b o n c : Nat} {now tag : Int} {r : Option Addr} {xs : List Int} (h0 : Has L b o [.int .i64 tag]) (h1 : Has L b (o + 1) [.slice r n c]) (hn : n = xs.length) (h2 : 2 ≤ now) (h3 : now ≤ 9223372036854775807) :
  Fx Tryz.prog 201 [.pointer (some ⟨b, o, none⟩), .int .i64 now] L (fun v L' => v = .bool (openM now tag xs) ∧ L = L') := by
 subst hn
 refine Fx.mk Tryz.func201 k201 nb_ ?_
 dsimp only [c201, envOf, Nat.reduceAdd]
 refine go ?_
 refine Sx.ld rfl h1 rfl ?_
 refine go ?_
 refine Sx.ifp rfl (fun h => ?_) (fun h => ?_)
 ·refine go ?_
  refine Sx.ld rfl (by simpa using h0) rfl ?_
  refine go ?_
  rw [w64 (n := now - 2) (by omega) (by omega)]
  refine Kr.one (.inr rfl) rfl (Ent.refl _) ⟨?_, rfl⟩
  have h' : 0 < xs.length := by omega
  simp [pick, openM, h']
 ·refine go ?_
  refine Kr.one (.inr rfl) rfl (Ent.refl _) ⟨?_, rfl⟩
  have h' : ¬ 0 < xs.length := by omega
  simp [pick, openM, h']
abbrev lptr (b : Nat) (o : Option Nat) : Value := .pointer (o.map fun j => ⟨b, 0 + j * 2, none⟩)
set_option maxHeartbeats 4000000 in
theorem limboReady {b : Nat} {m : Lm} {now : Int} {F : St} [t : Take L (some ⟨b, 0, none⟩) (LimboO m) F] (hb : m.size ≤ 100000000) (hnow : now ≤ 9223372036854775807) :
  Fx Tryz.prog 135 [.pointer (some ⟨b, 0, none⟩), .int .i64 now] L (fun v L' => ∃ ro co, v = .slice ro (readyAll now m).1.length co ∧
   L' = pt ro (Row 3 1 (readyAll now m).1.length co (ints (readyAll now m).1)) :: pt (some ⟨b, 0, none⟩) (LimboO (readyAll now m).2) :: F) := by
 refine Fx.mk Tryz.func135 k135 nb_ ?_
 dsimp only [c135, envOf, Nat.reduceAdd]
 refine Cx.ent (Ent.trans (Ent.of t.out) (Ent.rownil 3 1)) ?_
 refine go ?_
 refine Cx.lp (α := {p : (List Int × Lm) × (Option Addr × Nat) // p.1.1.length + p.1.2.size = m.size ∧ p.1.1 ++ (readyAll now p.1.2).1 = (readyAll now m).1 ∧ (readyAll now p.1.2).2 = (readyAll now m).2})
  (fun p => [(0, .pointer (some ⟨b, 0, none⟩)), (1, .int .i64 now), (5, .slice p.1.2.1 p.1.1.1.length p.1.2.2)])
  (fun p => pt p.1.2.1 (Row 3 1 p.1.1.1.length p.1.2.2 (ints p.1.1.1)) :: pt (some ⟨b, 0, none⟩) (LimboO p.1.1.2) :: F) (fun p => p.1.1.2.cnt) ⟨(([], m), (none, 0)), by simp, by simp, rfl⟩ (sub.cons rfl (sub.cons rfl (sub.cons rfl sub.nil))) (Ent.refl _) ?_
 rintro ⟨⟨⟨out, m'⟩, ⟨ro, co⟩⟩, hsz, he1, he2⟩
 dsimp only at hsz he1 he2 ⊢
 refine go ?_
 refine Cx.ifp rfl (fun h2 => ?_) (fun h2 => ?_)
 rotate_left
 ·refine go ?_
  have hra : readyAll now m' = ([], m') := by unfold readyAll; rw [if_neg (by omega)]
  rw [hra] at he1 he2
  simp only [List.append_nil] at he1
  subst he1; subst he2
  exact Kr.one (.inr rfl) rfl (Ent.refl _) ⟨ro, co, rfl, rfl⟩
 refine Cx.openp (a := some ⟨b, 0, none⟩) rfl ?_
 rintro ⟨⟨r0, c0⟩, ⟨r1, c1⟩, ⟨r2, c2⟩⟩
 simp only [List.cons_append, List.nil_append]
 refine go ?_
 refine Cx.lp (α := {k : Nat // k ≤ 3}) (fun k => [(0, .pointer (some ⟨b, 0, none⟩)), (1, .int .i64 now), (5, .slice ro out.length co), (6, lptr b (leastUp now m' k.1)), (11, .int .i64 k.1)]) (fun _ => _) (fun k => 3 - k.1) ⟨0, by omega⟩
  (sub.cons rfl (sub.cons rfl (sub.cons rfl (sub.cons rfl (sub.cons rfl sub.nil))))) (Ent.refl _) ?_
 rintro ⟨k, hk⟩
 dsimp only
 rcases (show k = 0 ∨ k = 1 ∨ k = 2 ∨ k = 3 by omega) with rfl | rfl | rfl | rfl
 ·refine go ?_
  refine Sx.pv rfl ⟨by omega, by omega⟩ ?_
  rcases hlu : leastUp now m' 0 with _ | j
  ·refine go ?_
   refine Cx.calm kr_ ?_
   repeat' (first | (refine Cm.pvs rfl ?_) | (refine Cm.step rfl ?_) | (refine Cm.done ?_) | (refine Cm.ldb rfl rfl (by rfl) ?_) | (refine Cm.ldbs rfl rfl rfl ?_))
   refine Cm.ca rfl rfl (bucketOpen (tag := m'.t0) (xs := m'.x0) (Has.cell rfl) (Has.cell rfl) rfl h2 hnow) ?_
   cases hop : openM now m'.t0 m'.x0
   ·repeat' (first | (refine Cm.pvs rfl ?_) | (refine Cm.step rfl ?_) | (refine Cm.done ?_) | (refine Cm.ldb rfl rfl (by rfl) ?_) | (refine Cm.ldbs rfl rfl rfl ?_))
    refine go ?_
    refine Klp.nm ⟨1, by omega⟩ (sub.cons rfl (sub.cons rfl (sub.cons rfl (sub.cons (Eq.trans ?_ (congrArg (fun o => some (lptr b o)) ((leastUp_no (k := 0) hop).trans hlu : leastUp now m' 1 = _).symm)) (sub.cons rfl sub.nil))))) (Ent.refl _) (by simp)
    rfl
   ·repeat' (first | (refine Cm.pvs rfl ?_) | (refine Cm.step rfl ?_) | (refine Cm.done ?_) | (refine Cm.ldb rfl rfl (by rfl) ?_) | (refine Cm.ldbs rfl rfl rfl ?_))
    refine go ?_
    refine Klp.nm ⟨1, by omega⟩ (sub.cons rfl (sub.cons rfl (sub.cons rfl (sub.cons (Eq.trans ?_ (congrArg (fun o => some (lptr b o)) (leastUp_first (k := 0) hop hlu : leastUp now m' 1 = _).symm)) (sub.cons rfl sub.nil))))) (Ent.refl _) (by simp)
    rfl
  ·exact absurd (leastUp_lt hlu).1 (by omega)
 ·refine go ?_
  refine Sx.pv rfl ⟨by omega, by omega⟩ ?_
  rcases hlu : leastUp now m' 1 with _ | j
  ·refine go ?_
   refine Cx.calm kr_ ?_
   repeat' (first | (refine Cm.pvs rfl ?_) | (refine Cm.step rfl ?_) | (refine Cm.done ?_) | (refine Cm.ldb rfl rfl (by rfl) ?_) | (refine Cm.ldbs rfl rfl rfl ?_))
   refine Cm.ca rfl rfl (bucketOpen (tag := m'.t1) (xs := m'.x1) (Has.cell rfl) (Has.cell rfl) rfl h2 hnow) ?_
   cases hop : openM now m'.t1 m'.x1
   ·repeat' (first | (refine Cm.pvs rfl ?_) | (refine Cm.step rfl ?_) | (refine Cm.done ?_) | (refine Cm.ldb rfl rfl (by rfl) ?_) | (refine Cm.ldbs rfl rfl rfl ?_))
    refine go ?_
    refine Klp.nm ⟨2, by omega⟩ (sub.cons rfl (sub.cons rfl (sub.cons rfl (sub.cons (Eq.trans ?_ (congrArg (fun o => some (lptr b o)) ((leastUp_no (k := 1) hop).trans hlu : leastUp now m' 2 = _).symm)) (sub.cons rfl sub.nil))))) (Ent.refl _) (by simp)
    rfl
   ·repeat' (first | (refine Cm.pvs rfl ?_) | (refine Cm.step rfl ?_) | (refine Cm.done ?_) | (refine Cm.ldb rfl rfl (by rfl) ?_) | (refine Cm.ldbs rfl rfl rfl ?_))
    refine go ?_
    refine Klp.nm ⟨2, by omega⟩ (sub.cons rfl (sub.cons rfl (sub.cons rfl (sub.cons (Eq.trans ?_ (congrArg (fun o => some (lptr b o)) (leastUp_first (k := 1) hop hlu : leastUp now m' 2 = _).symm)) (sub.cons rfl sub.nil))))) (Ent.refl _) (by simp)
    rfl
  ·have hj := (leastUp_lt hlu).1
   rcases (show j = 0 by omega) with rfl
   ·refine go ?_
    refine Cx.calm kr_ ?_
    repeat' (first | (refine Cm.pvs rfl ?_) | (refine Cm.step rfl ?_) | (refine Cm.done ?_) | (refine Cm.ldb rfl rfl (by rfl) ?_) | (refine Cm.ldbs rfl rfl rfl ?_))
    refine Cm.ca rfl rfl (bucketOpen (tag := m'.t1) (xs := m'.x1) (Has.cell rfl) (Has.cell rfl) rfl h2 hnow) ?_
    cases hop : openM now m'.t1 m'.x1
    ·repeat' (first | (refine Cm.pvs rfl ?_) | (refine Cm.step rfl ?_) | (refine Cm.done ?_) | (refine Cm.ldb rfl rfl (by rfl) ?_) | (refine Cm.ldbs rfl rfl rfl ?_))
     refine go ?_
     refine Klp.nm ⟨2, by omega⟩ (sub.cons rfl (sub.cons rfl (sub.cons rfl (sub.cons (Eq.trans ?_ (congrArg (fun o => some (lptr b o)) ((leastUp_no (k := 1) hop).trans hlu : leastUp now m' 2 = _).symm)) (sub.cons rfl sub.nil))))) (Ent.refl _) (by simp)
     rfl
    ·repeat' (first | (refine Cm.pvs rfl ?_) | (refine Cm.step rfl ?_) | (refine Cm.done ?_) | (refine Cm.ldb rfl rfl (by rfl) ?_) | (refine Cm.ldbs rfl rfl rfl ?_))
     refine Cx.ifp rfl (fun h3 => ?_) (fun h3 => ?_)
     ·refine go ?_
      refine Klp.nm ⟨2, by omega⟩ (sub.cons rfl (sub.cons rfl (sub.cons rfl (sub.cons (Eq.trans ?_ (congrArg (fun o => some (lptr b o)) (leastUp_less (k := 1) hop hlu h3 : leastUp now m' 2 = _).symm)) (sub.cons rfl sub.nil))))) (Ent.refl _) (by simp)
      rfl
     ·refine go ?_
      refine Klp.nm ⟨2, by omega⟩ (sub.cons rfl (sub.cons rfl (sub.cons rfl (sub.cons (Eq.trans ?_ (congrArg (fun o => some (lptr b o)) (leastUp_keep (k := 1) hop hlu h3 : leastUp now m' 2 = _).symm)) (sub.cons rfl sub.nil))))) (Ent.refl _) (by simp)
      rfl
 ·refine go ?_
  refine Sx.pv rfl ⟨by omega, by omega⟩ ?_
  rcases hlu : leastUp now m' 2 with _ | j
  ·refine go ?_
   refine Cx.calm kr_ ?_
   repeat' (first | (refine Cm.pvs rfl ?_) | (refine Cm.step rfl ?_) | (refine Cm.done ?_) | (refine Cm.ldb rfl rfl (by rfl) ?_) | (refine Cm.ldbs rfl rfl rfl ?_))
   refine Cm.ca rfl rfl (bucketOpen (tag := m'.t2) (xs := m'.x2) (Has.cell rfl) (Has.cell rfl) rfl h2 hnow) ?_
   cases hop : openM now m'.t2 m'.x2
   ·repeat' (first | (refine Cm.pvs rfl ?_) | (refine Cm.step rfl ?_) | (refine Cm.done ?_) | (refine Cm.ldb rfl rfl (by rfl) ?_) | (refine Cm.ldbs rfl rfl rfl ?_))
    refine go ?_
    refine Klp.nm ⟨3, by omega⟩ (sub.cons rfl (sub.cons rfl (sub.cons rfl (sub.cons (Eq.trans ?_ (congrArg (fun o => some (lptr b o)) ((leastUp_no (k := 2) hop).trans hlu : leastUp now m' 3 = _).symm)) (sub.cons rfl sub.nil))))) (Ent.refl _) (by simp)
    rfl
   ·repeat' (first | (refine Cm.pvs rfl ?_) | (refine Cm.step rfl ?_) | (refine Cm.done ?_) | (refine Cm.ldb rfl rfl (by rfl) ?_) | (refine Cm.ldbs rfl rfl rfl ?_))
    refine go ?_
    refine Klp.nm ⟨3, by omega⟩ (sub.cons rfl (sub.cons rfl (sub.cons rfl (sub.cons (Eq.trans ?_ (congrArg (fun o => some (lptr b o)) (leastUp_first (k := 2) hop hlu : leastUp now m' 3 = _).symm)) (sub.cons rfl sub.nil))))) (Ent.refl _) (by simp)
    rfl
  ·have hj := (leastUp_lt hlu).1
   rcases (show j = 0 ∨ j = 1 by omega) with rfl | rfl
   ·refine go ?_
    refine Cx.calm kr_ ?_
    repeat' (first | (refine Cm.pvs rfl ?_) | (refine Cm.step rfl ?_) | (refine Cm.done ?_) | (refine Cm.ldb rfl rfl (by rfl) ?_) | (refine Cm.ldbs rfl rfl rfl ?_))
    refine Cm.ca rfl rfl (bucketOpen (tag := m'.t2) (xs := m'.x2) (Has.cell rfl) (Has.cell rfl) rfl h2 hnow) ?_
    cases hop : openM now m'.t2 m'.x2
    ·repeat' (first | (refine Cm.pvs rfl ?_) | (refine Cm.step rfl ?_) | (refine Cm.done ?_) | (refine Cm.ldb rfl rfl (by rfl) ?_) | (refine Cm.ldbs rfl rfl rfl ?_))
     refine go ?_
     refine Klp.nm ⟨3, by omega⟩ (sub.cons rfl (sub.cons rfl (sub.cons rfl (sub.cons (Eq.trans ?_ (congrArg (fun o => some (lptr b o)) ((leastUp_no (k := 2) hop).trans hlu : leastUp now m' 3 = _).symm)) (sub.cons rfl sub.nil))))) (Ent.refl _) (by simp)
     rfl
    ·repeat' (first | (refine Cm.pvs rfl ?_) | (refine Cm.step rfl ?_) | (refine Cm.done ?_) | (refine Cm.ldb rfl rfl (by rfl) ?_) | (refine Cm.ldbs rfl rfl rfl ?_))
     refine Cx.ifp rfl (fun h3 => ?_) (fun h3 => ?_)
     ·refine go ?_
      refine Klp.nm ⟨3, by omega⟩ (sub.cons rfl (sub.cons rfl (sub.cons rfl (sub.cons (Eq.trans ?_ (congrArg (fun o => some (lptr b o)) (leastUp_less (k := 2) hop hlu h3 : leastUp now m' 3 = _).symm)) (sub.cons rfl sub.nil))))) (Ent.refl _) (by simp)
      rfl
     ·refine go ?_
      refine Klp.nm ⟨3, by omega⟩ (sub.cons rfl (sub.cons rfl (sub.cons rfl (sub.cons (Eq.trans ?_ (congrArg (fun o => some (lptr b o)) (leastUp_keep (k := 2) hop hlu h3 : leastUp now m' 3 = _).symm)) (sub.cons rfl sub.nil))))) (Ent.refl _) (by simp)
      rfl
   ·refine go ?_
    refine Cx.calm kr_ ?_
    repeat' (first | (refine Cm.pvs rfl ?_) | (refine Cm.step rfl ?_) | (refine Cm.done ?_) | (refine Cm.ldb rfl rfl (by rfl) ?_) | (refine Cm.ldbs rfl rfl rfl ?_))
    refine Cm.ca rfl rfl (bucketOpen (tag := m'.t2) (xs := m'.x2) (Has.cell rfl) (Has.cell rfl) rfl h2 hnow) ?_
    cases hop : openM now m'.t2 m'.x2
    ·repeat' (first | (refine Cm.pvs rfl ?_) | (refine Cm.step rfl ?_) | (refine Cm.done ?_) | (refine Cm.ldb rfl rfl (by rfl) ?_) | (refine Cm.ldbs rfl rfl rfl ?_))
     refine go ?_
     refine Klp.nm ⟨3, by omega⟩ (sub.cons rfl (sub.cons rfl (sub.cons rfl (sub.cons (Eq.trans ?_ (congrArg (fun o => some (lptr b o)) ((leastUp_no (k := 2) hop).trans hlu : leastUp now m' 3 = _).symm)) (sub.cons rfl sub.nil))))) (Ent.refl _) (by simp)
     rfl
    ·repeat' (first | (refine Cm.pvs rfl ?_) | (refine Cm.step rfl ?_) | (refine Cm.done ?_) | (refine Cm.ldb rfl rfl (by rfl) ?_) | (refine Cm.ldbs rfl rfl rfl ?_))
     refine Cx.ifp rfl (fun h3 => ?_) (fun h3 => ?_)
     ·refine go ?_
      refine Klp.nm ⟨3, by omega⟩ (sub.cons rfl (sub.cons rfl (sub.cons rfl (sub.cons (Eq.trans ?_ (congrArg (fun o => some (lptr b o)) (leastUp_less (k := 2) hop hlu h3 : leastUp now m' 3 = _).symm)) (sub.cons rfl sub.nil))))) (Ent.refl _) (by simp)
      rfl
     ·refine go ?_
      refine Klp.nm ⟨3, by omega⟩ (sub.cons rfl (sub.cons rfl (sub.cons rfl (sub.cons (Eq.trans ?_ (congrArg (fun o => some (lptr b o)) (leastUp_keep (k := 2) hop hlu h3 : leastUp now m' 3 = _).symm)) (sub.cons rfl sub.nil))))) (Ent.refl _) (by simp)
      rfl
 ·refine go ?_
  have hall : ∀ o, leastUp now m' 3 = o → readyAll now m' = match o with
    | none => ([], m')
    | some j => (m'.items j ++ (readyAll now (m'.put j 0 [])).1, (readyAll now (m'.put j 0 [])).2) := by
   intro o ho
   unfold readyAll
   simp only [if_pos h2]
   cases o with
   | none =>
     cases hc : m'.cnt with
     | zero => rfl
     | succ c => simp [readyM, ho]
   | some j =>
     rw [cnt_put (leastUp_lt ho).1 (open_ne (leastUp_lt ho).2)]
     simp [readyM, ho]
  rcases hlu : leastUp now m' 3 with _ | j
  ·have hra := hall _ hlu
   dsimp only at hra
   rw [hra] at he1 he2
   simp only [List.append_nil] at he1
   subst he1; subst he2
   refine go ?_
   refine Kr.one (.inr rfl) rfl ?_ ⟨ro, co, rfl, rfl⟩
   refine Ent.trans (LimboO.close (a := some ⟨b, 0, none⟩) (r0 := r0) (r1 := r1) (r2 := r2) _ rfl rfl rfl rfl rfl rfl rfl rfl rfl rfl) ?_
   exact ent
  ·have hra := hall _ hlu
   have hj := (leastUp_lt hlu).1
   have hne := open_ne (leastUp_lt hlu).2
   have hsp := size_put (m := m') hj
   have hcp := cnt_put hj hne
   dsimp only at hra
   rw [hra, ← List.append_assoc] at he1
   rw [hra] at he2
   have hm1 : out.length + (m'.x0.length + m'.x1.length + m'.x2.length) = m.size := hsz
   rcases (show j = 0 ∨ j = 1 ∨ j = 2 by omega) with rfl | rfl | rfl
   ·refine go ?_
    refine Sx.rowkey (a := r0) fun hxj hnj _ hkj => ?_
    refine Sx.ap (ra := ro) rfl rfl (Rd.any (a := r0) hxj (hkj.imp (fun h => h.2.1) id)) (ones_ints _) (by simp [maxLen]; omega) (by omega) fun ra ca hc => ?_
    refine go ?_
    refine Sx.st (b := b) rfl rfl rfl rfl rfl rfl ?_
    dsimp only [lay]
    refine go ?_
    refine Klp.nm ⟨((out ++ m'.items 0, m'.put 0 0 []), (ra, ca)), by dsimp only; rw [List.length_append]; omega, he1, he2⟩ (sub.cons rfl (sub.cons rfl (sub.cons ?_ sub.nil))) ?_ (by dsimp only; omega)
    ·show _ = some (Value.slice ra (out ++ m'.items 0).length ca)
     rw [show (out ++ m'.items 0).length = out.length + m'.x0.length by simp [Lm.items]]
     rfl
    ·dsimp only
     refine Ent.trans (Ent.rownil 3 1) ?_
     refine Ent.trans (LimboO.close (a := some ⟨b, 0, none⟩) (r0 := none) (r1 := r1) (r2 := r2) (m'.put 0 0 []) rfl rfl rfl rfl rfl rfl rfl rfl rfl rfl) ?_
     rw [show (out ++ m'.items 0).length = out.length + m'.x0.length by simp [Lm.items], show ints (out ++ m'.items 0) = ints out ++ ints m'.x0 by rw [ints_append]; rfl]
     exact ent
   ·refine go ?_
    refine Sx.rowkey (a := r1) fun hxj hnj _ hkj => ?_
    refine Sx.ap (ra := ro) rfl rfl (Rd.any (a := r1) hxj (hkj.imp (fun h => h.2.1) id)) (ones_ints _) (by simp [maxLen]; omega) (by omega) fun ra ca hc => ?_
    refine go ?_
    refine Sx.st (b := b) rfl rfl rfl rfl rfl rfl ?_
    dsimp only [lay]
    refine go ?_
    refine Klp.nm ⟨((out ++ m'.items 1, m'.put 1 0 []), (ra, ca)), by dsimp only; rw [List.length_append]; omega, he1, he2⟩ (sub.cons rfl (sub.cons rfl (sub.cons ?_ sub.nil))) ?_ (by dsimp only; omega)
    ·show _ = some (Value.slice ra (out ++ m'.items 1).length ca)
     rw [show (out ++ m'.items 1).length = out.length + m'.x1.length by simp [Lm.items]]
     rfl
    ·dsimp only
     refine Ent.trans (Ent.rownil 3 1) ?_
     refine Ent.trans (LimboO.close (a := some ⟨b, 0, none⟩) (r0 := r0) (r1 := none) (r2 := r2) (m'.put 1 0 []) rfl rfl rfl rfl rfl rfl rfl rfl rfl rfl) ?_
     rw [show (out ++ m'.items 1).length = out.length + m'.x1.length by simp [Lm.items], show ints (out ++ m'.items 1) = ints out ++ ints m'.x1 by rw [ints_append]; rfl]
     exact ent
   ·refine go ?_
    refine Sx.rowkey (a := r2) fun hxj hnj _ hkj => ?_
    refine Sx.ap (ra := ro) rfl rfl (Rd.any (a := r2) hxj (hkj.imp (fun h => h.2.1) id)) (ones_ints _) (by simp [maxLen]; omega) (by omega) fun ra ca hc => ?_
    refine go ?_
    refine Sx.st (b := b) rfl rfl rfl rfl rfl rfl ?_
    dsimp only [lay]
    refine go ?_
    refine Klp.nm ⟨((out ++ m'.items 2, m'.put 2 0 []), (ra, ca)), by dsimp only; rw [List.length_append]; omega, he1, he2⟩ (sub.cons rfl (sub.cons rfl (sub.cons ?_ sub.nil))) ?_ (by dsimp only; omega)
    ·show _ = some (Value.slice ra (out ++ m'.items 2).length ca)
     rw [show (out ++ m'.items 2).length = out.length + m'.x2.length by simp [Lm.items]]
     rfl
    ·dsimp only
     refine Ent.trans (Ent.rownil 3 1) ?_
     refine Ent.trans (LimboO.close (a := some ⟨b, 0, none⟩) (r0 := r0) (r1 := r1) (r2 := none) (m'.put 2 0 []) rfl rfl rfl rfl rfl rfl rfl rfl rfl rfl) ?_
     rw [show (out ++ m'.items 2).length = out.length + m'.x2.length by simp [Lm.items], show ints (out ++ m'.items 2) = ints out ++ ints m'.x2 by rw [ints_append]; rfl]
     exact ent
end
end Go.Proofs.YtflalhdofhobmaaGreat


namespace Go.Proofs.YtflalhdofhobmaaGreat
open Go
attribute [local irreducible] Sx Cx Rx Fx Krg Ksq Kbl Klp Kr
section
variable {L F : St}
def anyOpen (now : Int) (m : Lm) : Bool := decide (2 ≤ now ∧ (m.open_ now 0 = true ∨ m.open_ now 1 = true ∨ m.open_ now 2 = true))
end
end Go.Proofs.YtflalhdofhobmaaGreat


namespace Go.Proofs.YtflalhdofhobmaaGreat
open Go
end Go.Proofs.YtflalhdofhobmaaGreat
