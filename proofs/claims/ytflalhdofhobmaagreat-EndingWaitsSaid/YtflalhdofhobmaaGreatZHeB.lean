/-
  Parts of the proof, merged: what the statement leans on.
-/
import Derived.Test.YtflalhdofhobmaaGreatProg
import Derived.KernelRfl
import Derived.Test.YtflalhdofhobmaaGreatZHeA
set_option linter.unusedVariables false
set_option linter.unusedSimpArgs false

namespace Go.Proofs.YtflalhdofhobmaaGreat
open Go
set_option maxRecDepth 100000
def c11 : Fu := ⟨201, [.t 6],
 (.sq (.rg [⟨(some 6), none, .mv (.c (.bool false))⟩])
 (.sq (.rg [⟨(some 22), none, .ca 45 []⟩,
  ⟨(some 7), none, .mv (.t 22)⟩])
 (.sq (.sq (.rg [⟨(some 23), none, .mv (.t 7)⟩,
  ⟨(some 24), none, .nt (.t 23)⟩])
 (.cd (.t 24)
 (.sq (.rg [⟨(some 6), none, .mv (.c (.bool false))⟩])
 .rt)
 .sk))
 (.sq (.rg [⟨(some 25), none, .mv (.t 0)⟩,
  ⟨(some 26), none, .ca 13 [(.t 25)]⟩,
  ⟨(some 8), none, .al 24 [(.int .i64 0), (.int .i64 0), (.int .i64 0), (.int .i64 0), (.int .i64 0), (.int .i64 0)]⟩,
  ⟨none, none, .st (.t 8) (.t 26) 6⟩])
 (.sq (.rg [⟨(some 27), none, .mv (.t 2)⟩,
  ⟨(some 28), none, .ib .quo (.t 27) (.c (.int .i64 7))⟩,
  ⟨(some 29), none, .ca 16 [(.t 28), (.c (.int .i64 4))]⟩,
  ⟨(some 30), none, .fa (.t 8) 5⟩,
  ⟨none, none, .st (.t 30) (.c (.int .i64 1)) 1⟩,
  ⟨(some 31), none, .fa (.t 8) 4⟩,
  ⟨none, none, .st (.t 31) (.t 29) 1⟩])
 (.sq (.rg [⟨(some 32), none, .ld (.t 8) 6 true⟩,
  ⟨(some 33), none, .ca 46 [(.t 32)]⟩,
  ⟨(some 9), none, .mv (.t 33)⟩])
 (.sq (.sq (.rg [⟨(some 34), none, .mv (.t 9)⟩,
  ⟨(some 35), none, .en 0 false (.t 34) (.c (.pointer none))⟩])
 (.cd (.t 35)
 (.sq (.rg [⟨(some 6), none, .mv (.c (.bool false))⟩])
 .rt)
 .sk))
 (.sq (.rg [⟨(some 36), none, .mv (.t 1)⟩,
  ⟨(some 37), none, .fa (.t 8) 1⟩,
  ⟨(some 38), none, .ld (.t 37) 1 false⟩,
  ⟨(some 39), none, .ib .add (.t 38) (.c (.int .i64 1))⟩,
  ⟨(some 40), none, .ca 16 [(.t 36), (.t 39)]⟩,
  ⟨(some 10), none, .mv (.t 40)⟩])
 (.sq (.rg [⟨(some 41), none, .mv (.t 2)⟩,
  ⟨(some 42), none, .ca 16 [(.t 41), (.c (.int .i64 5))]⟩,
  ⟨(some 11), none, .mv (.t 42)⟩])
 (.sq (.rg [⟨(some 43), none, .mv (.t 0)⟩,
  ⟨(some 44), none, .ca 16 [(.t 43), (.c (.int .i64 50))]⟩,
  ⟨(some 45), none, .ib .add (.c (.int .i64 3)) (.t 44)⟩,
  ⟨(some 12), none, .mv (.t 45)⟩])
 (.sq (.rg [⟨(some 47), none, .mv (.t 9)⟩,
  ⟨(some 48), none, .mv (.t 10)⟩,
  ⟨(some 49), none, .fa (.t 8) 2⟩,
  ⟨(some 50), none, .ld (.t 49) 1 false⟩,
  ⟨(some 51), none, .ca 54 [(.t 47), (.c (.int .i64 0)), (.t 48), (.t 50)]⟩,
  ⟨(some 46), none, .mv (.t 51)⟩,
  ⟨(some 52), none, .ex (.t 46) 0⟩,
  ⟨(some 53), none, .ex (.t 46) 1⟩,
  ⟨(some 54), none, .ex (.t 46) 2⟩,
  ⟨(some 13), none, .mv (.t 52)⟩,
  ⟨(some 14), none, .mv (.t 53)⟩,
  ⟨(some 15), none, .mv (.t 54)⟩])
 (.sq (.sq (.rg [⟨(some 55), none, .mv (.t 15)⟩,
  ⟨(some 56), none, .nt (.t 55)⟩,
  ⟨(some 57), none, .mv (.t 56)⟩,
  ⟨(some 58), (some (57, false)), .mv (.t 9)⟩,
  ⟨(some 59), (some (57, false)), .nc (.t 58)⟩,
  ⟨(some 60), (some (57, false)), .fa (.t 59) 6⟩,
  ⟨(some 61), (some (57, false)), .ld (.t 60) 1 false⟩,
  ⟨(some 62), (some (57, false)), .mv (.t 12)⟩,
  ⟨(some 63), (some (57, false)), .cv .u64 (.t 62)⟩,
  ⟨(some 64), (some (57, false)), .ca 23 [(.t 61), (.c (.int .i64 2)), (.t 63)]⟩,
  ⟨(some 65), (some (57, false)), .ib .neq (.t 64) (.c (.int .i64 0))⟩,
  ⟨(some 66), none, .pk (.t 57) (.c (.bool true)) (.t 65)⟩])
 (.cd (.t 66)
 (.sq (.rg [⟨(some 6), none, .mv (.c (.bool false))⟩])
 .rt)
 .sk))
 (.sq (.rg [⟨(some 68), none, .mv (.t 9)⟩,
  ⟨(some 69), none, .mv (.t 13)⟩,
  ⟨(some 70), none, .mv (.t 14)⟩,
  ⟨(some 71), none, .ca 49 [(.t 68), (.c (.int .i64 0)), (.t 69), (.t 70)]⟩,
  ⟨(some 67), none, .mv (.t 71)⟩,
  ⟨(some 72), none, .ex (.t 67) 0⟩,
  ⟨(some 73), none, .ex (.t 67) 1⟩,
  ⟨(some 16), none, .mv (.t 72)⟩,
  ⟨(some 17), none, .mv (.t 73)⟩])
 (.sq (.rg [⟨(some 18), none, .mv (.c (.int .i64 5))⟩])
 (.sq (.sq (.rg [⟨(some 74), none, .mv (.t 10)⟩,
  ⟨(some 75), none, .ib .gtr (.t 74) (.c (.int .i64 0))⟩])
 (.cd (.t 75)
 (.rg [⟨(some 76), none, .mv (.t 10)⟩,
  ⟨(some 77), none, .ib .add (.c (.int .i64 6)) (.t 76)⟩,
  ⟨(some 18), none, .mv (.t 77)⟩])
 .sk))
 (.sq (.sq (.rg [⟨(some 78), none, .mv (.t 16)⟩,
  ⟨(some 79), none, .en 0 false (.t 78) (.c (.pointer none))⟩,
  ⟨(some 80), none, .mv (.t 79)⟩,
  ⟨(some 81), (some (80, false)), .mv (.t 17)⟩,
  ⟨(some 82), (some (80, false)), .mv (.t 18)⟩,
  ⟨(some 83), (some (80, false)), .ib .neq (.t 81) (.t 82)⟩,
  ⟨(some 84), none, .pk (.t 80) (.c (.bool true)) (.t 83)⟩,
  ⟨(some 85), none, .mv (.t 84)⟩,
  ⟨(some 86), (some (85, false)), .mv (.t 16)⟩,
  ⟨(some 87), (some (85, false)), .ca 50 [(.t 86)]⟩,
  ⟨(some 88), (some (85, false)), .ib .neq (.t 87) (.c (.int .i64 0))⟩,
  ⟨(some 89), none, .pk (.t 85) (.c (.bool true)) (.t 88)⟩,
  ⟨(some 90), none, .mv (.t 89)⟩,
  ⟨(some 91), (some (90, false)), .mv (.t 16)⟩,
  ⟨(some 92), (some (90, false)), .ca 63 [(.t 91)]⟩,
  ⟨(some 93), (some (90, false)), .len (.t 92)⟩,
  ⟨(some 94), (some (90, false)), .ib .neq (.t 93) (.c (.int .i64 0))⟩,
  ⟨(some 95), none, .pk (.t 90) (.c (.bool true)) (.t 94)⟩,
  ⟨(some 96), none, .mv (.t 95)⟩,
  ⟨(some 97), (some (96, false)), .mv (.t 16)⟩,
  ⟨(some 98), (some (96, false)), .ca 60 [(.t 97)]⟩,
  ⟨(some 99), (some (96, false)), .ib .neq (.t 98) (.c (.int .i64 (-1)))⟩,
  ⟨(some 100), none, .pk (.t 96) (.c (.bool true)) (.t 99)⟩,
  ⟨(some 101), none, .mv (.t 100)⟩,
  ⟨(some 102), (some (101, false)), .mv (.t 9)⟩,
  ⟨(some 103), (some (101, false)), .nc (.t 102)⟩,
  ⟨(some 104), (some (101, false)), .fa (.t 103) 7⟩,
  ⟨(some 105), (some (101, false)), .ld (.t 104) 1 false⟩,
  ⟨(some 106), (some (101, false)), .mv (.t 13)⟩,
  ⟨(some 107), (some (101, false)), .ca 30 [(.t 105), (.t 106)]⟩,
  ⟨(some 108), (some (101, false)), .fv (.t 107) 1 1 false⟩,
  ⟨(some 109), (some (101, false)), .ib .neq (.t 108) (.c (.int .i64 0))⟩,
  ⟨(some 110), none, .pk (.t 101) (.c (.bool true)) (.t 109)⟩,
  ⟨(some 111), none, .mv (.t 110)⟩,
  ⟨(some 112), (some (111, false)), .mv (.t 9)⟩,
  ⟨(some 113), (some (111, false)), .nc (.t 112)⟩,
  ⟨(some 114), (some (111, false)), .fa (.t 113) 7⟩,
  ⟨(some 115), (some (111, false)), .ld (.t 114) 1 false⟩,
  ⟨(some 116), (some (111, false)), .mv (.t 13)⟩,
  ⟨(some 117), (some (111, false)), .ca 30 [(.t 115), (.t 116)]⟩,
  ⟨(some 118), (some (111, false)), .fv (.t 117) 0 1 false⟩,
  ⟨(some 119), (some (111, false)), .mv (.t 14)⟩,
  ⟨(some 120), (some (111, false)), .ib .neq (.t 118) (.t 119)⟩,
  ⟨(some 121), none, .pk (.t 111) (.c (.bool true)) (.t 120)⟩])
 (.cd (.t 121)
 (.sq (.rg [⟨(some 6), none, .mv (.c (.bool false))⟩])
 .rt)
 .sk))
 (.sq (.rg [⟨(some 123), none, .mv (.t 9)⟩,
  ⟨(some 124), none, .nc (.t 123)⟩,
  ⟨(some 125), none, .fa (.t 124) 11⟩,
  ⟨(some 126), none, .ld (.t 125) 1 false⟩,
  ⟨(some 127), none, .ia (.t 126) (.c (.int .i64 0)) 1⟩,
  ⟨(some 128), none, .ld (.t 127) 1 false⟩,
  ⟨(some 129), none, .mv (.t 12)⟩,
  ⟨(some 130), none, .ib .rem (.t 129) (.c (.int .i64 3))⟩,
  ⟨(some 131), none, .ca 57 [(.t 128), (.t 130)]⟩,
  ⟨(some 122), none, .mv (.t 131)⟩,
  ⟨(some 132), none, .ex (.t 122) 0⟩,
  ⟨(some 133), none, .ex (.t 122) 1⟩,
  ⟨(some 19), none, .mv (.t 132)⟩,
  ⟨(some 20), none, .mv (.t 133)⟩])
 (.sq (.sq (.rd [⟨0, 0, [20], ⟨(some 134), none, .mv (.t 20)⟩⟩,
  ⟨1, 1, [134], ⟨(some 135), none, .len (.t 134)⟩⟩,
  ⟨2, 0, [10], ⟨(some 136), none, .mv (.t 10)⟩⟩,
  ⟨3, 7, [135, 136], ⟨(some 137), none, .ib .neq (.t 135) (.t 136)⟩⟩,
  ⟨4, 15, [137], ⟨(some 138), none, .mv (.t 137)⟩⟩,
  ⟨5, 31, [10, 138], ⟨(some 139), (some (138, false)), .mv (.t 10)⟩⟩,
  ⟨6, 63, [139, 138], ⟨(some 140), (some (138, false)), .ib .gtr (.t 139) (.c (.int .i64 0))⟩⟩,
  ⟨7, 127, [140, 138], ⟨(some 141), (some (138, false)), .mv (.t 140)⟩⟩,
  ⟨8, 255, [19, 141], ⟨(some 142), (some (141, true)), .mv (.t 19)⟩⟩,
  ⟨9, 255, [12, 141], ⟨(some 143), (some (141, true)), .mv (.t 12)⟩⟩,
  ⟨10, 1023, [142, 143, 141], ⟨(some 144), (some (141, true)), .ib .neq (.t 142) (.t 143)⟩⟩,
  ⟨11, 2047, [141, 144, 138], ⟨(some 145), (some (138, false)), .pk (.t 141) (.t 144) (.c (.bool false))⟩⟩,
  ⟨12, 4095, [138, 145], ⟨(some 146), none, .pk (.t 138) (.c (.bool true)) (.t 145)⟩⟩,
  ⟨13, 8191, [146], ⟨(some 147), none, .mv (.t 146)⟩⟩,
  ⟨14, 16383, [9, 147], ⟨(some 148), (some (147, false)), .mv (.t 9)⟩⟩,
  ⟨15, 32767, [148, 147], ⟨(some 149), (some (147, false)), .nc (.t 148)⟩⟩,
  ⟨16, 65535, [149, 147], ⟨(some 150), (some (147, false)), .fa (.t 149) 10⟩⟩,
  ⟨17, 131071, [150, 147], ⟨(some 151), (some (147, false)), .ld (.t 150) 1 false⟩⟩,
  ⟨18, 262143, [151, 147], ⟨(some 152), (some (147, false)), .ca 31 [(.t 151)]⟩⟩,
  ⟨19, 524287, [152, 147], ⟨(some 153), (some (147, false)), .len (.t 152)⟩⟩,
  ⟨20, 16383, [8, 147], ⟨(some 154), (some (147, false)), .fa (.t 8) 1⟩⟩,
  ⟨21, 1064959, [154, 147], ⟨(some 155), (some (147, false)), .ld (.t 154) 1 false⟩⟩,
  ⟨22, 16383, [10, 147], ⟨(some 156), (some (147, false)), .mv (.t 10)⟩⟩,
  ⟨23, 7356415, [155, 156, 147], ⟨(some 157), (some (147, false)), .ib .sub (.t 155) (.t 156)⟩⟩,
  ⟨24, 16777215, [153, 157, 147], ⟨(some 158), (some (147, false)), .ib .neq (.t 153) (.t 157)⟩⟩,
  ⟨25, 33554431, [147, 158], ⟨(some 159), none, .pk (.t 147) (.c (.bool true)) (.t 158)⟩⟩,
  ⟨26, 67108863, [159], ⟨(some 160), none, .mv (.t 159)⟩⟩,
  ⟨27, 134217727, [9, 160], ⟨(some 161), (some (160, false)), .mv (.t 9)⟩⟩,
  ⟨28, 268435455, [161, 160], ⟨(some 162), (some (160, false)), .nc (.t 161)⟩⟩,
  ⟨29, 536870911, [162, 160], ⟨(some 163), (some (160, false)), .fa (.t 162) 11⟩⟩,
  ⟨30, 1073741823, [163, 160], ⟨(some 164), (some (160, false)), .ld (.t 163) 1 false⟩⟩,
  ⟨31, 2147483647, [164, 160], ⟨(some 165), (some (160, false)), .ia (.t 164) (.c (.int .i64 0)) 1⟩⟩,
  ⟨32, 4294967295, [165, 160], ⟨(some 166), (some (160, false)), .ld (.t 165) 1 false⟩⟩,
  ⟨33, 8589934591, [166, 160], ⟨(some 167), (some (160, false)), .ca 44 [(.t 166)]⟩⟩,
  ⟨34, 17179869183, [167, 160], ⟨(some 168), (some (160, false)), .len (.t 167)⟩⟩,
  ⟨35, 34359738367, [168, 160], ⟨(some 169), (some (160, false)), .ib .neq (.t 168) (.c (.int .i64 0))⟩⟩,
  ⟨36, 68719476735, [160, 169], ⟨(some 170), none, .pk (.t 160) (.c (.bool true)) (.t 169)⟩⟩])
 (.cd (.t 170)
 (.sq (.rg [⟨(some 6), none, .mv (.c (.bool false))⟩])
 .rt)
 .sk))
 (.sq (.rg [⟨(some 21), none, .mv (.c (.int .i64 0))⟩])
 (.sq (.sq (.rg [⟨(some 171), none, .mv (.t 11)⟩,
  ⟨(some 172), none, .ib .geq (.t 171) (.c (.int .i64 2))⟩])
 (.cd (.t 172)
 (.rg [⟨(some 173), none, .mv (.t 10)⟩,
  ⟨(some 21), none, .mv (.t 173)⟩])
 .sk))
 (.sq (.rg [⟨(some 174), none, .mv (.t 7)⟩,
  ⟨(some 175), none, .mv (.t 174)⟩,
  ⟨(some 176), (some (175, true)), .mv (.t 9)⟩,
  ⟨(some 177), (some (175, true)), .nc (.t 176)⟩,
  ⟨(some 178), (some (175, true)), .fa (.t 177) 11⟩,
  ⟨(some 179), (some (175, true)), .ld (.t 178) 1 false⟩,
  ⟨(some 180), (some (175, true)), .ia (.t 179) (.c (.int .i64 0)) 1⟩,
  ⟨(some 181), (some (175, true)), .ld (.t 180) 1 false⟩,
  ⟨(some 182), (some (175, true)), .mv (.t 12)⟩,
  ⟨(some 183), (some (175, true)), .mv (.t 11)⟩,
  ⟨(some 184), (some (175, true)), .ib .add (.t 182) (.t 183)⟩,
  ⟨(some 185), (some (175, true)), .ca 67 [(.t 181), (.t 184)]⟩,
  ⟨(some 186), (some (175, true)), .mv (.t 21)⟩,
  ⟨(some 187), (some (175, true)), .ib .eql (.t 185) (.t 186)⟩,
  ⟨(some 188), none, .pk (.t 175) (.t 187) (.c (.bool false))⟩,
  ⟨(some 189), none, .mv (.t 188)⟩,
  ⟨(some 190), (some (189, true)), .mv (.t 9)⟩,
  ⟨(some 191), (some (189, true)), .nc (.t 190)⟩,
  ⟨(some 192), (some (189, true)), .fa (.t 191) 11⟩,
  ⟨(some 193), (some (189, true)), .ld (.t 192) 1 false⟩,
  ⟨(some 194), (some (189, true)), .ia (.t 193) (.c (.int .i64 0)) 1⟩,
  ⟨(some 195), (some (189, true)), .ld (.t 194) 1 false⟩,
  ⟨(some 196), (some (189, true)), .ca 44 [(.t 195)]⟩,
  ⟨(some 197), (some (189, true)), .len (.t 196)⟩,
  ⟨(some 198), (some (189, true)), .mv (.t 21)⟩,
  ⟨(some 199), (some (189, true)), .ib .eql (.t 197) (.t 198)⟩,
  ⟨(some 200), none, .pk (.t 189) (.t 199) (.c (.bool false))⟩,
  ⟨(some 6), none, .mv (.t 200)⟩])
 .rt)))))))))))))))))))))⟩
theorem k11 : cF Tryz.prog Tryz.f11 = some c11 := by kernel_rfl
def c13 : Fu := ⟨43, [.c 2 6 true],
 (.sq (.rg [⟨(some 2), none, .al 24 [(.int .i64 0), (.int .i64 0), (.int .i64 0), (.int .i64 0), (.int .i64 0), (.int .i64 0)]⟩])
 (.sq (.rg [⟨(some 4), none, .mv (.t 0)⟩,
  ⟨(some 5), none, .ca 16 [(.t 4), (.c (.int .i64 4))]⟩,
  ⟨(some 6), none, .mv (.t 0)⟩,
  ⟨(some 7), none, .ib .quo (.t 6) (.c (.int .i64 4))⟩,
  ⟨(some 8), none, .ca 16 [(.t 7), (.c (.int .i64 8))]⟩,
  ⟨(some 9), none, .mv (.t 0)⟩,
  ⟨(some 10), none, .ib .quo (.t 9) (.c (.int .i64 32))⟩,
  ⟨(some 11), none, .ca 16 [(.t 10), (.c (.int .i64 2))]⟩,
  ⟨(some 12), none, .mv (.t 0)⟩,
  ⟨(some 13), none, .ib .quo (.t 12) (.c (.int .i64 64))⟩,
  ⟨(some 14), none, .ca 16 [(.t 13), (.c (.int .i64 4))]⟩,
  ⟨(some 15), none, .mv (.t 0)⟩,
  ⟨(some 16), none, .ib .quo (.t 15) (.c (.int .i64 256))⟩,
  ⟨(some 17), none, .ca 16 [(.t 16), (.c (.int .i64 4))]⟩,
  ⟨(some 18), none, .mv (.t 0)⟩,
  ⟨(some 19), none, .ib .quo (.t 18) (.c (.int .i64 1024))⟩,
  ⟨(some 20), none, .ca 16 [(.t 19), (.c (.int .i64 3))]⟩,
  ⟨(some 21), none, .bs 3 6 [(.int .i64 0), (.int .i64 0), (.int .i64 0), (.int .i64 0), (.int .i64 0), (.int .i64 0)] [(0, 1, (.t 5)), (1, 1, (.t 8)), (2, 1, (.t 11)), (3, 1, (.t 14)), (4, 1, (.t 17)), (5, 1, (.t 20))]⟩,
  ⟨(some 22), none, .bd [(.slice none 0 0), (.int .i64 0)] [(0, 1, (.t 21))]⟩,
  ⟨(some 23), none, .bx 125 (.t 22)⟩,
  ⟨(some 3), none, .mv (.t 23)⟩])
 (.sq (.rg [⟨(some 24), none, .mv (.t 3)⟩,
  ⟨(some 25), none, .ca 68 [(.t 24), (.c (.int .i64 4))]⟩,
  ⟨(some 26), none, .ib .add (.c (.int .i64 1)) (.t 25)⟩,
  ⟨(some 27), none, .mv (.t 3)⟩,
  ⟨(some 28), none, .ca 68 [(.t 27), (.c (.int .i64 8))]⟩,
  ⟨(some 29), none, .ib .add (.c (.int .i64 1)) (.t 28)⟩,
  ⟨(some 30), none, .mv (.t 3)⟩,
  ⟨(some 31), none, .ca 68 [(.t 30), (.c (.int .i64 2))]⟩,
  ⟨(some 32), none, .ib .mul (.c (.int .i64 8)) (.t 31)⟩,
  ⟨(some 33), none, .ib .add (.c (.int .i64 8)) (.t 32)⟩,
  ⟨(some 34), none, .mv (.t 3)⟩,
  ⟨(some 35), none, .ca 68 [(.t 34), (.c (.int .i64 4))]⟩,
  ⟨(some 36), none, .ib .add (.c (.int .i64 1)) (.t 35)⟩,
  ⟨(some 37), none, .mv (.t 3)⟩,
  ⟨(some 38), none, .ca 68 [(.t 37), (.c (.int .i64 4))]⟩,
  ⟨(some 39), none, .mv (.t 3)⟩,
  ⟨(some 40), none, .ca 68 [(.t 39), (.c (.int .i64 3))]⟩,
  ⟨(some 41), none, .ib .add (.c (.int .i64 1)) (.t 40)⟩,
  ⟨(some 42), none, .bd [(.int .i64 0), (.int .i64 0), (.int .i64 0), (.int .i64 0), (.int .i64 0), (.int .i64 0)] [(0, 1, (.t 26)), (1, 1, (.t 29)), (2, 1, (.t 33)), (3, 1, (.t 36)), (4, 1, (.t 38)), (5, 1, (.t 41))]⟩,
  ⟨none, none, .st (.t 2) (.t 42) 6⟩])
 .rt)))⟩
theorem k13 : cF Tryz.prog Tryz.f13 = some c13 := by kernel_rfl
def c15 : Fu := ⟨14, [.t 2, .t 3],
 (.sq (.rg [⟨(some 2), none, .mv (.c (.pointer none))⟩,
  ⟨(some 3), none, .mv (.c (.int .i64 0))⟩])
 (.sq (.sq (.rg [⟨(some 4), none, .mv (.t 0)⟩,
  ⟨(some 5), none, .ib .lss (.t 4) (.c (.int .i64 1))⟩,
  ⟨(some 6), none, .mv (.t 5)⟩,
  ⟨(some 7), (some (6, false)), .mv (.t 0)⟩,
  ⟨(some 8), (some (6, false)), .ib .gtr (.t 7) (.c (.int .i64 8388608))⟩,
  ⟨(some 9), none, .pk (.t 6) (.c (.bool true)) (.t 8)⟩])
 (.cd (.t 9)
 (.sq (.rg [⟨(some 2), none, .mv (.c (.pointer none))⟩,
  ⟨(some 3), none, .mv (.c (.int .i64 1))⟩])
 .rt)
 .sk))
 (.sq (.rg [⟨(some 10), none, .mv (.t 0)⟩,
  ⟨(some 11), none, .mk 56 1 8 [(.int .u64 0)] (.t 10) (.t 10)⟩,
  ⟨(some 12), none, .bd [(.slice none 0 0), (.int .i64 0), (.int .i64 0), (.int .i64 0), (.int .u64 0), (.int .u64 0), (.bool false)] [(0, 1, (.t 11))]⟩,
  ⟨(some 13), none, .bx 139 (.t 12)⟩,
  ⟨(some 2), none, .mv (.t 13)⟩,
  ⟨(some 3), none, .mv (.c (.int .i64 0))⟩])
 .rt)))⟩
theorem k15 : cF Tryz.prog Tryz.f15 = some c15 := by kernel_rfl
def c16 : Fu := ⟨15, [.t 4],
 (.sq (.rg [⟨(some 4), none, .mv (.c (.int .i64 0))⟩])
 (.sq (.rg [⟨(some 6), none, .mv (.t 0)⟩,
  ⟨(some 7), none, .mv (.t 1)⟩,
  ⟨(some 8), none, .ib .rem (.t 6) (.t 7)⟩,
  ⟨(some 5), none, .mv (.t 8)⟩])
 (.sq (.sq (.rg [⟨(some 9), none, .mv (.t 5)⟩,
  ⟨(some 10), none, .ib .lss (.t 9) (.c (.int .i64 0))⟩])
 (.cd (.t 10)
 (.rg [⟨(some 11), none, .mv (.t 5)⟩,
  ⟨(some 12), none, .mv (.t 1)⟩,
  ⟨(some 13), none, .ib .add (.t 11) (.t 12)⟩,
  ⟨(some 5), none, .mv (.t 13)⟩])
 .sk))
 (.sq (.rg [⟨(some 14), none, .mv (.t 5)⟩,
  ⟨(some 4), none, .mv (.t 14)⟩])
 .rt))))⟩
theorem k16 : cF Tryz.prog Tryz.f16 = some c16 := by kernel_rfl
def c17 : Fu := ⟨17, [.t 2],
 (.sq (.rg [⟨(some 1), none, .bx 24 (.t 0)⟩,
  ⟨(some 2), none, .mv (.c (.int .i64 0))⟩])
 (.sq (.sq (.rg [⟨(some 5), none, .ld (.t 1) 6 true⟩,
  ⟨(some 6), none, .ca 77 [(.t 5)]⟩,
  ⟨(some 7), none, .nt (.t 6)⟩])
 (.cd (.t 7)
 (.sq (.rg [⟨(some 2), none, .mv (.c (.int .i64 0))⟩])
 .rt)
 .sk))
 (.sq (.rg [⟨(some 8), none, .ld (.t 1) 6 true⟩,
  ⟨(some 9), none, .ca 78 [(.t 8)]⟩,
  ⟨(some 3), none, .al 143 [(.int .i64 0), (.int .i64 0), (.int .i64 0), (.int .i64 0), (.int .i64 0), (.int .i64 0), (.int .i64 0), (.int .i64 0), (.int .i64 0), (.int .i64 0), (.int .i64 0), (.int .i64 0), (.int .i64 0), (.int .i64 0), (.int .i64 0)]⟩,
  ⟨none, none, .st (.t 3) (.t 9) 15⟩])
 (.sq (.rg [⟨(some 10), none, .iaa (.t 3) (.c (.int .i64 4)) 5 3⟩,
  ⟨(some 11), none, .ld (.t 10) 3 true⟩,
  ⟨(some 4), none, .al 142 [(.int .i64 0), (.int .i64 0), (.int .i64 0)]⟩,
  ⟨none, none, .st (.t 4) (.t 11) 3⟩])
 (.sq (.rg [⟨(some 12), none, .fa (.t 4) 1⟩,
  ⟨(some 13), none, .ld (.t 12) 1 false⟩,
  ⟨(some 14), none, .fa (.t 4) 2⟩,
  ⟨(some 15), none, .ld (.t 14) 1 false⟩,
  ⟨(some 16), none, .ib .add (.t 13) (.t 15)⟩,
  ⟨(some 2), none, .mv (.t 16)⟩])
 .rt)))))⟩
theorem k17 : cF Tryz.prog Tryz.f17 = some c17 := by kernel_rfl
def c18 : Fu := ⟨21, [.t 4, .t 5],
 (.sq (.rg [⟨(some 3), none, .bx 24 (.t 1)⟩,
  ⟨(some 4), none, .mv (.c (.pointer none))⟩,
  ⟨(some 5), none, .mv (.c (.int .i64 0))⟩])
 (.sq (.sq (.rg [⟨(some 9), none, .mv (.t 0)⟩,
  ⟨(some 10), none, .ld (.t 3) 6 true⟩,
  ⟨(some 11), none, .ca 70 [(.t 9), (.t 10)]⟩,
  ⟨(some 8), none, .mv (.t 11)⟩,
  ⟨(some 12), none, .ex (.t 8) 0⟩,
  ⟨(some 13), none, .ex (.t 8) 1⟩,
  ⟨(some 6), none, .mv (.t 12)⟩,
  ⟨(some 7), none, .mv (.t 13)⟩])
 (.sq (.rg [⟨(some 14), none, .mv (.t 7)⟩,
  ⟨(some 15), none, .ib .neq (.t 14) (.c (.int .i64 0))⟩])
 (.cd (.t 15)
 (.sq (.rg [⟨(some 16), none, .mv (.t 7)⟩,
  ⟨(some 4), none, .mv (.c (.pointer none))⟩,
  ⟨(some 5), none, .mv (.t 16)⟩])
 .rt)
 .sk)))
 (.sq (.rg [⟨(some 17), none, .mv (.t 0)⟩,
  ⟨(some 18), none, .ld (.t 3) 6 true⟩,
  ⟨(some 19), none, .bd [(.pointer none), (.int .i64 0), (.int .i64 0), (.int .i64 0), (.int .i64 0), (.int .i64 0), (.int .i64 0)] [(0, 1, (.t 17)), (1, 6, (.t 18))]⟩,
  ⟨(some 20), none, .bx 146 (.t 19)⟩,
  ⟨(some 4), none, .mv (.t 20)⟩,
  ⟨(some 5), none, .mv (.c (.int .i64 0))⟩])
 .rt)))⟩
theorem k18 : cF Tryz.prog Tryz.f18 = some c18 := by kernel_rfl
def c19 : Fu := ⟨49, [.t 10, .t 11],
 (.sq (.rg [⟨(some 10), none, .mv (.c (.pointer none))⟩,
  ⟨(some 11), none, .mv (.c (.int .i64 0))⟩])
 (.sq (.sq (.rg [⟨(some 13), none, .mv (.t 2)⟩,
  ⟨(some 14), none, .ib .lss (.t 13) (.c (.int .i64 0))⟩,
  ⟨(some 15), none, .mv (.t 14)⟩,
  ⟨(some 16), (some (15, false)), .mv (.t 2)⟩,
  ⟨(some 17), (some (15, false)), .mv (.t 0)⟩,
  ⟨(some 18), (some (15, false)), .nc (.t 17)⟩,
  ⟨(some 19), (some (15, false)), .fa (.t 18) 1⟩,
  ⟨(some 20), (some (15, false)), .fa (.t 19) 3⟩,
  ⟨(some 21), (some (15, false)), .ld (.t 20) 1 false⟩,
  ⟨(some 22), (some (15, false)), .ib .geq (.t 16) (.t 21)⟩,
  ⟨(some 23), none, .pk (.t 15) (.c (.bool true)) (.t 22)⟩])
 (.cd (.t 23)
 (.sq (.rg [⟨(some 10), none, .mv (.c (.pointer none))⟩,
  ⟨(some 11), none, .mv (.c (.int .i64 1))⟩])
 .rt)
 .sk))
 (.sq (.sq (.rg [⟨(some 24), none, .mv (.t 4)⟩,
  ⟨(some 25), none, .ib .lss (.t 24) (.c (.int .i64 1))⟩,
  ⟨(some 26), none, .mv (.t 25)⟩,
  ⟨(some 27), (some (26, false)), .mv (.t 4)⟩,
  ⟨(some 28), (some (26, false)), .mv (.t 0)⟩,
  ⟨(some 29), (some (26, false)), .nc (.t 28)⟩,
  ⟨(some 30), (some (26, false)), .fa (.t 29) 1⟩,
  ⟨(some 31), (some (26, false)), .fa (.t 30) 2⟩,
  ⟨(some 32), (some (26, false)), .ld (.t 31) 1 false⟩,
  ⟨(some 33), (some (26, false)), .ib .gtr (.t 27) (.t 32)⟩,
  ⟨(some 34), none, .pk (.t 26) (.c (.bool true)) (.t 33)⟩])
 (.cd (.t 34)
 (.sq (.rg [⟨(some 10), none, .mv (.c (.pointer none))⟩,
  ⟨(some 11), none, .mv (.c (.int .i64 5))⟩])
 .rt)
 .sk))
 (.sq (.rg [⟨(some 35), none, .mv (.t 0)⟩,
  ⟨(some 36), none, .mv (.t 1)⟩,
  ⟨(some 37), none, .mv (.t 2)⟩,
  ⟨(some 38), none, .mv (.t 3)⟩,
  ⟨(some 39), none, .mv (.t 4)⟩,
  ⟨(some 40), none, .bd [.nilFunc, .nilFunc, .nilFunc, .nilFunc, (.int .i64 0), (.pointer none), (.pointer none), (.int .i64 0), (.int .i64 0), (.int .i64 0), (.int .i64 0), (.int .i64 0), (.bool false), (.bool false), (.int .i64 0), (.int .i64 0), (.int .u64 0), (.int .i64 0), (.int .i64 0), (.int .i64 0), (.int .i64 0), (.pointer none), (.pointer none), (.int .i64 0), (.int .i64 0), (.int .i64 0), (.int .i64 0), (.int .i64 0), (.int .i64 0)] [(5, 1, (.t 35)), (6, 1, (.t 36)), (7, 1, (.t 37)), (8, 1, (.t 38)), (9, 1, (.t 39)), (10, 1, (.c (.int .i64 (-1))))]⟩,
  ⟨(some 41), none, .bx 152 (.t 40)⟩,
  ⟨(some 12), none, .mv (.t 41)⟩])
 (.sq (.rg [⟨(some 42), none, .mv (.t 12)⟩,
  ⟨(some 43), none, .nc (.t 42)⟩,
  ⟨(some 44), none, .fa (.t 43) 0⟩,
  ⟨(some 45), none, .mv (.t 12)⟩,
  ⟨(some 46), none, .mf (.func 80) [(.t 45)] []⟩,
  ⟨(some 47), none, .ca 79 [(.t 44), (.t 46)]⟩])
 (.sq (.rg [⟨(some 48), none, .mv (.t 12)⟩,
  ⟨(some 10), none, .mv (.t 48)⟩,
  ⟨(some 11), none, .mv (.c (.int .i64 0))⟩])
 .rt))))))⟩
theorem k19 : cF Tryz.prog Tryz.f19 = some c19 := by kernel_rfl
def c23 : Fu := ⟨18, [.t 6],
 (.sq (.rg [⟨(some 6), none, .mv (.c (.int .i64 0))⟩])
 (.sq (.sq (.rg [⟨(some 7), none, .mv (.t 0)⟩,
  ⟨(some 8), none, .mv (.t 1)⟩,
  ⟨(some 9), none, .ca 81 [(.t 7), (.t 8)]⟩,
  ⟨(some 10), none, .nt (.t 9)⟩])
 (.cd (.t 10)
 (.sq (.rg [⟨(some 6), none, .mv (.c (.int .i64 1))⟩])
 .rt)
 .sk))
 (.sq (.rg [⟨(some 11), none, .mv (.t 0)⟩,
  ⟨(some 12), none, .nc (.t 11)⟩,
  ⟨(some 13), none, .fa (.t 12) 0⟩,
  ⟨(some 14), none, .ld (.t 13) 1 false⟩,
  ⟨(some 15), none, .mv (.t 1)⟩,
  ⟨(some 16), none, .mv (.t 2)⟩,
  ⟨(some 17), none, .ia (.t 14) (.t 15) 1⟩,
  ⟨none, none, .st (.t 17) (.t 16) 1⟩])
 (.sq (.rg [⟨(some 6), none, .mv (.c (.int .i64 0))⟩])
 .rt))))⟩
theorem k23 : cF Tryz.prog Tryz.f23 = some c23 := by kernel_rfl
def c24 : Fu := ⟨34, [.t 6],
 (.sq (.rg [⟨(some 3), none, .bx 24 (.t 0)⟩,
  ⟨(some 6), none, .mv (.c (.int .i64 0))⟩])
 (.sq (.sq (.rg [⟨(some 7), none, .mv (.t 1)⟩,
  ⟨(some 8), none, .fa (.t 3) 1⟩,
  ⟨(some 9), none, .ld (.t 8) 1 false⟩,
  ⟨(some 10), none, .ib .sub (.t 9) (.c (.int .i64 1))⟩,
  ⟨(some 11), none, .ca 82 [(.t 7), (.c (.int .i64 0)), (.t 10)]⟩,
  ⟨(some 12), none, .nt (.t 11)⟩,
  ⟨(some 13), none, .mv (.t 12)⟩,
  ⟨(some 14), (some (13, false)), .mv (.t 2)⟩,
  ⟨(some 15), (some (13, false)), .fa (.t 3) 2⟩,
  ⟨(some 16), (some (13, false)), .ld (.t 15) 1 false⟩,
  ⟨(some 17), (some (13, false)), .ib .sub (.t 16) (.c (.int .i64 1))⟩,
  ⟨(some 18), (some (13, false)), .ca 82 [(.t 14), (.c (.int .i64 0)), (.t 17)]⟩,
  ⟨(some 19), (some (13, false)), .nt (.t 18)⟩,
  ⟨(some 20), none, .pk (.t 13) (.c (.bool true)) (.t 19)⟩,
  ⟨(some 21), none, .mv (.t 20)⟩,
  ⟨(some 22), (some (21, false)), .ld (.t 3) 6 true⟩,
  ⟨(some 23), (some (21, false)), .ca 77 [(.t 22)]⟩,
  ⟨(some 24), (some (21, false)), .nt (.t 23)⟩,
  ⟨(some 25), none, .pk (.t 21) (.c (.bool true)) (.t 24)⟩])
 (.cd (.t 25)
 (.sq (.rg [⟨(some 6), none, .mv (.c (.int .i64 (-1)))⟩])
 .rt)
 .sk))
 (.sq (.rg [⟨(some 26), none, .ld (.t 3) 6 true⟩,
  ⟨(some 27), none, .mv (.t 1)⟩,
  ⟨(some 28), none, .fa (.t 3) 2⟩,
  ⟨(some 29), none, .ld (.t 28) 1 false⟩,
  ⟨(some 30), none, .ib .mul (.t 27) (.t 29)⟩,
  ⟨(some 31), none, .mv (.t 2)⟩,
  ⟨(some 32), none, .ib .add (.t 30) (.t 31)⟩,
  ⟨(some 33), none, .ca 83 [(.t 26), (.c (.int .i64 7)), (.t 32)]⟩,
  ⟨(some 6), none, .mv (.t 33)⟩])
 .rt)))⟩
theorem k24 : cF Tryz.prog Tryz.f24 = some c24 := by kernel_rfl
def c26 : Fu := ⟨7, [.t 2],
 (.sq (.rg [⟨(some 2), none, .mv (.c (.bool false))⟩])
 (.sq (.rg [⟨(some 3), none, .mv (.t 0)⟩,
  ⟨(some 4), none, .nc (.t 3)⟩,
  ⟨(some 5), none, .fa (.t 4) 0⟩,
  ⟨(some 6), none, .ca 91 [(.t 5)]⟩,
  ⟨(some 2), none, .mv (.t 6)⟩])
 .rt))⟩
theorem k26 : cF Tryz.prog Tryz.f26 = some c26 := by kernel_rfl
def c27 : Fu := ⟨7, [.t 2],
 (.sq (.rg [⟨(some 2), none, .mv (.c (.bool false))⟩])
 (.sq (.rg [⟨(some 3), none, .mv (.t 0)⟩,
  ⟨(some 4), none, .nc (.t 3)⟩,
  ⟨(some 5), none, .fa (.t 4) 0⟩,
  ⟨(some 6), none, .ca 92 [(.t 5)]⟩,
  ⟨(some 2), none, .mv (.t 6)⟩])
 .rt))⟩
theorem k27 : cF Tryz.prog Tryz.f27 = some c27 := by kernel_rfl
def c29 : Fu := ⟨16, [.t 4],
 (.sq (.rg [⟨(some 4), none, .mv (.c (.int .u64 0))⟩])
 (.sq (.sq (.rg [⟨(some 5), none, .mv (.t 0)⟩,
  ⟨(some 6), none, .mv (.t 1)⟩,
  ⟨(some 7), none, .ca 81 [(.t 5), (.t 6)]⟩,
  ⟨(some 8), none, .nt (.t 7)⟩])
 (.cd (.t 8)
 (.sq (.rg [⟨(some 4), none, .mv (.c (.int .u64 0))⟩])
 .rt)
 .sk))
 (.sq (.rg [⟨(some 9), none, .mv (.t 0)⟩,
  ⟨(some 10), none, .nc (.t 9)⟩,
  ⟨(some 11), none, .fa (.t 10) 0⟩,
  ⟨(some 12), none, .ld (.t 11) 1 false⟩,
  ⟨(some 13), none, .mv (.t 1)⟩,
  ⟨(some 14), none, .ia (.t 12) (.t 13) 1⟩,
  ⟨(some 15), none, .ld (.t 14) 1 false⟩,
  ⟨(some 4), none, .mv (.t 15)⟩])
 .rt)))⟩
theorem k29 : cF Tryz.prog Tryz.f29 = some c29 := by kernel_rfl
def c30 : Fu := ⟨17, [.c 4 4 true],
 (.sq (.rg [⟨(some 4), none, .al 68 [(.int .i64 0), (.int .i64 0), (.int .i64 0), (.int .i64 0)]⟩])
 (.sq (.rd [⟨0, 0, [0], ⟨(some 5), none, .mv (.t 0)⟩⟩,
  ⟨1, 1, [5], ⟨(some 6), none, .nc (.t 5)⟩⟩,
  ⟨2, 3, [6], ⟨(some 7), none, .fa (.t 6) 0⟩⟩,
  ⟨3, 7, [7], ⟨(some 8), none, .ld (.t 7) 1 false⟩⟩,
  ⟨4, 0, [0], ⟨(some 9), none, .mv (.t 0)⟩⟩,
  ⟨5, 16, [9], ⟨(some 10), none, .nc (.t 9)⟩⟩,
  ⟨6, 48, [10], ⟨(some 11), none, .fa (.t 10) 1⟩⟩,
  ⟨7, 112, [11], ⟨(some 12), none, .ld (.t 11) 6 true⟩⟩,
  ⟨8, 0, [1], ⟨(some 13), none, .mv (.t 1)⟩⟩,
  ⟨9, 496, [12, 13], ⟨(some 14), none, .ca 94 [(.t 12), (.t 13)]⟩⟩,
  ⟨10, 1023, [8, 14], ⟨(some 15), none, .ca 29 [(.t 8), (.t 14)]⟩⟩,
  ⟨11, 2047, [15], ⟨(some 16), none, .ca 93 [(.t 15)]⟩⟩,
  ⟨12, 4095, [4, 16], ⟨none, none, .st (.t 4) (.t 16) 4⟩⟩])
 .rt))⟩
theorem k30 : cF Tryz.prog Tryz.f30 = some c30 := by kernel_rfl
def c31 : Fu := ⟨45, [.t 2],
 (.sq (.rg [⟨(some 2), none, .mv (.c (.slice none 0 0))⟩])
 (.sq (.rg [⟨(some 3), none, .mv (.c (.slice none 0 0))⟩])
 (.sq (.sq (.rd [⟨0, 0, [0], ⟨(some 5), none, .mv (.t 0)⟩⟩,
  ⟨1, 0, [0], ⟨(some 6), none, .mv (.t 0)⟩⟩,
  ⟨2, 2, [6], ⟨(some 7), none, .nc (.t 6)⟩⟩,
  ⟨3, 6, [7], ⟨(some 8), none, .fa (.t 7) 0⟩⟩,
  ⟨4, 14, [8], ⟨(some 9), none, .ld (.t 8) 1 false⟩⟩,
  ⟨5, 0, [0], ⟨(some 10), none, .mv (.t 0)⟩⟩,
  ⟨6, 32, [10], ⟨(some 11), none, .nc (.t 10)⟩⟩,
  ⟨7, 96, [11], ⟨(some 12), none, .fa (.t 11) 1⟩⟩,
  ⟨8, 224, [12], ⟨(some 13), none, .ld (.t 12) 1 false⟩⟩,
  ⟨9, 510, [9, 13], ⟨(some 14), none, .ca 29 [(.t 9), (.t 13)]⟩⟩,
  ⟨10, 1023, [5, 14], ⟨(some 15), none, .ca 95 [(.t 5), (.t 14)]⟩⟩,
  ⟨11, 2047, [15], ⟨(some 4), none, .mv (.t 15)⟩⟩])
 (.bl 0
 (.lp
 (.sq (.sq (.rg [⟨(some 16), none, .mv (.t 4)⟩,
  ⟨(some 17), none, .ib .geq (.t 16) (.c (.int .i64 0))⟩,
  ⟨(some 18), none, .mv (.t 17)⟩,
  ⟨(some 19), (some (18, true)), .mv (.t 3)⟩,
  ⟨(some 20), (some (18, true)), .len (.t 19)⟩,
  ⟨(some 21), (some (18, true)), .mv (.t 0)⟩,
  ⟨(some 22), (some (18, true)), .nc (.t 21)⟩,
  ⟨(some 23), (some (18, true)), .fa (.t 22) 3⟩,
  ⟨(some 24), (some (18, true)), .ld (.t 23) 1 false⟩,
  ⟨(some 25), (some (18, true)), .ib .lss (.t 20) (.t 24)⟩,
  ⟨(some 26), none, .pk (.t 18) (.t 25) (.c (.bool false))⟩])
 (.cd (.t 26)
 .sk
 (.ex 0)))
 (.sq (.bl 1
 (.rg [⟨(some 40), none, .mv (.t 3)⟩,
  ⟨(some 41), none, .mv (.t 4)⟩,
  ⟨(some 42), none, .bs 3 1 [(.int .i64 0)] [(0, 1, (.t 41))]⟩,
  ⟨(some 43), none, .ap 53 3 1 8 [(.int .i64 0)] (.t 40) (.t 42)⟩,
  ⟨(some 3), none, .mv (.t 43)⟩]))
 (.rd [⟨0, 0, [0], ⟨(some 27), none, .mv (.t 0)⟩⟩,
  ⟨1, 0, [0], ⟨(some 28), none, .mv (.t 0)⟩⟩,
  ⟨2, 2, [28], ⟨(some 29), none, .nc (.t 28)⟩⟩,
  ⟨3, 6, [29], ⟨(some 30), none, .fa (.t 29) 0⟩⟩,
  ⟨4, 14, [30], ⟨(some 31), none, .ld (.t 30) 1 false⟩⟩,
  ⟨5, 0, [0], ⟨(some 32), none, .mv (.t 0)⟩⟩,
  ⟨6, 32, [32], ⟨(some 33), none, .nc (.t 32)⟩⟩,
  ⟨7, 96, [33], ⟨(some 34), none, .fa (.t 33) 2⟩⟩,
  ⟨8, 224, [34], ⟨(some 35), none, .ld (.t 34) 1 false⟩⟩,
  ⟨9, 0, [4], ⟨(some 36), none, .mv (.t 4)⟩⟩,
  ⟨10, 992, [35, 36], ⟨(some 37), none, .ib .add (.t 35) (.t 36)⟩⟩,
  ⟨11, 2046, [31, 37], ⟨(some 38), none, .ca 29 [(.t 31), (.t 37)]⟩⟩,
  ⟨12, 4095, [27, 38], ⟨(some 39), none, .ca 96 [(.t 27), (.t 38)]⟩⟩,
  ⟨13, 8191, [39], ⟨(some 4), none, .mv (.t 39)⟩⟩]))))))
 (.sq (.rg [⟨(some 44), none, .mv (.t 3)⟩,
  ⟨(some 2), none, .mv (.t 44)⟩])
 .rt))))⟩
theorem k31 : cF Tryz.prog Tryz.f31 = some c31 := by kernel_rfl
def c32 : Fu := ⟨7, [.t 2],
 (.sq (.rg [⟨(some 2), none, .mv (.c (.bool false))⟩])
 (.sq (.rg [⟨(some 3), none, .mv (.t 0)⟩,
  ⟨(some 4), none, .nc (.t 3)⟩,
  ⟨(some 5), none, .fa (.t 4) 0⟩,
  ⟨(some 6), none, .ca 91 [(.t 5)]⟩,
  ⟨(some 2), none, .mv (.t 6)⟩])
 .rt))⟩
theorem k32 : cF Tryz.prog Tryz.f32 = some c32 := by kernel_rfl
def c34 : Fu := ⟨7, [.t 2],
 (.sq (.rg [⟨(some 2), none, .mv (.c (.bool false))⟩])
 (.sq (.rg [⟨(some 3), none, .mv (.t 0)⟩,
  ⟨(some 4), none, .nc (.t 3)⟩,
  ⟨(some 5), none, .fa (.t 4) 0⟩,
  ⟨(some 6), none, .ca 92 [(.t 5)]⟩,
  ⟨(some 2), none, .mv (.t 6)⟩])
 .rt))⟩
theorem k34 : cF Tryz.prog Tryz.f34 = some c34 := by kernel_rfl
def c35 : Fu := ⟨25, [.t 6, .t 7],
 (.sq (.rg [⟨(some 6), none, .mv (.c (.pointer none))⟩,
  ⟨(some 7), none, .mv (.c (.int .i64 0))⟩])
 (.sq (.sq (.rg [⟨(some 9), none, .mv (.t 0)⟩,
  ⟨(some 10), none, .mv (.t 1)⟩,
  ⟨(some 11), none, .ca 104 [(.t 9), (.t 10)]⟩,
  ⟨(some 12), none, .nt (.t 11)⟩])
 (.cd (.t 12)
 (.sq (.rg [⟨(some 6), none, .mv (.c (.pointer none))⟩,
  ⟨(some 7), none, .mv (.c (.int .i64 1))⟩])
 .rt)
 .sk))
 (.sq (.rg [⟨(some 13), none, .mv (.t 0)⟩,
  ⟨(some 14), none, .mv (.t 1)⟩,
  ⟨(some 15), none, .mv (.t 2)⟩,
  ⟨(some 16), none, .bd [.nilFunc, .nilFunc, .nilFunc, .nilFunc, (.int .i64 0), (.pointer none), (.int .i64 0), (.int .i64 0), (.int .u64 0), (.int .i64 0), (.int .i64 0), (.int .i64 0), (.int .i64 0), (.int .i64 0), (.int .i64 0), (.int .i64 0)] [(5, 1, (.t 13)), (6, 1, (.t 14)), (7, 1, (.t 15)), (14, 1, (.c (.int .i64 (-1))))]⟩,
  ⟨(some 17), none, .bx 173 (.t 16)⟩,
  ⟨(some 8), none, .mv (.t 17)⟩])
 (.sq (.rg [⟨(some 18), none, .mv (.t 8)⟩,
  ⟨(some 19), none, .nc (.t 18)⟩,
  ⟨(some 20), none, .fa (.t 19) 0⟩,
  ⟨(some 21), none, .mv (.t 8)⟩,
  ⟨(some 22), none, .mf (.func 105) [(.t 21)] []⟩,
  ⟨(some 23), none, .ca 79 [(.t 20), (.t 22)]⟩])
 (.sq (.rg [⟨(some 24), none, .mv (.t 8)⟩,
  ⟨(some 6), none, .mv (.t 24)⟩,
  ⟨(some 7), none, .mv (.c (.int .i64 0))⟩])
 .rt)))))⟩
theorem k35 : cF Tryz.prog Tryz.f35 = some c35 := by kernel_rfl
def c37 : Fu := ⟨15, [.t 8],
 (.sq (.rg [⟨(some 8), none, .mv (.c (.pointer none))⟩])
 (.sq (.rg [⟨(some 9), none, .mv (.t 0)⟩,
  ⟨(some 10), none, .mv (.t 1)⟩,
  ⟨(some 11), none, .mv (.t 2)⟩,
  ⟨(some 12), none, .mv (.t 3)⟩,
  ⟨(some 13), none, .bd [(.pointer none), (.int .i64 0), (.int .i64 0), (.int .i64 0), (.int .i64 0), (.int .i64 0), (.int .i64 0), (.int .i64 0), (.int .i64 0), (.int .i64 0), (.int .u64 0), (.pointer none), (.pointer none), (.int .i64 0), (.int .i64 0), (.int .i64 0), (.int .i64 0), (.int .i64 0), (.int .i64 0), (.bool false), (.bool false)] [(0, 1, (.t 9)), (1, 1, (.t 10)), (2, 1, (.t 11)), (3, 1, (.t 12)), (8, 1, (.c (.int .i64 (-1))))]⟩,
  ⟨(some 14), none, .bx 87 (.t 13)⟩,
  ⟨(some 8), none, .mv (.t 14)⟩])
 .rt))⟩
theorem k37 : cF Tryz.prog Tryz.f37 = some c37 := by kernel_rfl
def c38 : Fu := ⟨241, [.t 2],
 (.sq (.rg [⟨(some 2), none, .mv (.c (.bool false))⟩])
 (.sq (.sq (.rg [⟨(some 13), none, .mv (.t 0)⟩,
  ⟨(some 14), none, .nc (.t 13)⟩,
  ⟨(some 15), none, .fa (.t 14) 20⟩,
  ⟨(some 16), none, .ld (.t 15) 1 false⟩])
 (.cd (.t 16)
 (.sq (.rg [⟨(some 2), none, .mv (.c (.bool false))⟩])
 .rt)
 .sk))
 (.sq (.rg [⟨(some 17), none, .mv (.t 0)⟩,
  ⟨(some 18), none, .nc (.t 17)⟩,
  ⟨(some 19), none, .fa (.t 18) 5⟩,
  ⟨(some 20), none, .ld (.t 19) 1 false⟩,
  ⟨(some 21), none, .ib .add (.t 20) (.c (.int .i64 1))⟩,
  ⟨(some 22), none, .nc (.t 17)⟩,
  ⟨(some 23), none, .fa (.t 22) 5⟩,
  ⟨none, none, .st (.t 23) (.t 21) 1⟩])
 (.sq (.rg [⟨(some 24), none, .mv (.t 0)⟩,
  ⟨(some 25), none, .nc (.t 24)⟩,
  ⟨(some 26), none, .fa (.t 25) 0⟩,
  ⟨(some 27), none, .ld (.t 26) 1 false⟩,
  ⟨(some 28), none, .nc (.t 27)⟩,
  ⟨(some 29), none, .fa (.t 28) 0⟩,
  ⟨(some 30), none, .ld (.t 29) 1 false⟩,
  ⟨(some 3), none, .mv (.t 30)⟩])
 (.sq (.rd [⟨0, 0, [3], ⟨(some 31), none, .mv (.t 3)⟩⟩,
  ⟨1, 1, [31], ⟨(some 32), none, .nc (.t 31)⟩⟩,
  ⟨2, 3, [32], ⟨(some 33), none, .fa (.t 32) 0⟩⟩,
  ⟨3, 7, [33], ⟨(some 34), none, .ld (.t 33) 6 true⟩⟩,
  ⟨4, 0, [0], ⟨(some 35), none, .mv (.t 0)⟩⟩,
  ⟨5, 16, [35], ⟨(some 36), none, .nc (.t 35)⟩⟩,
  ⟨6, 48, [36], ⟨(some 37), none, .fa (.t 36) 1⟩⟩,
  ⟨7, 112, [37], ⟨(some 38), none, .ld (.t 37) 1 false⟩⟩,
  ⟨8, 255, [34, 38], ⟨(some 39), none, .ca 97 [(.t 34), (.t 38)]⟩⟩,
  ⟨9, 511, [39], ⟨(some 4), none, .mv (.t 39)⟩⟩])
 (.sq (.rg [⟨(some 40), none, .mv (.t 0)⟩,
  ⟨(some 41), none, .nc (.t 40)⟩,
  ⟨(some 42), none, .fa (.t 41) 10⟩,
  ⟨(some 43), none, .ld (.t 42) 1 false⟩,
  ⟨(some 44), none, .ca 100 [(.t 43)]⟩,
  ⟨(some 5), none, .al 162 [(.int .i64 0), (.int .i64 0), (.int .i64 0), (.int .i64 0)]⟩,
  ⟨none, none, .st (.t 5) (.t 44) 4⟩])
 (.sq (.sq (.rg [⟨(some 45), none, .mv (.t 0)⟩,
  ⟨(some 46), none, .nc (.t 45)⟩,
  ⟨(some 47), none, .fa (.t 46) 4⟩,
  ⟨(some 48), none, .ld (.t 47) 1 false⟩])
 (.bl 0
 (.sq (.rg [⟨(some 65), none, .ib .eql (.t 48) (.c (.int .i64 0))⟩,
  ⟨(some 64), none, .mv (.t 65)⟩])
 (.cd (.t 64)
 (.sq (.rg [⟨(some 66), none, .mv (.t 0)⟩,
  ⟨(some 67), none, .mv (.t 3)⟩,
  ⟨(some 68), none, .nc (.t 67)⟩,
  ⟨(some 69), none, .fa (.t 68) 6⟩,
  ⟨(some 70), none, .ld (.t 69) 1 false⟩,
  ⟨(some 71), none, .mv (.t 4)⟩,
  ⟨(some 72), none, .ca 98 [(.t 70), (.t 71)]⟩,
  ⟨(some 73), none, .nc (.t 66)⟩,
  ⟨(some 74), none, .fa (.t 73) 10⟩,
  ⟨none, none, .st (.t 74) (.t 72) 1⟩])
 (.rg [⟨(some 75), none, .mv (.t 0)⟩,
  ⟨(some 76), none, .ca 106 [(.t 75)]⟩]))
 (.sq (.rg [⟨(some 78), none, .ib .eql (.t 48) (.c (.int .i64 1))⟩,
  ⟨(some 77), none, .mv (.t 78)⟩])
 (.cd (.t 77)
 (.sq (.rg [⟨(some 79), none, .ld (.t 5) 4 true⟩,
  ⟨(some 6), none, .al 162 [(.int .i64 0), (.int .i64 0), (.int .i64 0), (.int .i64 0)]⟩,
  ⟨none, none, .st (.t 6) (.t 79) 4⟩])
 (.sq (.rd [⟨0, 0, [5], ⟨(some 80), none, .fa (.t 5) 3⟩⟩,
  ⟨1, 1, [80], ⟨(some 81), none, .ld (.t 80) 1 false⟩⟩,
  ⟨2, 0, [0], ⟨(some 82), none, .mv (.t 0)⟩⟩,
  ⟨3, 4, [82], ⟨(some 83), none, .nc (.t 82)⟩⟩,
  ⟨4, 12, [83], ⟨(some 84), none, .fa (.t 83) 7⟩⟩,
  ⟨5, 28, [84], ⟨(some 85), none, .ld (.t 84) 1 false⟩⟩,
  ⟨6, 63, [81, 85], ⟨(some 86), none, .ib .add (.t 81) (.t 85)⟩⟩,
  ⟨7, 127, [6], ⟨(some 87), none, .fa (.t 6) 3⟩⟩,
  ⟨8, 255, [87, 86], ⟨none, none, .st (.t 87) (.t 86) 1⟩⟩])
 (.sq (.rg [⟨(some 89), none, .ld (.t 6) 4 true⟩,
  ⟨(some 90), none, .ca 101 [(.t 89)]⟩,
  ⟨(some 88), none, .mv (.t 90)⟩,
  ⟨(some 91), none, .ex (.t 88) 0⟩,
  ⟨(some 92), none, .ex (.t 88) 1⟩,
  ⟨(some 7), none, .mv (.t 91)⟩,
  ⟨(some 8), none, .mv (.t 92)⟩])
 (.sq (.rg [⟨(some 93), none, .mv (.t 0)⟩,
  ⟨(some 94), none, .nc (.t 93)⟩,
  ⟨(some 95), none, .fa (.t 94) 4⟩,
  ⟨none, none, .st (.t 95) (.c (.int .i64 0)) 1⟩])
 (.sq (.rd [⟨0, 0, [3], ⟨(some 96), none, .mv (.t 3)⟩⟩,
  ⟨1, 1, [96], ⟨(some 97), none, .nc (.t 96)⟩⟩,
  ⟨2, 3, [97], ⟨(some 98), none, .fa (.t 97) 6⟩⟩,
  ⟨3, 7, [98], ⟨(some 99), none, .ld (.t 98) 1 false⟩⟩,
  ⟨4, 0, [4], ⟨(some 100), none, .mv (.t 4)⟩⟩,
  ⟨5, 0, [0], ⟨(some 101), none, .mv (.t 0)⟩⟩,
  ⟨6, 32, [101], ⟨(some 102), none, .nc (.t 101)⟩⟩,
  ⟨7, 96, [102], ⟨(some 103), none, .fa (.t 102) 10⟩⟩,
  ⟨8, 224, [103], ⟨(some 104), none, .ld (.t 103) 1 false⟩⟩,
  ⟨9, 0, [7], ⟨(some 105), none, .mv (.t 7)⟩⟩,
  ⟨10, 1023, [99, 100, 104, 105], ⟨(some 106), none, .ca 102 [(.t 99), (.t 100), (.t 104), (.t 105)]⟩⟩])
 (.cd (.t 106)
 (.rd [⟨0, 0, [0], ⟨(some 107), none, .mv (.t 0)⟩⟩,
  ⟨1, 0, [5], ⟨(some 108), none, .ld (.t 5) 4 true⟩⟩,
  ⟨2, 2, [108], ⟨(some 109), none, .ca 103 [(.t 108)]⟩⟩,
  ⟨3, 0, [5], ⟨(some 110), none, .fa (.t 5) 3⟩⟩,
  ⟨4, 8, [110], ⟨(some 111), none, .ld (.t 110) 1 false⟩⟩,
  ⟨5, 31, [107, 109, 111], ⟨(some 112), none, .ca 107 [(.t 107), (.t 109), (.t 111)]⟩⟩])
 .sk))))))
 (.sq (.rg [⟨(some 114), none, .ib .eql (.t 48) (.c (.int .i64 2))⟩,
  ⟨(some 113), none, .mv (.t 114)⟩])
 (.cd (.t 113)
 (.sq (.rg [⟨(some 115), none, .mv (.t 0)⟩,
  ⟨(some 116), none, .nc (.t 115)⟩,
  ⟨(some 117), none, .fa (.t 116) 11⟩,
  ⟨(some 118), none, .ld (.t 117) 1 false⟩,
  ⟨(some 119), none, .ca 108 [(.t 118)]⟩])
 (.sq (.rg [⟨(some 120), none, .mv (.t 0)⟩,
  ⟨(some 121), none, .nc (.t 120)⟩,
  ⟨(some 122), none, .fa (.t 121) 11⟩,
  ⟨(some 123), none, .ld (.t 122) 1 false⟩,
  ⟨(some 124), none, .nc (.t 123)⟩,
  ⟨(some 125), none, .fa (.t 124) 5⟩,
  ⟨(some 126), none, .ld (.t 125) 1 false⟩])
 (.cd (.t 126)
 (.rg [⟨(some 127), none, .mv (.t 0)⟩,
  ⟨(some 128), none, .ca 109 [(.t 127)]⟩])
 .sk)))
 (.sq (.rg [⟨(some 130), none, .ib .eql (.t 48) (.c (.int .i64 3))⟩,
  ⟨(some 129), none, .mv (.t 130)⟩])
 (.cd (.t 129)
 (.sq (.rd [⟨0, 0, [3], ⟨(some 131), none, .mv (.t 3)⟩⟩,
  ⟨1, 1, [131], ⟨(some 132), none, .nc (.t 131)⟩⟩,
  ⟨2, 3, [132], ⟨(some 133), none, .fa (.t 132) 6⟩⟩,
  ⟨3, 7, [133], ⟨(some 134), none, .ld (.t 133) 1 false⟩⟩,
  ⟨4, 0, [3], ⟨(some 135), none, .mv (.t 3)⟩⟩,
  ⟨5, 16, [135], ⟨(some 136), none, .nc (.t 135)⟩⟩,
  ⟨6, 48, [136], ⟨(some 137), none, .fa (.t 136) 0⟩⟩,
  ⟨7, 112, [137], ⟨(some 138), none, .ld (.t 137) 6 true⟩⟩,
  ⟨8, 0, [0], ⟨(some 139), none, .mv (.t 0)⟩⟩,
  ⟨9, 256, [139], ⟨(some 140), none, .nc (.t 139)⟩⟩,
  ⟨10, 768, [140], ⟨(some 141), none, .fa (.t 140) 8⟩⟩,
  ⟨11, 1792, [141], ⟨(some 142), none, .ld (.t 141) 1 false⟩⟩,
  ⟨12, 0, [0], ⟨(some 143), none, .mv (.t 0)⟩⟩,
  ⟨13, 4096, [143], ⟨(some 144), none, .nc (.t 143)⟩⟩,
  ⟨14, 12288, [144], ⟨(some 145), none, .fa (.t 144) 9⟩⟩,
  ⟨15, 28672, [145], ⟨(some 146), none, .ld (.t 145) 1 false⟩⟩,
  ⟨16, 65520, [138, 142, 146], ⟨(some 147), none, .ca 111 [(.t 138), (.t 142), (.t 146)]⟩⟩,
  ⟨17, 131071, [134, 147], ⟨(some 148), none, .ca 110 [(.t 134), (.t 147), (.c (.int .u64 0))]⟩⟩])
 (.sq (.rg [⟨(some 149), none, .mv (.t 0)⟩,
  ⟨(some 150), none, .nc (.t 149)⟩,
  ⟨(some 151), none, .fa (.t 150) 9⟩,
  ⟨(some 152), none, .ld (.t 151) 1 false⟩,
  ⟨(some 153), none, .ib .add (.t 152) (.c (.int .i64 1))⟩,
  ⟨(some 154), none, .nc (.t 149)⟩,
  ⟨(some 155), none, .fa (.t 154) 9⟩,
  ⟨none, none, .st (.t 155) (.t 153) 1⟩])
 (.sq (.rd [⟨0, 0, [0], ⟨(some 156), none, .mv (.t 0)⟩⟩,
  ⟨1, 1, [156], ⟨(some 157), none, .nc (.t 156)⟩⟩,
  ⟨2, 3, [157], ⟨(some 158), none, .fa (.t 157) 9⟩⟩,
  ⟨3, 7, [158], ⟨(some 159), none, .ld (.t 158) 1 false⟩⟩,
  ⟨4, 0, [3], ⟨(some 160), none, .mv (.t 3)⟩⟩,
  ⟨5, 16, [160], ⟨(some 161), none, .nc (.t 160)⟩⟩,
  ⟨6, 48, [161], ⟨(some 162), none, .fa (.t 161) 0⟩⟩,
  ⟨7, 112, [162], ⟨(some 163), none, .fa (.t 162) 2⟩⟩,
  ⟨8, 240, [163], ⟨(some 164), none, .ld (.t 163) 1 false⟩⟩,
  ⟨9, 511, [159, 164], ⟨(some 165), none, .ib .eql (.t 159) (.t 164)⟩⟩])
 (.cd (.t 165)
 (.rg [⟨(some 166), none, .mv (.t 0)⟩,
  ⟨(some 167), none, .nc (.t 166)⟩,
  ⟨(some 168), none, .fa (.t 167) 4⟩,
  ⟨none, none, .st (.t 168) (.c (.int .i64 4)) 1⟩])
 .sk))))
 (.sq (.rg [⟨(some 170), none, .ib .eql (.t 48) (.c (.int .i64 4))⟩,
  ⟨(some 169), none, .mv (.t 170)⟩])
 (.cd (.t 169)
 (.sq (.rd [⟨0, 0, [3], ⟨(some 171), none, .mv (.t 3)⟩⟩,
  ⟨1, 1, [171], ⟨(some 172), none, .nc (.t 171)⟩⟩,
  ⟨2, 3, [172], ⟨(some 173), none, .fa (.t 172) 6⟩⟩,
  ⟨3, 7, [173], ⟨(some 174), none, .ld (.t 173) 1 false⟩⟩,
  ⟨4, 0, [3], ⟨(some 175), none, .mv (.t 3)⟩⟩,
  ⟨5, 16, [175], ⟨(some 176), none, .nc (.t 175)⟩⟩,
  ⟨6, 48, [176], ⟨(some 177), none, .fa (.t 176) 0⟩⟩,
  ⟨7, 112, [177], ⟨(some 178), none, .ld (.t 177) 6 true⟩⟩,
  ⟨8, 0, [0], ⟨(some 179), none, .mv (.t 0)⟩⟩,
  ⟨9, 256, [179], ⟨(some 180), none, .nc (.t 179)⟩⟩,
  ⟨10, 768, [180], ⟨(some 181), none, .fa (.t 180) 8⟩⟩,
  ⟨11, 1792, [181], ⟨(some 182), none, .ld (.t 181) 1 false⟩⟩,
  ⟨12, 4080, [178, 182], ⟨(some 183), none, .ca 112 [(.t 178), (.t 182)]⟩⟩,
  ⟨13, 0, [5], ⟨(some 184), none, .ld (.t 5) 4 true⟩⟩,
  ⟨14, 16368, [184], ⟨(some 185), none, .ca 103 [(.t 184)]⟩⟩,
  ⟨15, 32752, [185], ⟨(some 186), none, .ib .add (.t 185) (.c (.int .i64 1))⟩⟩,
  ⟨16, 65520, [186], ⟨(some 187), none, .cv .u64 (.t 186)⟩⟩,
  ⟨17, 131071, [174, 183, 187], ⟨(some 188), none, .ca 110 [(.t 174), (.t 183), (.t 187)]⟩⟩])
 (.rg [⟨(some 189), none, .mv (.t 0)⟩,
  ⟨(some 190), none, .nc (.t 189)⟩,
  ⟨(some 191), none, .fa (.t 190) 4⟩,
  ⟨none, none, .st (.t 191) (.c (.int .i64 5)) 1⟩]))
 (.sq (.rg [⟨(some 193), none, .ib .eql (.t 48) (.c (.int .i64 5))⟩,
  ⟨(some 192), none, .mv (.t 193)⟩])
 (.cd (.t 192)
 (.sq (.rg [⟨(some 194), none, .ld (.t 5) 4 true⟩,
  ⟨(some 9), none, .al 162 [(.int .i64 0), (.int .i64 0), (.int .i64 0), (.int .i64 0)]⟩,
  ⟨none, none, .st (.t 9) (.t 194) 4⟩])
 (.sq (.rd [⟨0, 0, [0], ⟨(some 195), none, .mv (.t 0)⟩⟩,
  ⟨1, 1, [195], ⟨(some 196), none, .nc (.t 195)⟩⟩,
  ⟨2, 3, [196], ⟨(some 197), none, .fa (.t 196) 8⟩⟩,
  ⟨3, 7, [197], ⟨(some 198), none, .ld (.t 197) 1 false⟩⟩,
  ⟨4, 15, [198], ⟨(some 199), none, .ib .add (.t 198) (.c (.int .i64 2))⟩⟩,
  ⟨5, 0, [3], ⟨(some 200), none, .mv (.t 3)⟩⟩,
  ⟨6, 32, [200], ⟨(some 201), none, .nc (.t 200)⟩⟩,
  ⟨7, 96, [201], ⟨(some 202), none, .fa (.t 201) 0⟩⟩,
  ⟨8, 224, [202], ⟨(some 203), none, .fa (.t 202) 2⟩⟩,
  ⟨9, 480, [203], ⟨(some 204), none, .ld (.t 203) 1 false⟩⟩,
  ⟨10, 0, [0], ⟨(some 205), none, .mv (.t 0)⟩⟩,
  ⟨11, 1024, [205], ⟨(some 206), none, .nc (.t 205)⟩⟩,
  ⟨12, 3072, [206], ⟨(some 207), none, .fa (.t 206) 7⟩⟩,
  ⟨13, 7168, [207], ⟨(some 208), none, .ld (.t 207) 1 false⟩⟩,
  ⟨14, 16352, [204, 208], ⟨(some 209), none, .ca 113 [(.t 204), (.t 208)]⟩⟩,
  ⟨15, 31, [9], ⟨(some 210), none, .fa (.t 9) 1⟩⟩,
  ⟨16, 65535, [210, 199], ⟨none, none, .st (.t 210) (.t 199) 1⟩⟩,
  ⟨17, 131071, [9], ⟨(some 211), none, .fa (.t 9) 3⟩⟩,
  ⟨18, 262143, [211, 209], ⟨none, none, .st (.t 211) (.t 209) 1⟩⟩])
 (.sq (.rg [⟨(some 213), none, .ld (.t 9) 4 true⟩,
  ⟨(some 214), none, .ca 101 [(.t 213)]⟩,
  ⟨(some 212), none, .mv (.t 214)⟩,
  ⟨(some 215), none, .ex (.t 212) 0⟩,
  ⟨(some 216), none, .ex (.t 212) 1⟩,
  ⟨(some 10), none, .mv (.t 215)⟩,
  ⟨(some 11), none, .mv (.t 216)⟩])
 (.sq (.rg [⟨(some 217), none, .mv (.t 0)⟩,
  ⟨(some 218), none, .nc (.t 217)⟩,
  ⟨(some 219), none, .fa (.t 218) 4⟩,
  ⟨none, none, .st (.t 219) (.c (.int .i64 0)) 1⟩])
 (.sq (.rd [⟨0, 0, [3], ⟨(some 220), none, .mv (.t 3)⟩⟩,
  ⟨1, 1, [220], ⟨(some 221), none, .nc (.t 220)⟩⟩,
  ⟨2, 3, [221], ⟨(some 222), none, .fa (.t 221) 6⟩⟩,
  ⟨3, 7, [222], ⟨(some 223), none, .ld (.t 222) 1 false⟩⟩,
  ⟨4, 0, [4], ⟨(some 224), none, .mv (.t 4)⟩⟩,
  ⟨5, 0, [0], ⟨(some 225), none, .mv (.t 0)⟩⟩,
  ⟨6, 32, [225], ⟨(some 226), none, .nc (.t 225)⟩⟩,
  ⟨7, 96, [226], ⟨(some 227), none, .fa (.t 226) 10⟩⟩,
  ⟨8, 224, [227], ⟨(some 228), none, .ld (.t 227) 1 false⟩⟩,
  ⟨9, 0, [10], ⟨(some 229), none, .mv (.t 10)⟩⟩,
  ⟨10, 1023, [223, 224, 228, 229], ⟨(some 230), none, .ca 102 [(.t 223), (.t 224), (.t 228), (.t 229)]⟩⟩])
 (.cd (.t 230)
 (.sq (.rg [⟨(some 231), none, .mv (.t 0)⟩,
  ⟨(some 232), none, .nc (.t 231)⟩,
  ⟨(some 233), none, .fa (.t 232) 8⟩,
  ⟨(some 234), none, .ld (.t 233) 1 false⟩,
  ⟨(some 12), none, .mv (.t 234)⟩])
 (.sq (.rg [⟨(some 235), none, .mv (.t 0)⟩,
  ⟨(some 236), none, .nc (.t 235)⟩,
  ⟨(some 237), none, .fa (.t 236) 8⟩,
  ⟨none, none, .st (.t 237) (.c (.int .i64 (-1))) 1⟩])
 (.rg [⟨(some 238), none, .mv (.t 0)⟩,
  ⟨(some 239), none, .mv (.t 12)⟩,
  ⟨(some 240), none, .ca 107 [(.t 238), (.t 239), (.c (.int .i64 0))]⟩])))
 .sk))))))
 (.sq (.rg [⟨(some 49), none, .mv (.t 0)⟩,
  ⟨(some 50), none, .nc (.t 49)⟩,
  ⟨(some 51), none, .fa (.t 50) 12⟩,
  ⟨(some 52), none, .ld (.t 51) 1 false⟩,
  ⟨(some 53), none, .ca 114 [(.t 52)]⟩])
 (.rg [⟨(some 54), none, .mv (.t 0)⟩,
  ⟨(some 55), none, .mv (.t 0)⟩,
  ⟨(some 56), none, .nc (.t 55)⟩,
  ⟨(some 57), none, .fa (.t 56) 12⟩,
  ⟨(some 58), none, .ld (.t 57) 1 false⟩,
  ⟨(some 59), none, .nc (.t 58)⟩,
  ⟨(some 60), none, .fa (.t 59) 2⟩,
  ⟨(some 61), none, .ld (.t 60) 1 false⟩,
  ⟨(some 62), none, .nc (.t 54)⟩,
  ⟨(some 63), none, .fa (.t 62) 20⟩,
  ⟨none, none, .st (.t 63) (.t 61) 1⟩]))))))))))))))))
 (.sq (.rg [⟨(some 2), none, .mv (.c (.bool true))⟩])
 .rt))))))))⟩
theorem k38 : cF Tryz.prog Tryz.f38 = some c38 := by kernel_rfl
def c41 : Fu := ⟨7, [.t 2],
 (.sq (.rg [⟨(some 2), none, .mv (.c (.int .i64 0))⟩])
 (.sq (.rg [⟨(some 3), none, .mv (.t 0)⟩,
  ⟨(some 4), none, .nc (.t 3)⟩,
  ⟨(some 5), none, .fa (.t 4) 13⟩,
  ⟨(some 6), none, .ld (.t 5) 1 false⟩,
  ⟨(some 2), none, .mv (.t 6)⟩])
 .rt))⟩
theorem k41 : cF Tryz.prog Tryz.f41 = some c41 := by kernel_rfl
def c43 : Fu := ⟨7, [.t 2],
 (.sq (.rg [⟨(some 2), none, .mv (.c (.int .i64 0))⟩])
 (.sq (.rg [⟨(some 3), none, .mv (.t 0)⟩,
  ⟨(some 4), none, .nc (.t 3)⟩,
  ⟨(some 5), none, .fa (.t 4) 14⟩,
  ⟨(some 6), none, .ld (.t 5) 1 false⟩,
  ⟨(some 2), none, .mv (.t 6)⟩])
 .rt))⟩
theorem k43 : cF Tryz.prog Tryz.f43 = some c43 := by kernel_rfl
def c44 : Fu := ⟨8, [.t 2],
 (.sq (.rg [⟨(some 2), none, .mv (.c (.slice none 0 0))⟩])
 (.sq (.rg [⟨(some 3), none, .mv (.t 0)⟩,
  ⟨(some 4), none, .nc (.t 3)⟩,
  ⟨(some 5), none, .fa (.t 4) 8⟩,
  ⟨(some 6), none, .ld (.t 5) 1 false⟩,
  ⟨(some 7), none, .ca 118 [(.t 6)]⟩,
  ⟨(some 2), none, .mv (.t 7)⟩])
 .rt))⟩
theorem k44 : cF Tryz.prog Tryz.f44 = some c44 := by kernel_rfl
def c45 : Fu := ⟨60, [.t 0],
 (.sq (.rg [⟨(some 0), none, .mv (.c (.bool false))⟩])
 (.sq (.rg [⟨(some 7), none, .bd [(.int .i64 0), (.int .i64 0), (.int .i64 0), (.int .i64 0), (.int .i64 0), (.int .i64 0)] [(0, 1, (.c (.int .i64 1))), (1, 1, (.c (.int .i64 1))), (2, 1, (.c (.int .i64 8))), (3, 1, (.c (.int .i64 1))), (5, 1, (.c (.int .i64 1)))]⟩,
  ⟨(some 8), none, .ca 46 [(.t 7)]⟩,
  ⟨(some 1), none, .mv (.t 8)⟩])
 (.sq (.sq (.rg [⟨(some 9), none, .mv (.t 1)⟩,
  ⟨(some 10), none, .en 0 false (.t 9) (.c (.pointer none))⟩])
 (.cd (.t 10)
 (.sq (.rg [⟨(some 0), none, .mv (.c (.bool false))⟩])
 .rt)
 .sk))
 (.sq (.rg [⟨(some 12), none, .mv (.t 1)⟩,
  ⟨(some 13), none, .ca 54 [(.t 12), (.c (.int .i64 0)), (.c (.int .i64 0)), (.c (.int .i64 1))]⟩,
  ⟨(some 11), none, .mv (.t 13)⟩,
  ⟨(some 14), none, .ex (.t 11) 0⟩,
  ⟨(some 15), none, .ex (.t 11) 1⟩,
  ⟨(some 16), none, .ex (.t 11) 2⟩,
  ⟨(some 2), none, .mv (.t 14)⟩,
  ⟨(some 3), none, .mv (.t 15)⟩,
  ⟨(some 4), none, .mv (.t 16)⟩])
 (.sq (.sq (.rg [⟨(some 17), none, .mv (.t 4)⟩,
  ⟨(some 18), none, .nt (.t 17)⟩])
 (.cd (.t 18)
 (.sq (.rg [⟨(some 0), none, .mv (.c (.bool false))⟩])
 .rt)
 .sk))
 (.sq (.rg [⟨(some 20), none, .mv (.t 1)⟩,
  ⟨(some 21), none, .mv (.t 2)⟩,
  ⟨(some 22), none, .mv (.t 3)⟩,
  ⟨(some 23), none, .ca 49 [(.t 20), (.c (.int .i64 0)), (.t 21), (.t 22)]⟩,
  ⟨(some 19), none, .mv (.t 23)⟩,
  ⟨(some 24), none, .ex (.t 19) 0⟩,
  ⟨(some 25), none, .ex (.t 19) 1⟩,
  ⟨(some 5), none, .mv (.t 24)⟩,
  ⟨(some 6), none, .mv (.t 25)⟩])
 (.sq (.rg [⟨(some 26), none, .mv (.t 5)⟩,
  ⟨(some 27), none, .en 0 true (.t 26) (.c (.pointer none))⟩,
  ⟨(some 28), none, .mv (.t 27)⟩,
  ⟨(some 29), (some (28, true)), .mv (.t 6)⟩,
  ⟨(some 30), (some (28, true)), .ib .eql (.t 29) (.c (.int .i64 5))⟩,
  ⟨(some 31), none, .pk (.t 28) (.t 30) (.c (.bool false))⟩,
  ⟨(some 32), none, .mv (.t 31)⟩,
  ⟨(some 33), (some (32, true)), .mv (.t 5)⟩,
  ⟨(some 34), (some (32, true)), .ca 56 [(.t 33)]⟩,
  ⟨(some 35), none, .pk (.t 32) (.t 34) (.c (.bool false))⟩,
  ⟨(some 36), none, .mv (.t 35)⟩,
  ⟨(some 37), (some (36, true)), .mv (.t 5)⟩,
  ⟨(some 38), (some (36, true)), .ca 50 [(.t 37)]⟩,
  ⟨(some 39), (some (36, true)), .ib .eql (.t 38) (.c (.int .i64 0))⟩,
  ⟨(some 40), none, .pk (.t 36) (.t 39) (.c (.bool false))⟩,
  ⟨(some 41), none, .mv (.t 40)⟩,
  ⟨(some 42), (some (41, true)), .mv (.t 5)⟩,
  ⟨(some 43), (some (41, true)), .ca 51 [(.t 42)]⟩,
  ⟨(some 44), (some (41, true)), .ib .eql (.t 43) (.c (.int .i64 2))⟩,
  ⟨(some 45), none, .pk (.t 41) (.t 44) (.c (.bool false))⟩,
  ⟨(some 46), none, .mv (.t 45)⟩,
  ⟨(some 47), (some (46, true)), .mv (.t 5)⟩,
  ⟨(some 48), (some (46, true)), .ca 52 [(.t 47)]⟩,
  ⟨(some 49), (some (46, true)), .ib .eql (.t 48) (.c (.int .i64 5))⟩,
  ⟨(some 50), none, .pk (.t 46) (.t 49) (.c (.bool false))⟩,
  ⟨(some 51), none, .mv (.t 50)⟩,
  ⟨(some 52), (some (51, true)), .mv (.t 1)⟩,
  ⟨(some 53), (some (51, true)), .nc (.t 52)⟩,
  ⟨(some 54), (some (51, true)), .fa (.t 53) 7⟩,
  ⟨(some 55), (some (51, true)), .ld (.t 54) 1 false⟩,
  ⟨(some 56), (some (51, true)), .ca 53 [(.t 55)]⟩,
  ⟨(some 57), (some (51, true)), .len (.t 56)⟩,
  ⟨(some 58), (some (51, true)), .ib .eql (.t 57) (.c (.int .i64 1))⟩,
  ⟨(some 59), none, .pk (.t 51) (.t 58) (.c (.bool false))⟩,
  ⟨(some 0), none, .mv (.t 59)⟩])
 .rt)))))))⟩
theorem k45 : cF Tryz.prog Tryz.f45 = some c45 := by kernel_rfl
def c46 : Fu := ⟨144, [.t 2],
 (.sq (.rg [⟨(some 1), none, .bx 24 (.t 0)⟩,
  ⟨(some 2), none, .mv (.c (.pointer none))⟩])
 (.sq (.rg [⟨(some 18), none, .ld (.t 1) 6 true⟩,
  ⟨(some 19), none, .ca 17 [(.t 18)]⟩,
  ⟨(some 20), none, .ca 15 [(.t 19)]⟩,
  ⟨(some 17), none, .mv (.t 20)⟩,
  ⟨(some 21), none, .ex (.t 17) 0⟩,
  ⟨(some 22), none, .ex (.t 17) 1⟩,
  ⟨(some 3), none, .mv (.t 21)⟩,
  ⟨(some 4), none, .mv (.t 22)⟩])
 (.sq (.sq (.rg [⟨(some 23), none, .mv (.t 3)⟩,
  ⟨(some 24), none, .en 0 false (.t 23) (.c (.pointer none))⟩,
  ⟨(some 25), none, .mv (.t 24)⟩,
  ⟨(some 26), (some (25, false)), .mv (.t 4)⟩,
  ⟨(some 27), (some (25, false)), .ib .neq (.t 26) (.c (.int .i64 0))⟩,
  ⟨(some 28), none, .pk (.t 25) (.c (.bool true)) (.t 27)⟩])
 (.cd (.t 28)
 (.sq (.rg [⟨(some 2), none, .mv (.c (.pointer none))⟩])
 .rt)
 .sk))
 (.sq (.rg [⟨(some 30), none, .mv (.t 3)⟩,
  ⟨(some 31), none, .ld (.t 1) 6 true⟩,
  ⟨(some 32), none, .ca 69 [(.t 30), (.t 31)]⟩,
  ⟨(some 29), none, .mv (.t 32)⟩,
  ⟨(some 33), none, .ex (.t 29) 0⟩,
  ⟨(some 34), none, .ex (.t 29) 1⟩,
  ⟨(some 5), none, .mv (.t 33)⟩,
  ⟨(some 6), none, .mv (.t 34)⟩])
 (.sq (.rg [⟨(some 36), none, .mv (.t 3)⟩,
  ⟨(some 37), none, .ld (.t 1) 6 true⟩,
  ⟨(some 38), none, .ca 70 [(.t 36), (.t 37)]⟩,
  ⟨(some 35), none, .mv (.t 38)⟩,
  ⟨(some 39), none, .ex (.t 35) 0⟩,
  ⟨(some 40), none, .ex (.t 35) 1⟩,
  ⟨(some 7), none, .mv (.t 39)⟩,
  ⟨(some 8), none, .mv (.t 40)⟩])
 (.sq (.rg [⟨(some 42), none, .mv (.t 3)⟩,
  ⟨(some 43), none, .ld (.t 1) 6 true⟩,
  ⟨(some 44), none, .ca 18 [(.t 42), (.t 43)]⟩,
  ⟨(some 41), none, .mv (.t 44)⟩,
  ⟨(some 45), none, .ex (.t 41) 0⟩,
  ⟨(some 46), none, .ex (.t 41) 1⟩,
  ⟨(some 9), none, .mv (.t 45)⟩,
  ⟨(some 10), none, .mv (.t 46)⟩])
 (.sq (.rg [⟨(some 48), none, .mv (.t 3)⟩,
  ⟨(some 49), none, .ld (.t 1) 6 true⟩,
  ⟨(some 50), none, .ca 47 [(.t 48), (.t 49)]⟩,
  ⟨(some 47), none, .mv (.t 50)⟩,
  ⟨(some 51), none, .ex (.t 47) 0⟩,
  ⟨(some 52), none, .ex (.t 47) 1⟩,
  ⟨(some 11), none, .mv (.t 51)⟩,
  ⟨(some 12), none, .mv (.t 52)⟩])
 (.sq (.sq (.rg [⟨(some 53), none, .mv (.t 5)⟩,
  ⟨(some 54), none, .en 0 false (.t 53) (.c (.pointer none))⟩,
  ⟨(some 55), none, .mv (.t 54)⟩,
  ⟨(some 56), (some (55, false)), .mv (.t 6)⟩,
  ⟨(some 57), (some (55, false)), .ib .neq (.t 56) (.c (.int .i64 0))⟩,
  ⟨(some 58), none, .pk (.t 55) (.c (.bool true)) (.t 57)⟩,
  ⟨(some 59), none, .mv (.t 58)⟩,
  ⟨(some 60), (some (59, false)), .mv (.t 7)⟩,
  ⟨(some 61), (some (59, false)), .en 0 false (.t 60) (.c (.pointer none))⟩,
  ⟨(some 62), none, .pk (.t 59) (.c (.bool true)) (.t 61)⟩,
  ⟨(some 63), none, .mv (.t 62)⟩,
  ⟨(some 64), (some (63, false)), .mv (.t 8)⟩,
  ⟨(some 65), (some (63, false)), .ib .neq (.t 64) (.c (.int .i64 0))⟩,
  ⟨(some 66), none, .pk (.t 63) (.c (.bool true)) (.t 65)⟩,
  ⟨(some 67), none, .mv (.t 66)⟩,
  ⟨(some 68), (some (67, false)), .mv (.t 9)⟩,
  ⟨(some 69), (some (67, false)), .en 0 false (.t 68) (.c (.pointer none))⟩,
  ⟨(some 70), none, .pk (.t 67) (.c (.bool true)) (.t 69)⟩,
  ⟨(some 71), none, .mv (.t 70)⟩,
  ⟨(some 72), (some (71, false)), .mv (.t 10)⟩,
  ⟨(some 73), (some (71, false)), .ib .neq (.t 72) (.c (.int .i64 0))⟩,
  ⟨(some 74), none, .pk (.t 71) (.c (.bool true)) (.t 73)⟩,
  ⟨(some 75), none, .mv (.t 74)⟩,
  ⟨(some 76), (some (75, false)), .mv (.t 11)⟩,
  ⟨(some 77), (some (75, false)), .en 0 false (.t 76) (.c (.pointer none))⟩,
  ⟨(some 78), none, .pk (.t 75) (.c (.bool true)) (.t 77)⟩,
  ⟨(some 79), none, .mv (.t 78)⟩,
  ⟨(some 80), (some (79, false)), .mv (.t 12)⟩,
  ⟨(some 81), (some (79, false)), .ib .neq (.t 80) (.c (.int .i64 0))⟩,
  ⟨(some 82), none, .pk (.t 79) (.c (.bool true)) (.t 81)⟩,
  ⟨(some 83), none, .mv (.t 82)⟩,
  ⟨(some 84), (some (83, false)), .mv (.t 5)⟩,
  ⟨(some 85), (some (83, false)), .ca 71 [(.t 84)]⟩,
  ⟨(some 86), (some (83, false)), .en 0 false (.t 85) (.c (.pointer none))⟩,
  ⟨(some 87), none, .pk (.t 83) (.c (.bool true)) (.t 86)⟩])
 (.cd (.t 87)
 (.sq (.rg [⟨(some 2), none, .mv (.c (.pointer none))⟩])
 .rt)
 .sk))
 (.sq (.rg [⟨(some 88), none, .mv (.t 5)⟩,
  ⟨(some 89), none, .ca 72 [(.t 88)]⟩])
 (.sq (.rg [⟨(some 90), none, .mv (.t 7)⟩,
  ⟨(some 91), none, .ca 73 [(.t 90)]⟩])
 (.sq (.rd [⟨0, 0, [1], ⟨(some 92), none, .ld (.t 1) 6 true⟩⟩,
  ⟨1, 0, [3], ⟨(some 93), none, .mv (.t 3)⟩⟩,
  ⟨2, 0, [7], ⟨(some 94), none, .mv (.t 7)⟩⟩,
  ⟨3, 0, [9], ⟨(some 95), none, .mv (.t 9)⟩⟩,
  ⟨4, 0, [11], ⟨(some 96), none, .mv (.t 11)⟩⟩,
  ⟨5, 0, [5], ⟨(some 97), none, .mv (.t 5)⟩⟩,
  ⟨6, 32, [97], ⟨(some 98), none, .ca 71 [(.t 97)]⟩⟩,
  ⟨7, 0, [1], ⟨(some 99), none, .ld (.t 1) 6 true⟩⟩,
  ⟨8, 224, [99], ⟨(some 100), none, .ca 74 [(.t 99)]⟩⟩,
  ⟨9, 511, [92, 93, 94, 95, 96, 98, 100], ⟨(some 101), none, .bd [(.int .i64 0), (.int .i64 0), (.int .i64 0), (.int .i64 0), (.int .i64 0), (.int .i64 0), (.pointer none), (.pointer none), (.pointer none), (.pointer none), (.pointer none), (.slice none 0 0), (.pointer none), (.slice none 0 0)] [(0, 6, (.t 92)), (6, 1, (.t 93)), (7, 1, (.t 94)), (8, 1, (.t 95)), (9, 1, (.t 96)), (10, 1, (.t 98)), (12, 1, (.t 100))]⟩⟩,
  ⟨10, 1023, [101], ⟨(some 102), none, .bx 97 (.t 101)⟩⟩,
  ⟨11, 2047, [102], ⟨(some 13), none, .mv (.t 102)⟩⟩])
 (.sq (.sq (.rg [⟨(some 14), none, .mv (.c (.int .i64 0))⟩])
 (.bl 0
 (.lp
 (.sq (.sq (.rg [⟨(some 103), none, .mv (.t 14)⟩,
  ⟨(some 104), none, .ib .lss (.t 103) (.c (.int .i64 3))⟩])
 (.cd (.t 104)
 .sk
 (.ex 0)))
 (.sq (.bl 1
 (.sq (.rg [⟨(some 108), none, .mv (.t 3)⟩,
  ⟨(some 109), none, .ld (.t 1) 6 true⟩,
  ⟨(some 110), none, .ca 75 [(.t 108), (.t 109)]⟩,
  ⟨(some 107), none, .mv (.t 110)⟩,
  ⟨(some 111), none, .ex (.t 107) 0⟩,
  ⟨(some 112), none, .ex (.t 107) 1⟩,
  ⟨(some 15), none, .mv (.t 111)⟩,
  ⟨(some 16), none, .mv (.t 112)⟩])
 (.sq (.sq (.rg [⟨(some 113), none, .mv (.t 15)⟩,
  ⟨(some 114), none, .en 0 false (.t 113) (.c (.pointer none))⟩,
  ⟨(some 115), none, .mv (.t 114)⟩,
  ⟨(some 116), (some (115, false)), .mv (.t 16)⟩,
  ⟨(some 117), (some (115, false)), .ib .neq (.t 116) (.c (.int .i64 0))⟩,
  ⟨(some 118), none, .pk (.t 115) (.c (.bool true)) (.t 117)⟩])
 (.cd (.t 118)
 (.sq (.rg [⟨(some 2), none, .mv (.c (.pointer none))⟩])
 .rt)
 .sk))
 (.sq (.rg [⟨(some 119), none, .mv (.t 13)⟩,
  ⟨(some 120), none, .mv (.t 13)⟩,
  ⟨(some 121), none, .nc (.t 120)⟩,
  ⟨(some 122), none, .fa (.t 121) 11⟩,
  ⟨(some 123), none, .ld (.t 122) 1 false⟩,
  ⟨(some 124), none, .mv (.t 15)⟩,
  ⟨(some 125), none, .bs 47 1 [(.pointer none)] [(0, 1, (.t 124))]⟩,
  ⟨(some 126), none, .ap 41 47 1 8 [(.pointer none)] (.t 123) (.t 125)⟩,
  ⟨(some 127), none, .nc (.t 119)⟩,
  ⟨(some 128), none, .fa (.t 127) 11⟩,
  ⟨none, none, .st (.t 128) (.t 126) 1⟩])
 (.rd [⟨0, 0, [13], ⟨(some 129), none, .mv (.t 13)⟩⟩,
  ⟨1, 0, [13], ⟨(some 130), none, .mv (.t 13)⟩⟩,
  ⟨2, 2, [130], ⟨(some 131), none, .nc (.t 130)⟩⟩,
  ⟨3, 6, [131], ⟨(some 132), none, .fa (.t 131) 13⟩⟩,
  ⟨4, 14, [132], ⟨(some 133), none, .ld (.t 132) 1 false⟩⟩,
  ⟨5, 0, [13], ⟨(some 134), none, .mv (.t 13)⟩⟩,
  ⟨6, 32, [134], ⟨(some 135), none, .nc (.t 134)⟩⟩,
  ⟨7, 96, [135], ⟨(some 136), none, .fa (.t 135) 12⟩⟩,
  ⟨8, 224, [136], ⟨(some 137), none, .ld (.t 136) 1 false⟩⟩,
  ⟨9, 480, [137], ⟨(some 138), none, .ca 76 [(.t 137)]⟩⟩,
  ⟨10, 992, [138], ⟨(some 139), none, .bs 81 1 [(.pointer none)] [(0, 1, (.t 138))]⟩⟩,
  ⟨11, 2046, [133, 139], ⟨(some 140), none, .ap 43 81 1 8 [(.pointer none)] (.t 133) (.t 139)⟩⟩,
  ⟨12, 4095, [129], ⟨(some 141), none, .nc (.t 129)⟩⟩,
  ⟨13, 8191, [141], ⟨(some 142), none, .fa (.t 141) 13⟩⟩,
  ⟨14, 16383, [142, 140], ⟨none, none, .st (.t 142) (.t 140) 1⟩⟩])))))
 (.rg [⟨(some 105), none, .mv (.t 14)⟩,
  ⟨(some 106), none, .ib .add (.t 105) (.c (.int .i64 1))⟩,
  ⟨(some 14), none, .mv (.t 106)⟩]))))))
 (.sq (.rg [⟨(some 143), none, .mv (.t 13)⟩,
  ⟨(some 2), none, .mv (.t 143)⟩])
 .rt)))))))))))))⟩
theorem k46 : cF Tryz.prog Tryz.f46 = some c46 := by kernel_rfl
def c47 : Fu := ⟨32, [.t 4, .t 5],
 (.sq (.rg [⟨(some 3), none, .bx 24 (.t 1)⟩,
  ⟨(some 4), none, .mv (.c (.pointer none))⟩,
  ⟨(some 5), none, .mv (.c (.int .i64 0))⟩])
 (.sq (.rg [⟨(some 10), none, .mv (.t 0)⟩,
  ⟨(some 11), none, .ld (.t 3) 6 true⟩,
  ⟨(some 12), none, .ca 70 [(.t 10), (.t 11)]⟩,
  ⟨(some 9), none, .mv (.t 12)⟩,
  ⟨(some 13), none, .ex (.t 9) 0⟩,
  ⟨(some 14), none, .ex (.t 9) 1⟩,
  ⟨(some 6), none, .mv (.t 13)⟩,
  ⟨(some 7), none, .mv (.t 14)⟩])
 (.sq (.sq (.rg [⟨(some 15), none, .mv (.t 7)⟩,
  ⟨(some 16), none, .ib .neq (.t 15) (.c (.int .i64 0))⟩])
 (.cd (.t 16)
 (.sq (.rg [⟨(some 17), none, .mv (.t 7)⟩,
  ⟨(some 4), none, .mv (.c (.pointer none))⟩,
  ⟨(some 5), none, .mv (.t 17)⟩])
 .rt)
 .sk))
 (.sq (.rg [⟨(some 19), none, .mv (.t 0)⟩,
  ⟨(some 20), none, .ld (.t 3) 6 true⟩,
  ⟨(some 21), none, .ca 69 [(.t 19), (.t 20)]⟩,
  ⟨(some 18), none, .mv (.t 21)⟩,
  ⟨(some 22), none, .ex (.t 18) 0⟩,
  ⟨(some 23), none, .ex (.t 18) 1⟩,
  ⟨(some 8), none, .mv (.t 22)⟩,
  ⟨(some 7), none, .mv (.t 23)⟩])
 (.sq (.sq (.rg [⟨(some 24), none, .mv (.t 7)⟩,
  ⟨(some 25), none, .ib .neq (.t 24) (.c (.int .i64 0))⟩])
 (.cd (.t 25)
 (.sq (.rg [⟨(some 26), none, .mv (.t 7)⟩,
  ⟨(some 4), none, .mv (.c (.pointer none))⟩,
  ⟨(some 5), none, .mv (.t 26)⟩])
 .rt)
 .sk))
 (.sq (.rg [⟨(some 27), none, .mv (.t 0)⟩,
  ⟨(some 28), none, .mv (.t 6)⟩,
  ⟨(some 29), none, .mv (.t 8)⟩,
  ⟨(some 30), none, .bd [(.pointer none), (.pointer none), (.pointer none)] [(0, 1, (.t 27)), (1, 1, (.t 28)), (2, 1, (.t 29))]⟩,
  ⟨(some 31), none, .bx 197 (.t 30)⟩,
  ⟨(some 4), none, .mv (.t 31)⟩,
  ⟨(some 5), none, .mv (.c (.int .i64 0))⟩])
 .rt))))))⟩
theorem k47 : cF Tryz.prog Tryz.f47 = some c47 := by kernel_rfl
def c48 : Fu := ⟨43, [.t 8, .t 9],
 (.sq (.rg [⟨(some 8), none, .mv (.c (.pointer none))⟩,
  ⟨(some 9), none, .mv (.c (.int .i64 0))⟩])
 (.sq (.rg [⟨(some 14), none, .mv (.t 0)⟩,
  ⟨(some 15), none, .nc (.t 14)⟩,
  ⟨(some 16), none, .fa (.t 15) 1⟩,
  ⟨(some 17), none, .ld (.t 16) 1 false⟩,
  ⟨(some 18), none, .mv (.t 2)⟩,
  ⟨(some 19), none, .mv (.t 3)⟩,
  ⟨(some 20), none, .ca 35 [(.t 17), (.t 18), (.t 19)]⟩,
  ⟨(some 13), none, .mv (.t 20)⟩,
  ⟨(some 21), none, .ex (.t 13) 0⟩,
  ⟨(some 22), none, .ex (.t 13) 1⟩,
  ⟨(some 10), none, .mv (.t 21)⟩,
  ⟨(some 11), none, .mv (.t 22)⟩])
 (.sq (.sq (.rg [⟨(some 23), none, .mv (.t 11)⟩,
  ⟨(some 24), none, .ib .neq (.t 23) (.c (.int .i64 0))⟩])
 (.cd (.t 24)
 (.sq (.rg [⟨(some 25), none, .mv (.t 11)⟩,
  ⟨(some 8), none, .mv (.c (.pointer none))⟩,
  ⟨(some 9), none, .mv (.t 25)⟩])
 .rt)
 .sk))
 (.sq (.rg [⟨(some 26), none, .mv (.t 0)⟩,
  ⟨(some 27), none, .mv (.t 1)⟩,
  ⟨(some 28), none, .mv (.t 2)⟩,
  ⟨(some 29), none, .mv (.t 10)⟩,
  ⟨(some 30), none, .bd [.nilFunc, .nilFunc, .nilFunc, .nilFunc, (.int .i64 0), (.pointer none), (.pointer none), (.int .i64 0), (.pointer none), (.pointer none), (.pointer none), (.int .i64 0), (.int .i64 0), (.int .i64 0), (.int .i64 0), (.int .i64 0), (.int .i64 0)] [(5, 1, (.t 26)), (6, 1, (.t 27)), (7, 1, (.t 28)), (8, 1, (.t 29)), (12, 1, (.c (.int .i64 (-1)))), (13, 1, (.c (.int .i64 (-1))))]⟩,
  ⟨(some 31), none, .bx 200 (.t 30)⟩,
  ⟨(some 12), none, .mv (.t 31)⟩])
 (.sq (.rg [⟨(some 32), none, .mv (.t 12)⟩,
  ⟨(some 33), none, .nc (.t 32)⟩,
  ⟨(some 34), none, .fa (.t 33) 0⟩,
  ⟨(some 35), none, .mv (.t 10)⟩,
  ⟨(some 36), none, .mf (.func 32) [(.t 35)] []⟩,
  ⟨(some 37), none, .mv (.t 10)⟩,
  ⟨(some 38), none, .mf (.func 34) [(.t 37)] []⟩,
  ⟨(some 39), none, .mv (.t 12)⟩,
  ⟨(some 40), none, .mf (.func 120) [(.t 39)] []⟩,
  ⟨(some 41), none, .ca 119 [(.t 34), (.t 36), (.t 38), (.t 40)]⟩])
 (.sq (.rg [⟨(some 42), none, .mv (.t 12)⟩,
  ⟨(some 8), none, .mv (.t 42)⟩,
  ⟨(some 9), none, .mv (.c (.int .i64 0))⟩])
 .rt))))))⟩
theorem k48 : cF Tryz.prog Tryz.f48 = some c48 := by kernel_rfl
def c49 : Fu := ⟨49, [.t 8, .t 9],
 (.sq (.rg [⟨(some 8), none, .mv (.c (.pointer none))⟩,
  ⟨(some 9), none, .mv (.c (.int .i64 0))⟩])
 (.sq (.rd [⟨0, 0, [0], ⟨(some 15), none, .mv (.t 0)⟩⟩,
  ⟨1, 1, [15], ⟨(some 16), none, .nc (.t 15)⟩⟩,
  ⟨2, 3, [16], ⟨(some 17), none, .fa (.t 16) 9⟩⟩,
  ⟨3, 7, [17], ⟨(some 18), none, .ld (.t 17) 1 false⟩⟩,
  ⟨4, 0, [0], ⟨(some 19), none, .mv (.t 0)⟩⟩,
  ⟨5, 16, [19], ⟨(some 20), none, .nc (.t 19)⟩⟩,
  ⟨6, 48, [20], ⟨(some 21), none, .fa (.t 20) 11⟩⟩,
  ⟨7, 112, [21], ⟨(some 22), none, .ld (.t 21) 1 false⟩⟩,
  ⟨8, 0, [1], ⟨(some 23), none, .mv (.t 1)⟩⟩,
  ⟨9, 496, [22, 23], ⟨(some 24), none, .ia (.t 22) (.t 23) 1⟩⟩,
  ⟨10, 1008, [24], ⟨(some 25), none, .ld (.t 24) 1 false⟩⟩,
  ⟨11, 0, [2], ⟨(some 26), none, .mv (.t 2)⟩⟩,
  ⟨12, 0, [3], ⟨(some 27), none, .mv (.t 3)⟩⟩,
  ⟨13, 8191, [18, 25, 26, 27], ⟨(some 28), none, .ca 48 [(.t 18), (.t 25), (.t 26), (.t 27)]⟩⟩,
  ⟨14, 16383, [28], ⟨(some 14), none, .mv (.t 28)⟩⟩,
  ⟨15, 32767, [14], ⟨(some 29), none, .ex (.t 14) 0⟩⟩,
  ⟨16, 32767, [14], ⟨(some 30), none, .ex (.t 14) 1⟩⟩,
  ⟨17, 65535, [29], ⟨(some 10), none, .mv (.t 29)⟩⟩,
  ⟨18, 262143, [30], ⟨(some 11), none, .mv (.t 30)⟩⟩])
 (.sq (.sq (.rg [⟨(some 31), none, .mv (.t 10)⟩,
  ⟨(some 32), none, .en 0 false (.t 31) (.c (.pointer none))⟩,
  ⟨(some 33), none, .mv (.t 32)⟩,
  ⟨(some 34), (some (33, false)), .mv (.t 11)⟩,
  ⟨(some 35), (some (33, false)), .ib .neq (.t 34) (.c (.int .i64 0))⟩,
  ⟨(some 36), none, .pk (.t 33) (.c (.bool true)) (.t 35)⟩])
 (.cd (.t 36)
 (.sq (.rg [⟨(some 8), none, .mv (.c (.pointer none))⟩,
  ⟨(some 9), none, .mv (.c (.int .i64 (-1)))⟩])
 .rt)
 .sk))
 (.sq (.rg [⟨(some 12), none, .mv (.c (.int .i64 0))⟩])
 (.sq (.sq (.rg [⟨(some 13), none, .mv (.c (.int .i64 0))⟩])
 (.bl 0
 (.lp
 (.sq (.sq (.rg [⟨(some 37), none, .mv (.t 13)⟩,
  ⟨(some 38), none, .ib .lss (.t 37) (.c (.int .i64 400))⟩,
  ⟨(some 39), none, .mv (.t 38)⟩,
  ⟨(some 40), (some (39, true)), .mv (.t 10)⟩,
  ⟨(some 41), (some (39, true)), .ca 55 [(.t 40)]⟩,
  ⟨(some 42), none, .pk (.t 39) (.t 41) (.c (.bool false))⟩])
 (.cd (.t 42)
 .sk
 (.ex 0)))
 (.sq (.bl 1
 (.rg [⟨(some 45), none, .mv (.t 12)⟩,
  ⟨(some 46), none, .ib .add (.t 45) (.c (.int .i64 1))⟩,
  ⟨(some 12), none, .mv (.t 46)⟩]))
 (.rg [⟨(some 43), none, .mv (.t 13)⟩,
  ⟨(some 44), none, .ib .add (.t 43) (.c (.int .i64 1))⟩,
  ⟨(some 13), none, .mv (.t 44)⟩]))))))
 (.sq (.rg [⟨(some 47), none, .mv (.t 10)⟩,
  ⟨(some 48), none, .mv (.t 12)⟩,
  ⟨(some 8), none, .mv (.t 47)⟩,
  ⟨(some 9), none, .mv (.t 48)⟩])
 .rt))))))⟩
theorem k49 : cF Tryz.prog Tryz.f49 = some c49 := by kernel_rfl
def c50 : Fu := ⟨10, [.t 2],
 (.sq (.rg [⟨(some 2), none, .mv (.c (.int .i64 0))⟩])
 (.sq (.sq (.rg [⟨(some 3), none, .mv (.t 0)⟩,
  ⟨(some 4), none, .ca 56 [(.t 3)]⟩,
  ⟨(some 5), none, .nt (.t 4)⟩])
 (.cd (.t 5)
 (.sq (.rg [⟨(some 2), none, .mv (.c (.int .i64 0))⟩])
 .rt)
 .sk))
 (.sq (.rg [⟨(some 6), none, .mv (.t 0)⟩,
  ⟨(some 7), none, .nc (.t 6)⟩,
  ⟨(some 8), none, .fa (.t 7) 16⟩,
  ⟨(some 9), none, .ld (.t 8) 1 false⟩,
  ⟨(some 2), none, .mv (.t 9)⟩])
 .rt)))⟩
theorem k50 : cF Tryz.prog Tryz.f50 = some c50 := by kernel_rfl
def c51 : Fu := ⟨7, [.t 2],
 (.sq (.rg [⟨(some 2), none, .mv (.c (.int .i64 0))⟩])
 (.sq (.rg [⟨(some 3), none, .mv (.t 0)⟩,
  ⟨(some 4), none, .nc (.t 3)⟩,
  ⟨(some 5), none, .fa (.t 4) 14⟩,
  ⟨(some 6), none, .ld (.t 5) 1 false⟩,
  ⟨(some 2), none, .mv (.t 6)⟩])
 .rt))⟩
theorem k51 : cF Tryz.prog Tryz.f51 = some c51 := by kernel_rfl
def c52 : Fu := ⟨7, [.t 2],
 (.sq (.rg [⟨(some 2), none, .mv (.c (.int .i64 0))⟩])
 (.sq (.rg [⟨(some 3), none, .mv (.t 0)⟩,
  ⟨(some 4), none, .nc (.t 3)⟩,
  ⟨(some 5), none, .fa (.t 4) 15⟩,
  ⟨(some 6), none, .ld (.t 5) 1 false⟩,
  ⟨(some 2), none, .mv (.t 6)⟩])
 .rt))⟩
theorem k52 : cF Tryz.prog Tryz.f52 = some c52 := by kernel_rfl
def c53 : Fu := ⟨8, [.t 2],
 (.sq (.rg [⟨(some 2), none, .mv (.c (.slice none 0 0))⟩])
 (.sq (.rg [⟨(some 3), none, .mv (.t 0)⟩,
  ⟨(some 4), none, .nc (.t 3)⟩,
  ⟨(some 5), none, .fa (.t 4) 7⟩,
  ⟨(some 6), none, .ld (.t 5) 1 false⟩,
  ⟨(some 7), none, .ca 31 [(.t 6)]⟩,
  ⟨(some 2), none, .mv (.t 7)⟩])
 .rt))⟩
theorem k53 : cF Tryz.prog Tryz.f53 = some c53 := by kernel_rfl
def c54 : Fu := ⟨132, [.t 8, .t 9, .t 10],
 (.sq (.rg [⟨(some 8), none, .mv (.c (.int .i64 0))⟩,
  ⟨(some 9), none, .mv (.c (.int .i64 0))⟩,
  ⟨(some 10), none, .mv (.c (.bool false))⟩])
 (.sq (.rd [⟨0, 0, [0], ⟨(some 21), none, .mv (.t 0)⟩⟩,
  ⟨1, 1, [21], ⟨(some 22), none, .nc (.t 21)⟩⟩,
  ⟨2, 3, [22], ⟨(some 23), none, .fa (.t 22) 7⟩⟩,
  ⟨3, 7, [23], ⟨(some 24), none, .ld (.t 23) 1 false⟩⟩,
  ⟨4, 15, [24], ⟨(some 25), none, .ca 84 [(.t 24), (.c (.int .i64 0))]⟩⟩,
  ⟨5, 0, [0], ⟨(some 26), none, .mv (.t 0)⟩⟩,
  ⟨6, 32, [26], ⟨(some 27), none, .nc (.t 26)⟩⟩,
  ⟨7, 96, [27], ⟨(some 28), none, .fa (.t 27) 12⟩⟩,
  ⟨8, 224, [28], ⟨(some 29), none, .ld (.t 28) 1 false⟩⟩,
  ⟨9, 511, [29], ⟨(some 30), none, .ca 85 [(.t 29), (.c (.int .i64 0))]⟩⟩,
  ⟨10, 1023, [25], ⟨(some 11), none, .mv (.t 25)⟩⟩,
  ⟨11, 2047, [30], ⟨(some 12), none, .mv (.t 30)⟩⟩])
 (.sq (.sq (.rg [⟨(some 31), none, .mv (.t 11)⟩,
  ⟨(some 32), none, .en 0 false (.t 31) (.c (.pointer none))⟩])
 (.cd (.t 32)
 (.sq (.rg [⟨(some 8), none, .mv (.c (.int .i64 0))⟩,
  ⟨(some 9), none, .mv (.c (.int .i64 0))⟩,
  ⟨(some 10), none, .mv (.c (.bool false))⟩])
 .rt)
 .sk))
 (.sq (.sq (.rg [⟨(some 13), none, .mv (.c (.int .i64 0))⟩])
 (.bl 0
 (.lp
 (.sq (.sq (.rg [⟨(some 33), none, .mv (.t 13)⟩,
  ⟨(some 34), none, .ib .lss (.t 33) (.c (.int .i64 10))⟩])
 (.cd (.t 34)
 .sk
 (.ex 0)))
 (.sq (.bl 1
 (.sq (.rg [⟨(some 37), none, .mv (.t 11)⟩,
  ⟨(some 38), none, .ca 86 [(.t 37)]⟩])
 (.rg [⟨(some 39), none, .mv (.t 12)⟩,
  ⟨(some 40), none, .ca 87 [(.t 39)]⟩])))
 (.rg [⟨(some 35), none, .mv (.t 13)⟩,
  ⟨(some 36), none, .ib .add (.t 35) (.c (.int .i64 1))⟩,
  ⟨(some 13), none, .mv (.t 36)⟩]))))))
 (.sq (.rg [⟨(some 42), none, .mv (.t 11)⟩,
  ⟨(some 43), none, .ca 88 [(.t 42)]⟩,
  ⟨(some 41), none, .mv (.t 43)⟩,
  ⟨(some 44), none, .ex (.t 41) 0⟩,
  ⟨(some 45), none, .ex (.t 41) 1⟩,
  ⟨(some 14), none, .mv (.t 44)⟩,
  ⟨(some 15), none, .mv (.t 45)⟩])
 (.sq (.sq (.rg [⟨(some 46), none, .mv (.t 11)⟩,
  ⟨(some 47), none, .ca 89 [(.t 46)]⟩,
  ⟨(some 48), none, .nt (.t 47)⟩,
  ⟨(some 49), none, .mv (.t 48)⟩,
  ⟨(some 50), (some (49, false)), .mv (.t 11)⟩,
  ⟨(some 51), (some (49, false)), .ca 90 [(.t 50)]⟩,
  ⟨(some 52), (some (49, false)), .ib .neq (.t 51) (.c (.int .i64 0))⟩,
  ⟨(some 53), none, .pk (.t 49) (.c (.bool true)) (.t 52)⟩,
  ⟨(some 54), none, .mv (.t 53)⟩,
  ⟨(some 55), (some (54, false)), .mv (.t 14)⟩,
  ⟨(some 56), (some (54, false)), .mv (.t 12)⟩,
  ⟨(some 57), (some (54, false)), .nc (.t 56)⟩,
  ⟨(some 58), (some (54, false)), .fa (.t 57) 5⟩,
  ⟨(some 59), (some (54, false)), .ld (.t 58) 1 false⟩,
  ⟨(some 60), (some (54, false)), .ib .neq (.t 55) (.t 59)⟩,
  ⟨(some 61), none, .pk (.t 54) (.c (.bool true)) (.t 60)⟩,
  ⟨(some 62), none, .mv (.t 61)⟩,
  ⟨(some 63), (some (62, false)), .mv (.t 15)⟩,
  ⟨(some 64), (some (62, false)), .mv (.t 12)⟩,
  ⟨(some 65), (some (62, false)), .nc (.t 64)⟩,
  ⟨(some 66), (some (62, false)), .fa (.t 65) 6⟩,
  ⟨(some 67), (some (62, false)), .ld (.t 66) 1 false⟩,
  ⟨(some 68), (some (62, false)), .ib .neq (.t 63) (.t 67)⟩,
  ⟨(some 69), none, .pk (.t 62) (.c (.bool true)) (.t 68)⟩])
 (.cd (.t 69)
 (.sq (.rg [⟨(some 8), none, .mv (.c (.int .i64 0))⟩,
  ⟨(some 9), none, .mv (.c (.int .i64 0))⟩,
  ⟨(some 10), none, .mv (.c (.bool false))⟩])
 .rt)
 .sk))
 (.sq (.sq (.rg [⟨(some 16), none, .mv (.c (.int .i64 0))⟩])
 (.bl 2
 (.lp
 (.sq (.sq (.rg [⟨(some 70), none, .mv (.t 16)⟩,
  ⟨(some 71), none, .mv (.t 2)⟩,
  ⟨(some 72), none, .ib .lss (.t 70) (.t 71)⟩])
 (.cd (.t 72)
 .sk
 (.ex 2)))
 (.sq (.bl 3
 (.sq (.rd [⟨0, 0, [0], ⟨(some 76), none, .mv (.t 0)⟩⟩,
  ⟨1, 1, [76], ⟨(some 77), none, .nc (.t 76)⟩⟩,
  ⟨2, 3, [77], ⟨(some 78), none, .fa (.t 77) 8⟩⟩,
  ⟨3, 7, [78], ⟨(some 79), none, .ld (.t 78) 1 false⟩⟩,
  ⟨4, 0, [0], ⟨(some 80), none, .mv (.t 0)⟩⟩,
  ⟨5, 16, [80], ⟨(some 81), none, .nc (.t 80)⟩⟩,
  ⟨6, 48, [81], ⟨(some 82), none, .fa (.t 81) 11⟩⟩,
  ⟨7, 112, [82], ⟨(some 83), none, .ld (.t 82) 1 false⟩⟩,
  ⟨8, 0, [1], ⟨(some 84), none, .mv (.t 1)⟩⟩,
  ⟨9, 496, [83, 84], ⟨(some 85), none, .ia (.t 83) (.t 84) 1⟩⟩,
  ⟨10, 1008, [85], ⟨(some 86), none, .ld (.t 85) 1 false⟩⟩,
  ⟨11, 0, [14], ⟨(some 87), none, .mv (.t 14)⟩⟩,
  ⟨12, 0, [15], ⟨(some 88), none, .mv (.t 15)⟩⟩,
  ⟨13, 0, [3], ⟨(some 89), none, .mv (.t 3)⟩⟩,
  ⟨14, 16383, [79, 86, 87, 88, 89], ⟨(some 90), none, .ca 19 [(.t 79), (.t 86), (.t 87), (.t 88), (.t 89)]⟩⟩,
  ⟨15, 32767, [90], ⟨(some 75), none, .mv (.t 90)⟩⟩,
  ⟨16, 65535, [75], ⟨(some 91), none, .ex (.t 75) 0⟩⟩,
  ⟨17, 65535, [75], ⟨(some 92), none, .ex (.t 75) 1⟩⟩,
  ⟨18, 131071, [91], ⟨(some 17), none, .mv (.t 91)⟩⟩,
  ⟨19, 524287, [92], ⟨(some 18), none, .mv (.t 92)⟩⟩])
 (.sq (.rg [⟨(some 93), none, .mv (.t 0)⟩,
  ⟨(some 94), none, .nc (.t 93)⟩,
  ⟨(some 95), none, .fa (.t 94) 13⟩,
  ⟨(some 96), none, .ld (.t 95) 1 false⟩,
  ⟨(some 97), none, .mv (.t 1)⟩,
  ⟨(some 98), none, .ia (.t 96) (.t 97) 1⟩,
  ⟨(some 99), none, .ld (.t 98) 1 false⟩,
  ⟨(some 100), none, .mv (.t 14)⟩,
  ⟨(some 101), none, .mv (.t 15)⟩,
  ⟨(some 102), none, .mv (.t 3)⟩,
  ⟨(some 103), none, .ca 37 [(.t 99), (.t 100), (.t 101), (.t 102)]⟩,
  ⟨(some 19), none, .mv (.t 103)⟩])
 (.sq (.sq (.rg [⟨(some 104), none, .mv (.t 17)⟩,
  ⟨(some 105), none, .en 0 false (.t 104) (.c (.pointer none))⟩,
  ⟨(some 106), none, .mv (.t 105)⟩,
  ⟨(some 107), (some (106, false)), .mv (.t 18)⟩,
  ⟨(some 108), (some (106, false)), .ib .neq (.t 107) (.c (.int .i64 0))⟩,
  ⟨(some 109), none, .pk (.t 106) (.c (.bool true)) (.t 108)⟩])
 (.cd (.t 109)
 (.sq (.rg [⟨(some 8), none, .mv (.c (.int .i64 0))⟩,
  ⟨(some 9), none, .mv (.c (.int .i64 0))⟩,
  ⟨(some 10), none, .mv (.c (.bool false))⟩])
 .rt)
 .sk))
 (.sq (.sq (.rg [⟨(some 20), none, .mv (.c (.int .i64 0))⟩])
 (.bl 4
 (.lp
 (.sq (.sq (.rg [⟨(some 110), none, .mv (.t 20)⟩,
  ⟨(some 111), none, .ib .lss (.t 110) (.c (.int .i64 200))⟩,
  ⟨(some 112), none, .mv (.t 111)⟩,
  ⟨(some 113), (some (112, true)), .mv (.t 19)⟩,
  ⟨(some 114), (some (112, true)), .ca 38 [(.t 113)]⟩,
  ⟨(some 115), none, .pk (.t 112) (.t 114) (.c (.bool false))⟩])
 (.cd (.t 115)
 .sk
 (.ex 4)))
 (.sq (.bl 5
 (.rg [⟨(some 118), none, .mv (.t 17)⟩,
  ⟨(some 119), none, .ca 26 [(.t 118)]⟩]))
 (.rg [⟨(some 116), none, .mv (.t 20)⟩,
  ⟨(some 117), none, .ib .add (.t 116) (.c (.int .i64 1))⟩,
  ⟨(some 20), none, .mv (.t 117)⟩]))))))
 (.sq (.rg [⟨(some 120), none, .mv (.t 17)⟩,
  ⟨(some 121), none, .ca 27 [(.t 120)]⟩,
  ⟨(some 122), none, .nt (.t 121)⟩,
  ⟨(some 123), none, .mv (.t 122)⟩,
  ⟨(some 124), (some (123, false)), .mv (.t 19)⟩,
  ⟨(some 125), (some (123, false)), .nc (.t 124)⟩,
  ⟨(some 126), (some (123, false)), .fa (.t 125) 20⟩,
  ⟨(some 127), (some (123, false)), .ld (.t 126) 1 false⟩,
  ⟨(some 128), (some (123, false)), .nt (.t 127)⟩,
  ⟨(some 129), none, .pk (.t 123) (.c (.bool true)) (.t 128)⟩])
 (.cd (.t 129)
 (.sq (.rg [⟨(some 8), none, .mv (.c (.int .i64 0))⟩,
  ⟨(some 9), none, .mv (.c (.int .i64 0))⟩,
  ⟨(some 10), none, .mv (.c (.bool false))⟩])
 .rt)
 .sk)))))))
 (.rg [⟨(some 73), none, .mv (.t 16)⟩,
  ⟨(some 74), none, .ib .add (.t 73) (.c (.int .i64 1))⟩,
  ⟨(some 16), none, .mv (.t 74)⟩]))))))
 (.sq (.rg [⟨(some 130), none, .mv (.t 14)⟩,
  ⟨(some 131), none, .mv (.t 15)⟩,
  ⟨(some 8), none, .mv (.t 130)⟩,
  ⟨(some 9), none, .mv (.t 131)⟩,
  ⟨(some 10), none, .mv (.c (.bool true))⟩])
 .rt))))))))⟩
theorem k54 : cF Tryz.prog Tryz.f54 = some c54 := by kernel_rfl
def c55 : Fu := ⟨7, [.t 2],
 (.sq (.rg [⟨(some 2), none, .mv (.c (.bool false))⟩])
 (.sq (.rg [⟨(some 3), none, .mv (.t 0)⟩,
  ⟨(some 4), none, .nc (.t 3)⟩,
  ⟨(some 5), none, .fa (.t 4) 0⟩,
  ⟨(some 6), none, .ca 91 [(.t 5)]⟩,
  ⟨(some 2), none, .mv (.t 6)⟩])
 .rt))⟩
theorem k55 : cF Tryz.prog Tryz.f55 = some c55 := by kernel_rfl
def c56 : Fu := ⟨7, [.t 2],
 (.sq (.rg [⟨(some 2), none, .mv (.c (.bool false))⟩])
 (.sq (.rg [⟨(some 3), none, .mv (.t 0)⟩,
  ⟨(some 4), none, .nc (.t 3)⟩,
  ⟨(some 5), none, .fa (.t 4) 0⟩,
  ⟨(some 6), none, .ca 92 [(.t 5)]⟩,
  ⟨(some 2), none, .mv (.t 6)⟩])
 .rt))⟩
theorem k56 : cF Tryz.prog Tryz.f56 = some c56 := by kernel_rfl
def c57 : Fu := ⟨14, [.t 4, .t 5],
 (.sq (.rg [⟨(some 4), none, .mv (.c (.int .i64 0))⟩,
  ⟨(some 5), none, .mv (.c (.slice none 0 0))⟩])
 (.sq (.rg [⟨(some 6), none, .mv (.t 0)⟩,
  ⟨(some 7), none, .nc (.t 6)⟩,
  ⟨(some 8), none, .fa (.t 7) 9⟩,
  ⟨(some 9), none, .ld (.t 8) 1 false⟩,
  ⟨(some 10), none, .mv (.t 1)⟩,
  ⟨(some 11), none, .ca 121 [(.t 9), (.t 10)]⟩,
  ⟨(some 12), none, .ex (.t 11) 0⟩,
  ⟨(some 13), none, .ex (.t 11) 1⟩,
  ⟨(some 4), none, .mv (.t 12)⟩,
  ⟨(some 5), none, .mv (.t 13)⟩])
 .rt))⟩
theorem k57 : cF Tryz.prog Tryz.f57 = some c57 := by kernel_rfl
def c60 : Fu := ⟨7, [.t 2],
 (.sq (.rg [⟨(some 2), none, .mv (.c (.int .i64 0))⟩])
 (.sq (.rg [⟨(some 3), none, .mv (.t 0)⟩,
  ⟨(some 4), none, .nc (.t 3)⟩,
  ⟨(some 5), none, .fa (.t 4) 13⟩,
  ⟨(some 6), none, .ld (.t 5) 1 false⟩,
  ⟨(some 2), none, .mv (.t 6)⟩])
 .rt))⟩
theorem k60 : cF Tryz.prog Tryz.f60 = some c60 := by kernel_rfl
def c63 : Fu := ⟨32, [.t 2],
 (.sq (.rg [⟨(some 2), none, .mv (.c (.slice none 0 0))⟩])
 (.sq (.bl 0
 (.sq (.rg [⟨(some 4), none, .mv (.t 0)⟩,
  ⟨(some 5), none, .nc (.t 4)⟩,
  ⟨(some 6), none, .fa (.t 5) 10⟩,
  ⟨(some 7), none, .ld (.t 6) 1 false⟩,
  ⟨(some 8), none, .en 0 true (.t 7) (.c (.pointer none))⟩,
  ⟨(some 3), none, .mv (.t 8)⟩])
 (.cd (.t 3)
 (.sq (.rg [⟨(some 9), none, .mv (.t 0)⟩,
  ⟨(some 10), none, .nc (.t 9)⟩,
  ⟨(some 11), none, .fa (.t 10) 10⟩,
  ⟨(some 12), none, .ld (.t 11) 1 false⟩,
  ⟨(some 13), none, .ca 117 [(.t 12)]⟩,
  ⟨(some 2), none, .mv (.t 13)⟩])
 .rt)
 (.sq (.rg [⟨(some 15), none, .mv (.t 0)⟩,
  ⟨(some 16), none, .nc (.t 15)⟩,
  ⟨(some 17), none, .fa (.t 16) 12⟩,
  ⟨(some 18), none, .ld (.t 17) 1 false⟩,
  ⟨(some 19), none, .ib .geq (.t 18) (.c (.int .i64 0))⟩,
  ⟨(some 14), none, .mv (.t 19)⟩])
 (.cd (.t 14)
 (.sq (.rd [⟨0, 0, [0], ⟨(some 20), none, .mv (.t 0)⟩⟩,
  ⟨1, 1, [20], ⟨(some 21), none, .nc (.t 20)⟩⟩,
  ⟨2, 3, [21], ⟨(some 22), none, .fa (.t 21) 5⟩⟩,
  ⟨3, 7, [22], ⟨(some 23), none, .ld (.t 22) 1 false⟩⟩,
  ⟨4, 15, [23], ⟨(some 24), none, .nc (.t 23)⟩⟩,
  ⟨5, 31, [24], ⟨(some 25), none, .fa (.t 24) 2⟩⟩,
  ⟨6, 63, [25], ⟨(some 26), none, .ld (.t 25) 1 false⟩⟩,
  ⟨7, 0, [0], ⟨(some 27), none, .mv (.t 0)⟩⟩,
  ⟨8, 128, [27], ⟨(some 28), none, .nc (.t 27)⟩⟩,
  ⟨9, 384, [28], ⟨(some 29), none, .fa (.t 28) 12⟩⟩,
  ⟨10, 896, [29], ⟨(some 30), none, .ld (.t 29) 1 false⟩⟩,
  ⟨11, 2047, [26, 30], ⟨(some 31), none, .ca 129 [(.t 26), (.t 30)]⟩⟩,
  ⟨12, 4095, [31], ⟨(some 2), none, .mv (.t 31)⟩⟩])
 .rt)
 .sk)))))
 (.sq (.rg [⟨(some 2), none, .mv (.c (.slice none 0 0))⟩])
 .rt)))⟩
theorem k63 : cF Tryz.prog Tryz.f63 = some c63 := by kernel_rfl
def c67 : Fu := ⟨20, [.t 4],
 (.sq (.rg [⟨(some 4), none, .mv (.c (.int .i64 0))⟩])
 (.sq (.rg [⟨(some 6), none, .mv (.t 0)⟩,
  ⟨(some 7), none, .nc (.t 6)⟩,
  ⟨(some 8), none, .fa (.t 7) 9⟩,
  ⟨(some 9), none, .ld (.t 8) 1 false⟩,
  ⟨(some 10), none, .mv (.t 1)⟩,
  ⟨(some 11), none, .ca 135 [(.t 9), (.t 10)]⟩,
  ⟨(some 5), none, .mv (.t 11)⟩])
 (.sq (.rg [⟨(some 12), none, .mv (.t 0)⟩,
  ⟨(some 13), none, .nc (.t 12)⟩,
  ⟨(some 14), none, .fa (.t 13) 8⟩,
  ⟨(some 15), none, .ld (.t 14) 1 false⟩,
  ⟨(some 16), none, .mv (.t 5)⟩,
  ⟨(some 17), none, .ca 136 [(.t 15), (.t 16)]⟩])
 (.sq (.rg [⟨(some 18), none, .mv (.t 5)⟩,
  ⟨(some 19), none, .len (.t 18)⟩,
  ⟨(some 4), none, .mv (.t 19)⟩])
 .rt))))⟩
theorem k67 : cF Tryz.prog Tryz.f67 = some c67 := by kernel_rfl
def c68 : Fu := ⟨36, [.t 4],
 (.sq (.rg [⟨(some 4), none, .mv (.c (.int .i64 0))⟩])
 (.sq (.rg [⟨(some 5), none, .mv (.c (.int .i64 0))⟩])
 (.sq (.sq (.rd [⟨0, 0, [0], ⟨(some 6), none, .mv (.t 0)⟩⟩,
  ⟨1, 1, [6], ⟨(some 7), none, .nc (.t 6)⟩⟩,
  ⟨2, 3, [7], ⟨(some 8), none, .fa (.t 7) 1⟩⟩,
  ⟨3, 7, [8], ⟨(some 9), none, .ld (.t 8) 1 false⟩⟩,
  ⟨4, 0, [0], ⟨(some 10), none, .mv (.t 0)⟩⟩,
  ⟨5, 16, [10], ⟨(some 11), none, .nc (.t 10)⟩⟩,
  ⟨6, 48, [11], ⟨(some 12), none, .fa (.t 11) 0⟩⟩,
  ⟨7, 112, [12], ⟨(some 13), none, .ld (.t 12) 1 false⟩⟩,
  ⟨8, 240, [13], ⟨(some 14), none, .len (.t 13)⟩⟩,
  ⟨9, 511, [9, 14], ⟨(some 15), none, .ib .lss (.t 9) (.t 14)⟩⟩])
 (.cd (.t 15)
 (.rd [⟨0, 0, [0], ⟨(some 16), none, .mv (.t 0)⟩⟩,
  ⟨1, 1, [16], ⟨(some 17), none, .nc (.t 16)⟩⟩,
  ⟨2, 3, [17], ⟨(some 18), none, .fa (.t 17) 0⟩⟩,
  ⟨3, 7, [18], ⟨(some 19), none, .ld (.t 18) 1 false⟩⟩,
  ⟨4, 0, [0], ⟨(some 20), none, .mv (.t 0)⟩⟩,
  ⟨5, 16, [20], ⟨(some 21), none, .nc (.t 20)⟩⟩,
  ⟨6, 48, [21], ⟨(some 22), none, .fa (.t 21) 1⟩⟩,
  ⟨7, 112, [22], ⟨(some 23), none, .ld (.t 22) 1 false⟩⟩,
  ⟨8, 255, [19, 23], ⟨(some 24), none, .ia (.t 19) (.t 23) 1⟩⟩,
  ⟨9, 511, [24], ⟨(some 25), none, .ld (.t 24) 1 false⟩⟩,
  ⟨10, 1023, [25], ⟨(some 5), none, .mv (.t 25)⟩⟩])
 .sk))
 (.sq (.rg [⟨(some 26), none, .mv (.t 0)⟩,
  ⟨(some 27), none, .nc (.t 26)⟩,
  ⟨(some 28), none, .fa (.t 27) 1⟩,
  ⟨(some 29), none, .ld (.t 28) 1 false⟩,
  ⟨(some 30), none, .ib .add (.t 29) (.c (.int .i64 1))⟩,
  ⟨(some 31), none, .nc (.t 26)⟩,
  ⟨(some 32), none, .fa (.t 31) 1⟩,
  ⟨none, none, .st (.t 32) (.t 30) 1⟩])
 (.sq (.rg [⟨(some 33), none, .mv (.t 5)⟩,
  ⟨(some 34), none, .mv (.t 1)⟩,
  ⟨(some 35), none, .ca 16 [(.t 33), (.t 34)]⟩,
  ⟨(some 4), none, .mv (.t 35)⟩])
 .rt)))))⟩
theorem k68 : cF Tryz.prog Tryz.f68 = some c68 := by kernel_rfl
def c69 : Fu := ⟨35, [.t 4, .t 5],
 (.sq (.rg [⟨(some 3), none, .bx 24 (.t 1)⟩,
  ⟨(some 4), none, .mv (.c (.pointer none))⟩,
  ⟨(some 5), none, .mv (.c (.int .i64 0))⟩])
 (.sq (.sq (.rd [⟨0, 0, [3], ⟨(some 8), none, .ld (.t 3) 6 true⟩⟩,
  ⟨1, 1, [8], ⟨(some 9), none, .ca 77 [(.t 8)]⟩⟩,
  ⟨2, 3, [9], ⟨(some 10), none, .nt (.t 9)⟩⟩,
  ⟨3, 7, [10], ⟨(some 11), none, .mv (.t 10)⟩⟩,
  ⟨4, 15, [0, 11], ⟨(some 12), (some (11, false)), .mv (.t 0)⟩⟩,
  ⟨5, 31, [12, 11], ⟨(some 13), (some (11, false)), .ca 137 [(.t 12)]⟩⟩,
  ⟨6, 15, [3, 11], ⟨(some 14), (some (11, false)), .ld (.t 3) 6 true⟩⟩,
  ⟨7, 127, [14, 11], ⟨(some 15), (some (11, false)), .ca 17 [(.t 14)]⟩⟩,
  ⟨8, 255, [13, 15, 11], ⟨(some 16), (some (11, false)), .ib .lss (.t 13) (.t 15)⟩⟩,
  ⟨9, 511, [11, 16], ⟨(some 17), none, .pk (.t 11) (.c (.bool true)) (.t 16)⟩⟩])
 (.cd (.t 17)
 (.sq (.rg [⟨(some 4), none, .mv (.c (.pointer none))⟩,
  ⟨(some 5), none, .mv (.c (.int .i64 1))⟩])
 .rt)
 .sk))
 (.sq (.rd [⟨0, 0, [0], ⟨(some 19), none, .mv (.t 0)⟩⟩,
  ⟨1, 0, [3], ⟨(some 20), none, .ld (.t 3) 6 true⟩⟩,
  ⟨2, 2, [20], ⟨(some 21), none, .ca 139 [(.t 20), (.c (.int .i64 0))]⟩⟩,
  ⟨3, 0, [3], ⟨(some 22), none, .fa (.t 3) 1⟩⟩,
  ⟨4, 8, [22], ⟨(some 23), none, .ld (.t 22) 1 false⟩⟩,
  ⟨5, 31, [19, 21, 23], ⟨(some 24), none, .ca 138 [(.t 19), (.c (.int .i64 0)), (.t 21), (.t 23)]⟩⟩,
  ⟨6, 63, [24], ⟨(some 18), none, .mv (.t 24)⟩⟩,
  ⟨7, 127, [18], ⟨(some 25), none, .ex (.t 18) 0⟩⟩,
  ⟨8, 127, [18], ⟨(some 26), none, .ex (.t 18) 1⟩⟩,
  ⟨9, 255, [25], ⟨(some 6), none, .mv (.t 25)⟩⟩,
  ⟨10, 1023, [26], ⟨(some 7), none, .mv (.t 26)⟩⟩])
 (.sq (.sq (.rg [⟨(some 27), none, .mv (.t 7)⟩,
  ⟨(some 28), none, .ib .neq (.t 27) (.c (.int .i64 0))⟩])
 (.cd (.t 28)
 (.sq (.rg [⟨(some 29), none, .mv (.t 7)⟩,
  ⟨(some 4), none, .mv (.c (.pointer none))⟩,
  ⟨(some 5), none, .mv (.t 29)⟩])
 .rt)
 .sk))
 (.sq (.rg [⟨(some 30), none, .mv (.t 0)⟩,
  ⟨(some 31), none, .ld (.t 3) 6 true⟩,
  ⟨(some 32), none, .mv (.t 6)⟩,
  ⟨(some 33), none, .bd [(.pointer none), (.int .i64 0), (.int .i64 0), (.int .i64 0), (.int .i64 0), (.int .i64 0), (.int .i64 0), (.pointer none)] [(0, 1, (.t 30)), (1, 6, (.t 31)), (7, 1, (.t 32))]⟩,
  ⟨(some 34), none, .bx 215 (.t 33)⟩,
  ⟨(some 4), none, .mv (.t 34)⟩,
  ⟨(some 5), none, .mv (.c (.int .i64 0))⟩])
 .rt)))))⟩
theorem k69 : cF Tryz.prog Tryz.f69 = some c69 := by kernel_rfl
end Go.Proofs.YtflalhdofhobmaaGreat
