/-
  The functions' small code, as a program printed it off the translation; each held against the model's own code by the kernel.
-/
import Derived.Test.YtnbkjcmmjgkdaaaSlB
import Derived.Test.YtnbkjcmmjgkdaaaProg
import Derived.KernelRfl
namespace Go.Proofs.Ytnbkjcmmjgkdaaa
open Go
set_option maxRecDepth 100000
/-- rundale/rundalelaw13.SupplyNone -/
def c3 : Fu := ⟨172, [.t 6],
  (.sq (.rg [⟨(some 6), none, .mv (.c (.bool false))⟩])
  (.sq (.rg [⟨(some 21), none, .ca 5 []⟩,
    ⟨(some 7), none, .mv (.t 21)⟩])
  (.sq (.sq (.rg [⟨(some 22), none, .mv (.t 7)⟩,
    ⟨(some 23), none, .nt (.t 22)⟩])
  (.cd (.t 23)
  (.sq (.rg [⟨(some 6), none, .mv (.c (.bool false))⟩])
  .rt)
  .sk))
  (.sq (.rg [⟨(some 24), none, .mv (.t 0)⟩,
    ⟨(some 25), none, .ca 6 [(.t 24)]⟩,
    ⟨(some 8), none, .al 24 [(.int .i64 0), (.int .i64 0), (.int .i64 0), (.int .i64 0), (.int .i64 0), (.int .i64 0)]⟩,
    ⟨none, none, .st (.t 8) (.t 25) 6⟩])
  (.sq (.rg [⟨(some 27), none, .mv (.t 1)⟩,
    ⟨(some 28), none, .ld (.t 8) 6 true⟩,
    ⟨(some 29), none, .ca 9 [(.t 28)]⟩,
    ⟨(some 30), none, .ib .sub (.t 29) (.c (.int .i64 1))⟩,
    ⟨(some 31), none, .ca 8 [(.t 27), (.t 30)]⟩,
    ⟨(some 32), none, .ib .add (.c (.int .i64 1)) (.t 31)⟩,
    ⟨(some 33), none, .ca 7 [(.t 32)]⟩,
    ⟨(some 26), none, .mv (.t 33)⟩,
    ⟨(some 34), none, .ex (.t 26) 0⟩,
    ⟨(some 35), none, .ex (.t 26) 1⟩,
    ⟨(some 9), none, .mv (.t 34)⟩,
    ⟨(some 10), none, .mv (.t 35)⟩])
  (.sq (.rg [⟨(some 36), none, .ld (.t 8) 6 true⟩,
    ⟨(some 37), none, .ca 10 [(.t 36), (.c (.int .i64 1))]⟩,
    ⟨(some 11), none, .mv (.t 37)⟩])
  (.sq (.sq (.rg [⟨(some 38), none, .mv (.t 9)⟩,
    ⟨(some 39), none, .en 0 false (.t 38) (.c (.pointer none))⟩,
    ⟨(some 40), none, .mv (.t 39)⟩,
    ⟨(some 41), (some (40, false)), .mv (.t 10)⟩,
    ⟨(some 42), (some (40, false)), .ib .neq (.t 41) (.c (.int .i64 0))⟩,
    ⟨(some 43), none, .pk (.t 40) (.c (.bool true)) (.t 42)⟩,
    ⟨(some 44), none, .mv (.t 43)⟩,
    ⟨(some 45), (some (44, false)), .mv (.t 11)⟩,
    ⟨(some 46), (some (44, false)), .en 0 false (.t 45) (.c (.pointer none))⟩,
    ⟨(some 47), none, .pk (.t 44) (.c (.bool true)) (.t 46)⟩])
  (.cd (.t 47)
  (.sq (.rg [⟨(some 6), none, .mv (.c (.bool false))⟩])
  .rt)
  .sk))
  (.sq (.rg [⟨(some 49), none, .mv (.t 9)⟩,
    ⟨(some 50), none, .ld (.t 8) 6 true⟩,
    ⟨(some 51), none, .ca 11 [(.t 49), (.t 50)]⟩,
    ⟨(some 48), none, .mv (.t 51)⟩,
    ⟨(some 52), none, .ex (.t 48) 0⟩,
    ⟨(some 53), none, .ex (.t 48) 1⟩,
    ⟨(some 12), none, .mv (.t 52)⟩,
    ⟨(some 13), none, .mv (.t 53)⟩])
  (.sq (.rg [⟨(some 54), none, .ld (.t 8) 6 true⟩,
    ⟨(some 14), none, .al 24 [(.int .i64 0), (.int .i64 0), (.int .i64 0), (.int .i64 0), (.int .i64 0), (.int .i64 0)]⟩,
    ⟨none, none, .st (.t 14) (.t 54) 6⟩])
  (.sq (.rg [⟨(some 55), none, .mv (.t 1)⟩,
    ⟨(some 56), none, .ca 8 [(.t 55), (.c (.int .i64 100))]⟩,
    ⟨(some 57), none, .ib .sub (.c (.int .i64 (-1))) (.t 56)⟩,
    ⟨(some 58), none, .fa (.t 14) 4⟩,
    ⟨none, none, .st (.t 58) (.t 57) 1⟩])
  (.sq (.rd [⟨0, 0, [11], ⟨(some 60), none, .mv (.t 11)⟩⟩,
    ⟨1, 1, [60], ⟨(some 61), none, .nc (.t 60)⟩⟩,
    ⟨2, 3, [61], ⟨(some 62), none, .fa (.t 61) 0⟩⟩,
    ⟨3, 7, [62], ⟨(some 63), none, .ld (.t 62) 1 false⟩⟩,
    ⟨4, 0, [14], ⟨(some 64), none, .ld (.t 14) 6 true⟩⟩,
    ⟨5, 31, [63, 64], ⟨(some 65), none, .ca 11 [(.t 63), (.t 64)]⟩⟩,
    ⟨6, 63, [65], ⟨(some 59), none, .mv (.t 65)⟩⟩,
    ⟨7, 127, [59], ⟨(some 66), none, .ex (.t 59) 0⟩⟩,
    ⟨8, 127, [59], ⟨(some 67), none, .ex (.t 59) 1⟩⟩,
    ⟨9, 255, [66], ⟨(some 15), none, .mv (.t 66)⟩⟩,
    ⟨10, 1023, [67], ⟨(some 16), none, .mv (.t 67)⟩⟩])
  (.sq (.rg [⟨(some 68), none, .mv (.t 11)⟩,
    ⟨(some 69), none, .nc (.t 68)⟩,
    ⟨(some 70), none, .fa (.t 69) 2⟩,
    ⟨(some 71), none, .ld (.t 70) 1 false⟩,
    ⟨(some 72), none, .ia (.t 71) (.c (.int .i64 0)) 1⟩,
    ⟨(some 73), none, .ld (.t 72) 1 false⟩,
    ⟨(some 17), none, .mv (.t 73)⟩])
  (.sq (.rg [⟨(some 74), none, .mv (.t 2)⟩,
    ⟨(some 75), none, .ca 8 [(.t 74), (.c (.int .i64 1000))]⟩,
    ⟨(some 76), none, .ib .add (.c (.int .i64 1)) (.t 75)⟩,
    ⟨(some 18), none, .mv (.t 76)⟩])
  (.sq (.sq (.rg [⟨(some 77), none, .mv (.t 17)⟩,
    ⟨(some 78), none, .mv (.t 18)⟩,
    ⟨(some 79), none, .bs 3 1 [(.int .i64 0)] [(0, 1, (.c (.int .i64 0)))]⟩,
    ⟨(some 80), none, .ca 12 [(.t 77), (.t 78), (.t 79)]⟩,
    ⟨(some 81), none, .ib .neq (.t 80) (.c (.int .i64 0))⟩,
    ⟨(some 82), none, .mv (.t 81)⟩,
    ⟨(some 83), (some (82, false)), .mv (.t 17)⟩,
    ⟨(some 84), (some (82, false)), .mv (.t 18)⟩,
    ⟨(some 85), (some (82, false)), .ib .sub (.t 84) (.c (.int .i64 1))⟩,
    ⟨(some 86), (some (82, false)), .bs 3 1 [(.int .i64 0)] [(0, 1, (.c (.int .i64 1)))]⟩,
    ⟨(some 87), (some (82, false)), .ca 12 [(.t 83), (.t 85), (.t 86)]⟩,
    ⟨(some 88), (some (82, false)), .ib .neq (.t 87) (.c (.int .i64 1))⟩,
    ⟨(some 89), none, .pk (.t 82) (.c (.bool true)) (.t 88)⟩,
    ⟨(some 90), none, .mv (.t 89)⟩,
    ⟨(some 91), (some (90, false)), .mv (.t 17)⟩,
    ⟨(some 92), (some (90, false)), .mv (.t 18)⟩,
    ⟨(some 93), (some (90, false)), .ng (.t 92)⟩,
    ⟨(some 94), (some (90, false)), .bs 3 1 [(.int .i64 0)] [(0, 1, (.c (.int .i64 1)))]⟩,
    ⟨(some 95), (some (90, false)), .ca 12 [(.t 91), (.t 93), (.t 94)]⟩,
    ⟨(some 96), (some (90, false)), .ib .neq (.t 95) (.c (.int .i64 1))⟩,
    ⟨(some 97), none, .pk (.t 90) (.c (.bool true)) (.t 96)⟩,
    ⟨(some 98), none, .mv (.t 97)⟩,
    ⟨(some 99), (some (98, false)), .mv (.t 17)⟩,
    ⟨(some 100), (some (98, false)), .mv (.t 18)⟩,
    ⟨(some 101), (some (98, false)), .ca 12 [(.t 99), (.t 100), (.c (.slice none 0 0))]⟩,
    ⟨(some 102), (some (98, false)), .ib .neq (.t 101) (.c (.int .i64 1))⟩,
    ⟨(some 103), none, .pk (.t 98) (.c (.bool true)) (.t 102)⟩])
  (.cd (.t 103)
  (.sq (.rg [⟨(some 6), none, .mv (.c (.bool false))⟩])
  .rt)
  .sk))
  (.sq (.rg [⟨(some 105), none, .mv (.t 17)⟩,
    ⟨(some 106), none, .mv (.t 18)⟩,
    ⟨(some 107), none, .ib .rem (.t 106) (.c (.int .i64 3))⟩,
    ⟨(some 108), none, .ca 13 [(.t 105), (.t 107)]⟩,
    ⟨(some 104), none, .mv (.t 108)⟩,
    ⟨(some 109), none, .ex (.t 104) 0⟩,
    ⟨(some 110), none, .ex (.t 104) 1⟩,
    ⟨(some 19), none, .mv (.t 109)⟩,
    ⟨(some 20), none, .mv (.t 110)⟩])
  (.sq (.rg [⟨(some 111), none, .mv (.t 7)⟩,
    ⟨(some 112), none, .mv (.t 111)⟩,
    ⟨(some 113), (some (112, true)), .mv (.t 12)⟩,
    ⟨(some 114), (some (112, true)), .en 0 false (.t 113) (.c (.pointer none))⟩,
    ⟨(some 115), none, .pk (.t 112) (.t 114) (.c (.bool false))⟩,
    ⟨(some 116), none, .mv (.t 115)⟩,
    ⟨(some 117), (some (116, true)), .mv (.t 13)⟩,
    ⟨(some 118), (some (116, true)), .ib .eql (.t 117) (.c (.int .i64 1))⟩,
    ⟨(some 119), none, .pk (.t 116) (.t 118) (.c (.bool false))⟩,
    ⟨(some 120), none, .mv (.t 119)⟩,
    ⟨(some 121), (some (120, true)), .mv (.t 15)⟩,
    ⟨(some 122), (some (120, true)), .en 0 false (.t 121) (.c (.pointer none))⟩,
    ⟨(some 123), none, .pk (.t 120) (.t 122) (.c (.bool false))⟩,
    ⟨(some 124), none, .mv (.t 123)⟩,
    ⟨(some 125), (some (124, true)), .mv (.t 16)⟩,
    ⟨(some 126), (some (124, true)), .ib .eql (.t 125) (.c (.int .i64 1))⟩,
    ⟨(some 127), none, .pk (.t 124) (.t 126) (.c (.bool false))⟩,
    ⟨(some 128), none, .mv (.t 127)⟩,
    ⟨(some 129), (some (128, true)), .mv (.t 19)⟩,
    ⟨(some 130), (some (128, true)), .mv (.t 18)⟩,
    ⟨(some 131), (some (128, true)), .ib .eql (.t 129) (.t 130)⟩,
    ⟨(some 132), none, .pk (.t 128) (.t 131) (.c (.bool false))⟩,
    ⟨(some 133), none, .mv (.t 132)⟩,
    ⟨(some 134), (some (133, true)), .mv (.t 20)⟩,
    ⟨(some 135), (some (133, true)), .len (.t 134)⟩,
    ⟨(some 136), (some (133, true)), .ib .eql (.t 135) (.c (.int .i64 1))⟩,
    ⟨(some 137), none, .pk (.t 133) (.t 136) (.c (.bool false))⟩,
    ⟨(some 138), none, .mv (.t 137)⟩,
    ⟨(some 139), (some (138, true)), .mv (.t 17)⟩,
    ⟨(some 140), (some (138, true)), .ca 14 [(.t 139)]⟩,
    ⟨(some 141), (some (138, true)), .len (.t 140)⟩,
    ⟨(some 142), (some (138, true)), .ib .eql (.t 141) (.c (.int .i64 0))⟩,
    ⟨(some 143), none, .pk (.t 138) (.t 142) (.c (.bool false))⟩,
    ⟨(some 144), none, .mv (.t 143)⟩,
    ⟨(some 145), (some (144, true)), .mv (.t 11)⟩,
    ⟨(some 146), (some (144, true)), .nc (.t 145)⟩,
    ⟨(some 147), (some (144, true)), .fa (.t 146) 0⟩,
    ⟨(some 148), (some (144, true)), .ld (.t 147) 1 false⟩,
    ⟨(some 149), (some (144, true)), .ca 15 [(.t 148)]⟩,
    ⟨(some 150), (some (144, true)), .ib .eql (.t 149) (.c (.int .i64 0))⟩,
    ⟨(some 151), none, .pk (.t 144) (.t 150) (.c (.bool false))⟩,
    ⟨(some 152), none, .mv (.t 151)⟩,
    ⟨(some 153), (some (152, true)), .mv (.t 17)⟩,
    ⟨(some 154), (some (152, true)), .mv (.t 18)⟩,
    ⟨(some 155), (some (152, true)), .ib .add (.t 154) (.c (.int .i64 1))⟩,
    ⟨(some 156), (some (152, true)), .ca 16 [(.t 153), (.t 155)]⟩,
    ⟨(some 157), (some (152, true)), .ib .eql (.t 156) (.c (.int .i64 0))⟩,
    ⟨(some 158), none, .pk (.t 152) (.t 157) (.c (.bool false))⟩,
    ⟨(some 159), none, .mv (.t 158)⟩,
    ⟨(some 160), (some (159, true)), .mv (.t 17)⟩,
    ⟨(some 161), (some (159, true)), .mv (.t 18)⟩,
    ⟨(some 162), (some (159, true)), .ib .add (.t 161) (.c (.int .i64 2))⟩,
    ⟨(some 163), (some (159, true)), .ca 16 [(.t 160), (.t 162)]⟩,
    ⟨(some 164), (some (159, true)), .ib .eql (.t 163) (.c (.int .i64 1))⟩,
    ⟨(some 165), none, .pk (.t 159) (.t 164) (.c (.bool false))⟩,
    ⟨(some 166), none, .mv (.t 165)⟩,
    ⟨(some 167), (some (166, true)), .mv (.t 17)⟩,
    ⟨(some 168), (some (166, true)), .ca 14 [(.t 167)]⟩,
    ⟨(some 169), (some (166, true)), .len (.t 168)⟩,
    ⟨(some 170), (some (166, true)), .ib .eql (.t 169) (.c (.int .i64 1))⟩,
    ⟨(some 171), none, .pk (.t 166) (.t 170) (.c (.bool false))⟩,
    ⟨(some 6), none, .mv (.t 171)⟩])
  .rt))))))))))))))))⟩
theorem k3 : cF Try.prog Try.f3 = some c3 := by kernel_rfl
/-- rundale/rundalelaw13.SupplyWaits -/
def c4 : Fu := ⟨108, [.t 4],
  (.sq (.rg [⟨(some 4), none, .mv (.c (.bool false))⟩])
  (.sq (.rg [⟨(some 17), none, .ca 5 []⟩,
    ⟨(some 5), none, .mv (.t 17)⟩])
  (.sq (.sq (.rg [⟨(some 18), none, .mv (.t 5)⟩,
    ⟨(some 19), none, .nt (.t 18)⟩])
  (.cd (.t 19)
  (.sq (.rg [⟨(some 4), none, .mv (.c (.bool false))⟩])
  .rt)
  .sk))
  (.sq (.rg [⟨(some 20), none, .bd [(.int .i64 0), (.int .i64 0), (.int .i64 0), (.int .i64 0), (.int .i64 0), (.int .i64 0)] [(0, 1, (.c (.int .i64 1))), (1, 1, (.c (.int .i64 3))), (2, 1, (.c (.int .i64 8))), (3, 1, (.c (.int .i64 1))), (4, 1, (.c (.int .i64 2))), (5, 1, (.c (.int .i64 1)))]⟩,
    ⟨(some 6), none, .al 24 [(.int .i64 0), (.int .i64 0), (.int .i64 0), (.int .i64 0), (.int .i64 0), (.int .i64 0)]⟩,
    ⟨none, none, .st (.t 6) (.t 20) 6⟩])
  (.sq (.rg [⟨(some 21), none, .ld (.t 6) 6 true⟩,
    ⟨(some 22), none, .ca 10 [(.t 21), (.c (.int .i64 1))]⟩,
    ⟨(some 7), none, .mv (.t 22)⟩])
  (.sq (.sq (.rg [⟨(some 23), none, .mv (.t 7)⟩,
    ⟨(some 24), none, .en 0 false (.t 23) (.c (.pointer none))⟩])
  (.cd (.t 24)
  (.sq (.rg [⟨(some 4), none, .mv (.c (.bool false))⟩])
  .rt)
  .sk))
  (.sq (.rg [⟨(some 25), none, .mv (.t 7)⟩,
    ⟨(some 26), none, .nc (.t 25)⟩,
    ⟨(some 27), none, .fa (.t 26) 2⟩,
    ⟨(some 28), none, .ld (.t 27) 1 false⟩,
    ⟨(some 29), none, .ia (.t 28) (.c (.int .i64 0)) 1⟩,
    ⟨(some 30), none, .ld (.t 29) 1 false⟩,
    ⟨(some 8), none, .mv (.t 30)⟩])
  (.sq (.rg [⟨(some 31), none, .mv (.t 0)⟩,
    ⟨(some 32), none, .ca 8 [(.t 31), (.c (.int .i64 1000))]⟩,
    ⟨(some 9), none, .mv (.t 32)⟩])
  (.sq (.rg [⟨(some 33), none, .mv (.t 1)⟩,
    ⟨(some 34), none, .ca 8 [(.t 33), (.c (.int .i64 5))]⟩,
    ⟨(some 10), none, .mv (.t 34)⟩])
  (.sq (.rg [⟨(some 36), none, .mv (.t 8)⟩,
    ⟨(some 37), none, .ca 17 [(.t 36)]⟩,
    ⟨(some 35), none, .mv (.t 37)⟩,
    ⟨(some 38), none, .ex (.t 35) 0⟩,
    ⟨(some 39), none, .ex (.t 35) 1⟩,
    ⟨(some 40), none, .ex (.t 35) 2⟩,
    ⟨(some 11), none, .mv (.t 38)⟩,
    ⟨(some 12), none, .mv (.t 39)⟩,
    ⟨(some 13), none, .mv (.t 40)⟩])
  (.sq (.sq (.rg [⟨(some 41), none, .mv (.t 12)⟩,
    ⟨(some 42), none, .nt (.t 41)⟩,
    ⟨(some 43), none, .mv (.t 42)⟩,
    ⟨(some 44), (some (43, false)), .mv (.t 8)⟩,
    ⟨(some 45), (some (43, false)), .mv (.t 9)⟩,
    ⟨(some 46), (some (43, false)), .mv (.t 11)⟩,
    ⟨(some 47), (some (43, false)), .bs 3 1 [(.int .i64 0)] [(0, 1, (.t 46))]⟩,
    ⟨(some 48), (some (43, false)), .ca 12 [(.t 44), (.t 45), (.t 47)]⟩,
    ⟨(some 49), (some (43, false)), .ib .neq (.t 48) (.c (.int .i64 0))⟩,
    ⟨(some 50), none, .pk (.t 43) (.c (.bool true)) (.t 49)⟩,
    ⟨(some 51), none, .mv (.t 50)⟩,
    ⟨(some 52), (some (51, false)), .mv (.t 7)⟩,
    ⟨(some 53), (some (51, false)), .nc (.t 52)⟩,
    ⟨(some 54), (some (51, false)), .fa (.t 53) 0⟩,
    ⟨(some 55), (some (51, false)), .ld (.t 54) 1 false⟩,
    ⟨(some 56), (some (51, false)), .mv (.t 9)⟩,
    ⟨(some 57), (some (51, false)), .mv (.t 10)⟩,
    ⟨(some 58), (some (51, false)), .ib .add (.t 56) (.t 57)⟩,
    ⟨(some 59), (some (51, false)), .cv .u64 (.t 58)⟩,
    ⟨(some 60), (some (51, false)), .ca 18 [(.t 55), (.c (.int .i64 2)), (.t 59)]⟩,
    ⟨(some 61), (some (51, false)), .ib .neq (.t 60) (.c (.int .i64 0))⟩,
    ⟨(some 62), none, .pk (.t 51) (.c (.bool true)) (.t 61)⟩])
  (.cd (.t 62)
  (.sq (.rg [⟨(some 4), none, .mv (.c (.bool false))⟩])
  .rt)
  .sk))
  (.sq (.rg [⟨(some 64), none, .mv (.t 8)⟩,
    ⟨(some 65), none, .ca 17 [(.t 64)]⟩,
    ⟨(some 63), none, .mv (.t 65)⟩,
    ⟨(some 66), none, .ex (.t 63) 0⟩,
    ⟨(some 67), none, .ex (.t 63) 1⟩,
    ⟨(some 68), none, .ex (.t 63) 2⟩,
    ⟨(some 14), none, .mv (.t 66)⟩,
    ⟨(some 15), none, .mv (.t 67)⟩,
    ⟨(some 16), none, .mv (.t 68)⟩])
  (.sq (.sq (.rg [⟨(some 69), none, .mv (.t 15)⟩,
    ⟨(some 70), none, .nt (.t 69)⟩])
  (.cd (.t 70)
  (.sq (.rg [⟨(some 4), none, .mv (.c (.bool false))⟩])
  .rt)
  .sk))
  (.sq (.sq (.rg [⟨(some 71), none, .mv (.t 10)⟩,
    ⟨(some 72), none, .ib .lss (.t 71) (.c (.int .i64 2))⟩])
  (.cd (.t 72)
  (.sq (.rg [⟨(some 73), none, .mv (.t 5)⟩,
    ⟨(some 74), none, .mv (.t 73)⟩,
    ⟨(some 75), (some (74, true)), .mv (.t 14)⟩,
    ⟨(some 76), (some (74, true)), .mv (.t 11)⟩,
    ⟨(some 77), (some (74, true)), .ib .neq (.t 75) (.t 76)⟩,
    ⟨(some 78), none, .pk (.t 74) (.t 77) (.c (.bool false))⟩,
    ⟨(some 79), none, .mv (.t 78)⟩,
    ⟨(some 80), (some (79, true)), .mv (.t 16)⟩,
    ⟨(some 81), (some (79, true)), .ib .eql (.t 80) (.c (.int .i64 4))⟩,
    ⟨(some 82), none, .pk (.t 79) (.t 81) (.c (.bool false))⟩,
    ⟨(some 83), none, .mv (.t 82)⟩,
    ⟨(some 84), (some (83, true)), .mv (.t 8)⟩,
    ⟨(some 85), (some (83, true)), .ca 14 [(.t 84)]⟩,
    ⟨(some 86), (some (83, true)), .len (.t 85)⟩,
    ⟨(some 87), (some (83, true)), .ib .eql (.t 86) (.c (.int .i64 0))⟩,
    ⟨(some 88), none, .pk (.t 83) (.t 87) (.c (.bool false))⟩,
    ⟨(some 4), none, .mv (.t 88)⟩])
  .rt)
  .sk))
  (.sq (.rg [⟨(some 89), none, .mv (.t 5)⟩,
    ⟨(some 90), none, .mv (.t 89)⟩,
    ⟨(some 91), (some (90, true)), .mv (.t 14)⟩,
    ⟨(some 92), (some (90, true)), .mv (.t 11)⟩,
    ⟨(some 93), (some (90, true)), .ib .eql (.t 91) (.t 92)⟩,
    ⟨(some 94), none, .pk (.t 90) (.t 93) (.c (.bool false))⟩,
    ⟨(some 95), none, .mv (.t 94)⟩,
    ⟨(some 96), (some (95, true)), .mv (.t 16)⟩,
    ⟨(some 97), (some (95, true)), .ib .eql (.t 96) (.c (.int .i64 1))⟩,
    ⟨(some 98), none, .pk (.t 95) (.t 97) (.c (.bool false))⟩,
    ⟨(some 99), none, .mv (.t 98)⟩,
    ⟨(some 100), (some (99, true)), .mv (.t 7)⟩,
    ⟨(some 101), (some (99, true)), .nc (.t 100)⟩,
    ⟨(some 102), (some (99, true)), .fa (.t 101) 1⟩,
    ⟨(some 103), (some (99, true)), .ld (.t 102) 1 false⟩,
    ⟨(some 104), (some (99, true)), .ca 19 [(.t 103)]⟩,
    ⟨(some 105), (some (99, true)), .len (.t 104)⟩,
    ⟨(some 106), (some (99, true)), .ib .eql (.t 105) (.c (.int .i64 2))⟩,
    ⟨(some 107), none, .pk (.t 99) (.t 106) (.c (.bool false))⟩,
    ⟨(some 4), none, .mv (.t 107)⟩])
  .rt)))))))))))))))⟩
theorem k4 : cF Try.prog Try.f4 = some c4 := by kernel_rfl
/-- rundale/rundalelaw13.first -/
def c5 : Fu := ⟨70, [.t 0],
  (.sq (.rg [⟨(some 0), none, .mv (.c (.bool false))⟩])
  (.sq (.rg [⟨(some 10), none, .ca 7 [(.c (.int .i64 100))]⟩,
    ⟨(some 9), none, .mv (.t 10)⟩,
    ⟨(some 11), none, .ex (.t 9) 0⟩,
    ⟨(some 12), none, .ex (.t 9) 1⟩,
    ⟨(some 1), none, .mv (.t 11)⟩,
    ⟨(some 2), none, .mv (.t 12)⟩])
  (.sq (.rg [⟨(some 13), none, .bd [(.int .i64 0), (.int .i64 0), (.int .i64 0), (.int .i64 0), (.int .i64 0), (.int .i64 0)] [(0, 1, (.c (.int .i64 1))), (1, 1, (.c (.int .i64 2))), (2, 1, (.c (.int .i64 8))), (3, 1, (.c (.int .i64 1))), (5, 1, (.c (.int .i64 1)))]⟩,
    ⟨(some 3), none, .al 24 [(.int .i64 0), (.int .i64 0), (.int .i64 0), (.int .i64 0), (.int .i64 0), (.int .i64 0)]⟩,
    ⟨none, none, .st (.t 3) (.t 13) 6⟩])
  (.sq (.sq (.rg [⟨(some 14), none, .mv (.t 1)⟩,
    ⟨(some 15), none, .en 0 false (.t 14) (.c (.pointer none))⟩,
    ⟨(some 16), none, .mv (.t 15)⟩,
    ⟨(some 17), (some (16, false)), .mv (.t 2)⟩,
    ⟨(some 18), (some (16, false)), .ib .neq (.t 17) (.c (.int .i64 0))⟩,
    ⟨(some 19), none, .pk (.t 16) (.c (.bool true)) (.t 18)⟩])
  (.cd (.t 19)
  (.sq (.rg [⟨(some 0), none, .mv (.c (.bool false))⟩])
  .rt)
  .sk))
  (.sq (.rg [⟨(some 21), none, .mv (.t 1)⟩,
    ⟨(some 22), none, .ld (.t 3) 6 true⟩,
    ⟨(some 23), none, .ca 11 [(.t 21), (.t 22)]⟩,
    ⟨(some 20), none, .mv (.t 23)⟩,
    ⟨(some 24), none, .ex (.t 20) 0⟩,
    ⟨(some 25), none, .ex (.t 20) 1⟩,
    ⟨(some 4), none, .mv (.t 24)⟩,
    ⟨(some 5), none, .mv (.t 25)⟩])
  (.sq (.sq (.rg [⟨(some 26), none, .mv (.t 4)⟩,
    ⟨(some 27), none, .en 0 false (.t 26) (.c (.pointer none))⟩,
    ⟨(some 28), none, .mv (.t 27)⟩,
    ⟨(some 29), (some (28, false)), .mv (.t 5)⟩,
    ⟨(some 30), (some (28, false)), .ib .neq (.t 29) (.c (.int .i64 0))⟩,
    ⟨(some 31), none, .pk (.t 28) (.c (.bool true)) (.t 30)⟩])
  (.cd (.t 31)
  (.sq (.rg [⟨(some 0), none, .mv (.c (.bool false))⟩])
  .rt)
  .sk))
  (.sq (.rg [⟨(some 32), none, .mv (.t 4)⟩,
    ⟨(some 33), none, .ca 20 [(.t 32)]⟩,
    ⟨(some 6), none, .mv (.t 33)⟩])
  (.sq (.sq (.rg [⟨(some 34), none, .mv (.t 6)⟩,
    ⟨(some 35), none, .en 0 false (.t 34) (.c (.pointer none))⟩,
    ⟨(some 36), none, .mv (.t 35)⟩,
    ⟨(some 37), (some (36, false)), .mv (.t 6)⟩,
    ⟨(some 38), (some (36, false)), .ca 21 [(.t 37)]⟩,
    ⟨(some 39), none, .pk (.t 36) (.c (.bool true)) (.t 38)⟩,
    ⟨(some 40), none, .mv (.t 39)⟩,
    ⟨(some 41), (some (40, false)), .mv (.t 6)⟩,
    ⟨(some 42), (some (40, false)), .ca 22 [(.t 41)]⟩,
    ⟨(some 43), (some (40, false)), .nt (.t 42)⟩,
    ⟨(some 44), none, .pk (.t 40) (.c (.bool true)) (.t 43)⟩])
  (.cd (.t 44)
  (.sq (.rg [⟨(some 0), none, .mv (.c (.bool false))⟩])
  .rt)
  .sk))
  (.sq (.rg [⟨(some 46), none, .mv (.t 6)⟩,
    ⟨(some 47), none, .ca 23 [(.t 46)]⟩,
    ⟨(some 45), none, .mv (.t 47)⟩,
    ⟨(some 48), none, .ex (.t 45) 0⟩,
    ⟨(some 49), none, .ex (.t 45) 1⟩,
    ⟨(some 7), none, .mv (.t 48)⟩,
    ⟨(some 8), none, .mv (.t 49)⟩])
  (.sq (.rg [⟨(some 50), none, .mv (.t 6)⟩,
    ⟨(some 51), none, .ca 21 [(.t 50)]⟩,
    ⟨(some 52), none, .mv (.t 51)⟩,
    ⟨(some 53), (some (52, true)), .mv (.t 7)⟩,
    ⟨(some 54), (some (52, true)), .ib .eql (.t 53) (.c (.int .i64 0))⟩,
    ⟨(some 55), none, .pk (.t 52) (.t 54) (.c (.bool false))⟩,
    ⟨(some 56), none, .mv (.t 55)⟩,
    ⟨(some 57), (some (56, true)), .mv (.t 8)⟩,
    ⟨(some 58), (some (56, true)), .nt (.t 57)⟩,
    ⟨(some 59), none, .pk (.t 56) (.t 58) (.c (.bool false))⟩,
    ⟨(some 60), none, .mv (.t 59)⟩,
    ⟨(some 61), (some (60, true)), .mv (.t 6)⟩,
    ⟨(some 62), (some (60, true)), .ca 24 [(.t 61)]⟩,
    ⟨(some 63), (some (60, true)), .ib .eql (.t 62) (.c (.int .i64 (-1)))⟩,
    ⟨(some 64), none, .pk (.t 60) (.t 63) (.c (.bool false))⟩,
    ⟨(some 65), none, .mv (.t 64)⟩,
    ⟨(some 66), (some (65, true)), .mv (.t 1)⟩,
    ⟨(some 67), (some (65, true)), .ca 15 [(.t 66)]⟩,
    ⟨(some 68), (some (65, true)), .ib .eql (.t 67) (.c (.int .i64 1))⟩,
    ⟨(some 69), none, .pk (.t 65) (.t 68) (.c (.bool false))⟩,
    ⟨(some 0), none, .mv (.t 69)⟩])
  .rt))))))))))⟩
theorem k5 : cF Try.prog Try.f5 = some c5 := by kernel_rfl
/-- rundale/rundalemake.Config -/
def c6 : Fu := ⟨43, [.c 2 6 true],
  (.sq (.rg [⟨(some 2), none, .al 24 [(.int .i64 0), (.int .i64 0), (.int .i64 0), (.int .i64 0), (.int .i64 0), (.int .i64 0)]⟩])
  (.sq (.rg [⟨(some 4), none, .mv (.t 0)⟩,
    ⟨(some 5), none, .ca 8 [(.t 4), (.c (.int .i64 4))]⟩,
    ⟨(some 6), none, .mv (.t 0)⟩,
    ⟨(some 7), none, .ib .quo (.t 6) (.c (.int .i64 4))⟩,
    ⟨(some 8), none, .ca 8 [(.t 7), (.c (.int .i64 8))]⟩,
    ⟨(some 9), none, .mv (.t 0)⟩,
    ⟨(some 10), none, .ib .quo (.t 9) (.c (.int .i64 32))⟩,
    ⟨(some 11), none, .ca 8 [(.t 10), (.c (.int .i64 2))]⟩,
    ⟨(some 12), none, .mv (.t 0)⟩,
    ⟨(some 13), none, .ib .quo (.t 12) (.c (.int .i64 64))⟩,
    ⟨(some 14), none, .ca 8 [(.t 13), (.c (.int .i64 4))]⟩,
    ⟨(some 15), none, .mv (.t 0)⟩,
    ⟨(some 16), none, .ib .quo (.t 15) (.c (.int .i64 256))⟩,
    ⟨(some 17), none, .ca 8 [(.t 16), (.c (.int .i64 4))]⟩,
    ⟨(some 18), none, .mv (.t 0)⟩,
    ⟨(some 19), none, .ib .quo (.t 18) (.c (.int .i64 1024))⟩,
    ⟨(some 20), none, .ca 8 [(.t 19), (.c (.int .i64 3))]⟩,
    ⟨(some 21), none, .bs 3 6 [(.int .i64 0), (.int .i64 0), (.int .i64 0), (.int .i64 0), (.int .i64 0), (.int .i64 0)] [(0, 1, (.t 5)), (1, 1, (.t 8)), (2, 1, (.t 11)), (3, 1, (.t 14)), (4, 1, (.t 17)), (5, 1, (.t 20))]⟩,
    ⟨(some 22), none, .bd [(.slice none 0 0), (.int .i64 0)] [(0, 1, (.t 21))]⟩,
    ⟨(some 23), none, .bx 62 (.t 22)⟩,
    ⟨(some 3), none, .mv (.t 23)⟩])
  (.sq (.rg [⟨(some 24), none, .mv (.t 3)⟩,
    ⟨(some 25), none, .ca 25 [(.t 24), (.c (.int .i64 4))]⟩,
    ⟨(some 26), none, .ib .add (.c (.int .i64 1)) (.t 25)⟩,
    ⟨(some 27), none, .mv (.t 3)⟩,
    ⟨(some 28), none, .ca 25 [(.t 27), (.c (.int .i64 8))]⟩,
    ⟨(some 29), none, .ib .add (.c (.int .i64 1)) (.t 28)⟩,
    ⟨(some 30), none, .mv (.t 3)⟩,
    ⟨(some 31), none, .ca 25 [(.t 30), (.c (.int .i64 2))]⟩,
    ⟨(some 32), none, .ib .mul (.c (.int .i64 8)) (.t 31)⟩,
    ⟨(some 33), none, .ib .add (.c (.int .i64 8)) (.t 32)⟩,
    ⟨(some 34), none, .mv (.t 3)⟩,
    ⟨(some 35), none, .ca 25 [(.t 34), (.c (.int .i64 4))]⟩,
    ⟨(some 36), none, .ib .add (.c (.int .i64 1)) (.t 35)⟩,
    ⟨(some 37), none, .mv (.t 3)⟩,
    ⟨(some 38), none, .ca 25 [(.t 37), (.c (.int .i64 4))]⟩,
    ⟨(some 39), none, .mv (.t 3)⟩,
    ⟨(some 40), none, .ca 25 [(.t 39), (.c (.int .i64 3))]⟩,
    ⟨(some 41), none, .ib .add (.c (.int .i64 1)) (.t 40)⟩,
    ⟨(some 42), none, .bd [(.int .i64 0), (.int .i64 0), (.int .i64 0), (.int .i64 0), (.int .i64 0), (.int .i64 0)] [(0, 1, (.t 26)), (1, 1, (.t 29)), (2, 1, (.t 33)), (3, 1, (.t 36)), (4, 1, (.t 38)), (5, 1, (.t 41))]⟩,
    ⟨none, none, .st (.t 2) (.t 42) 6⟩])
  .rt)))⟩
theorem k6 : cF Try.prog Try.f6 = some c6 := by kernel_rfl
/-- rundale/cells.New -/
def c7 : Fu := ⟨14, [.t 2, .t 3],
  (.sq (.rg [⟨(some 2), none, .mv (.c (.pointer none))⟩,
    ⟨(some 3), none, .mv (.c (.int .i64 0))⟩])
  (.sq (.sq (.rg [⟨(some 4), none, .mv (.t 0)⟩,
    ⟨(some 5), none, .ib .lss (.t 4) (.c (.int .i64 1))⟩,
    ⟨(some 6), none, .mv (.t 5)⟩,
    ⟨(some 7), (some (6, false)), .mv (.t 0)⟩,
    ⟨(some 8), (some (6, false)), .ib .gtr (.t 7) (.c (.int .i64 8388608))⟩,
    ⟨(some 9), none, .pk (.t 6) (.c (.bool true)) (.t 8)⟩])
  (.cd (.t 9)
  (.sq (.rg [⟨(some 2), none, .mv (.c (.pointer none))⟩,
    ⟨(some 3), none, .mv (.c (.int .i64 1))⟩])
  .rt)
  .sk))
  (.sq (.rg [⟨(some 10), none, .mv (.t 0)⟩,
    ⟨(some 11), none, .mk 54 1 8 [(.int .u64 0)] (.t 10) (.t 10)⟩,
    ⟨(some 12), none, .bd [(.slice none 0 0), (.int .i64 0), (.int .i64 0), (.int .i64 0), (.int .u64 0), (.int .u64 0), (.bool false)] [(0, 1, (.t 11))]⟩,
    ⟨(some 13), none, .bx 67 (.t 12)⟩,
    ⟨(some 2), none, .mv (.t 13)⟩,
    ⟨(some 3), none, .mv (.c (.int .i64 0))⟩])
  .rt)))⟩
theorem k7 : cF Try.prog Try.f7 = some c7 := by kernel_rfl
/-- rundale/rundalemake.Number -/
def c8 : Fu := ⟨15, [.t 4],
  (.sq (.rg [⟨(some 4), none, .mv (.c (.int .i64 0))⟩])
  (.sq (.rg [⟨(some 6), none, .mv (.t 0)⟩,
    ⟨(some 7), none, .mv (.t 1)⟩,
    ⟨(some 8), none, .ib .rem (.t 6) (.t 7)⟩,
    ⟨(some 5), none, .mv (.t 8)⟩])
  (.sq (.sq (.rg [⟨(some 9), none, .mv (.t 5)⟩,
    ⟨(some 10), none, .ib .lss (.t 9) (.c (.int .i64 0))⟩])
  (.cd (.t 10)
  (.rg [⟨(some 11), none, .mv (.t 5)⟩,
    ⟨(some 12), none, .mv (.t 1)⟩,
    ⟨(some 13), none, .ib .add (.t 11) (.t 12)⟩,
    ⟨(some 5), none, .mv (.t 13)⟩])
  .sk))
  (.sq (.rg [⟨(some 14), none, .mv (.t 5)⟩,
    ⟨(some 4), none, .mv (.t 14)⟩])
  .rt))))⟩
theorem k8 : cF Try.prog Try.f8 = some c8 := by kernel_rfl
/-- rundale/lay.Len -/
def c9 : Fu := ⟨17, [.t 2],
  (.sq (.rg [⟨(some 1), none, .bx 24 (.t 0)⟩,
    ⟨(some 2), none, .mv (.c (.int .i64 0))⟩])
  (.sq (.sq (.rg [⟨(some 5), none, .ld (.t 1) 6 true⟩,
    ⟨(some 6), none, .ca 26 [(.t 5)]⟩,
    ⟨(some 7), none, .nt (.t 6)⟩])
  (.cd (.t 7)
  (.sq (.rg [⟨(some 2), none, .mv (.c (.int .i64 0))⟩])
  .rt)
  .sk))
  (.sq (.rg [⟨(some 8), none, .ld (.t 1) 6 true⟩,
    ⟨(some 9), none, .ca 27 [(.t 8)]⟩,
    ⟨(some 3), none, .al 71 [(.int .i64 0), (.int .i64 0), (.int .i64 0), (.int .i64 0), (.int .i64 0), (.int .i64 0), (.int .i64 0), (.int .i64 0), (.int .i64 0), (.int .i64 0), (.int .i64 0), (.int .i64 0), (.int .i64 0), (.int .i64 0), (.int .i64 0)]⟩,
    ⟨none, none, .st (.t 3) (.t 9) 15⟩])
  (.sq (.rg [⟨(some 10), none, .iaa (.t 3) (.c (.int .i64 4)) 5 3⟩,
    ⟨(some 11), none, .ld (.t 10) 3 true⟩,
    ⟨(some 4), none, .al 70 [(.int .i64 0), (.int .i64 0), (.int .i64 0)]⟩,
    ⟨none, none, .st (.t 4) (.t 11) 3⟩])
  (.sq (.rg [⟨(some 12), none, .fa (.t 4) 1⟩,
    ⟨(some 13), none, .ld (.t 12) 1 false⟩,
    ⟨(some 14), none, .fa (.t 4) 2⟩,
    ⟨(some 15), none, .ld (.t 14) 1 false⟩,
    ⟨(some 16), none, .ib .add (.t 13) (.t 15)⟩,
    ⟨(some 2), none, .mv (.t 16)⟩])
  .rt)))))⟩
theorem k9 : cF Try.prog Try.f9 = some c9 := by kernel_rfl
/-- rundale/rundalelaw13.made -/
def c10 : Fu := ⟨125, [.t 4],
  (.sq (.rg [⟨(some 2), none, .bx 24 (.t 0)⟩,
    ⟨(some 4), none, .mv (.c (.pointer none))⟩])
  (.sq (.rg [⟨(some 15), none, .ld (.t 2) 6 true⟩,
    ⟨(some 16), none, .ca 9 [(.t 15)]⟩,
    ⟨(some 17), none, .ca 7 [(.t 16)]⟩,
    ⟨(some 14), none, .mv (.t 17)⟩,
    ⟨(some 18), none, .ex (.t 14) 0⟩,
    ⟨(some 19), none, .ex (.t 14) 1⟩,
    ⟨(some 5), none, .mv (.t 18)⟩,
    ⟨(some 6), none, .mv (.t 19)⟩])
  (.sq (.sq (.rg [⟨(some 20), none, .mv (.t 5)⟩,
    ⟨(some 21), none, .en 0 false (.t 20) (.c (.pointer none))⟩,
    ⟨(some 22), none, .mv (.t 21)⟩,
    ⟨(some 23), (some (22, false)), .mv (.t 6)⟩,
    ⟨(some 24), (some (22, false)), .ib .neq (.t 23) (.c (.int .i64 0))⟩,
    ⟨(some 25), none, .pk (.t 22) (.c (.bool true)) (.t 24)⟩])
  (.cd (.t 25)
  (.sq (.rg [⟨(some 4), none, .mv (.c (.pointer none))⟩])
  .rt)
  .sk))
  (.sq (.rg [⟨(some 27), none, .mv (.t 5)⟩,
    ⟨(some 28), none, .ld (.t 2) 6 true⟩,
    ⟨(some 29), none, .ca 28 [(.t 27), (.t 28)]⟩,
    ⟨(some 26), none, .mv (.t 29)⟩,
    ⟨(some 30), none, .ex (.t 26) 0⟩,
    ⟨(some 31), none, .ex (.t 26) 1⟩,
    ⟨(some 7), none, .mv (.t 30)⟩,
    ⟨(some 8), none, .mv (.t 31)⟩])
  (.sq (.sq (.rg [⟨(some 32), none, .mv (.t 7)⟩,
    ⟨(some 33), none, .en 0 false (.t 32) (.c (.pointer none))⟩,
    ⟨(some 34), none, .mv (.t 33)⟩,
    ⟨(some 35), (some (34, false)), .mv (.t 8)⟩,
    ⟨(some 36), (some (34, false)), .ib .neq (.t 35) (.c (.int .i64 0))⟩,
    ⟨(some 37), none, .pk (.t 34) (.c (.bool true)) (.t 36)⟩,
    ⟨(some 38), none, .mv (.t 37)⟩,
    ⟨(some 39), (some (38, false)), .mv (.t 7)⟩,
    ⟨(some 40), (some (38, false)), .ca 29 [(.t 39)]⟩,
    ⟨(some 41), (some (38, false)), .en 0 false (.t 40) (.c (.pointer none))⟩,
    ⟨(some 42), none, .pk (.t 38) (.c (.bool true)) (.t 41)⟩])
  (.cd (.t 42)
  (.sq (.rg [⟨(some 4), none, .mv (.c (.pointer none))⟩])
  .rt)
  .sk))
  (.sq (.rg [⟨(some 43), none, .mv (.t 7)⟩,
    ⟨(some 44), none, .ca 30 [(.t 43)]⟩])
  (.sq (.rd [⟨0, 0, [5], ⟨(some 45), none, .mv (.t 5)⟩⟩,
    ⟨1, 0, [7], ⟨(some 46), none, .mv (.t 7)⟩⟩,
    ⟨2, 2, [46], ⟨(some 47), none, .ca 29 [(.t 46)]⟩⟩,
    ⟨3, 0, [2], ⟨(some 48), none, .ld (.t 2) 6 true⟩⟩,
    ⟨4, 14, [48], ⟨(some 49), none, .ca 31 [(.t 48)]⟩⟩,
    ⟨5, 31, [45, 47, 49], ⟨(some 50), none, .bd [(.pointer none), (.pointer none), (.slice none 0 0), (.pointer none), (.slice none 0 0)] [(0, 1, (.t 45)), (1, 1, (.t 47)), (3, 1, (.t 49))]⟩⟩,
    ⟨6, 63, [50], ⟨(some 51), none, .bx 42 (.t 50)⟩⟩,
    ⟨7, 127, [51], ⟨(some 9), none, .mv (.t 51)⟩⟩])
  (.sq (.sq (.rg [⟨(some 10), none, .mv (.c (.int .i64 0))⟩])
  (.bl 0
  (.lp
  (.sq (.sq (.rg [⟨(some 52), none, .mv (.t 10)⟩,
    ⟨(some 53), none, .mv (.t 1)⟩,
    ⟨(some 54), none, .ib .lss (.t 52) (.t 53)⟩])
  (.cd (.t 54)
  .sk
  (.ex 0)))
  (.sq (.bl 1
  (.sq (.rg [⟨(some 58), none, .mv (.t 5)⟩,
    ⟨(some 59), none, .ld (.t 2) 6 true⟩,
    ⟨(some 60), none, .ca 11 [(.t 58), (.t 59)]⟩,
    ⟨(some 57), none, .mv (.t 60)⟩,
    ⟨(some 61), none, .ex (.t 57) 0⟩,
    ⟨(some 62), none, .ex (.t 57) 1⟩,
    ⟨(some 11), none, .mv (.t 61)⟩,
    ⟨(some 12), none, .mv (.t 62)⟩])
  (.sq (.sq (.rg [⟨(some 63), none, .mv (.t 11)⟩,
    ⟨(some 64), none, .en 0 false (.t 63) (.c (.pointer none))⟩,
    ⟨(some 65), none, .mv (.t 64)⟩,
    ⟨(some 66), (some (65, false)), .mv (.t 12)⟩,
    ⟨(some 67), (some (65, false)), .ib .neq (.t 66) (.c (.int .i64 0))⟩,
    ⟨(some 68), none, .pk (.t 65) (.c (.bool true)) (.t 67)⟩])
  (.cd (.t 68)
  (.sq (.rg [⟨(some 4), none, .mv (.c (.pointer none))⟩])
  .rt)
  .sk))
  (.sq (.rg [⟨(some 69), none, .mv (.t 9)⟩,
    ⟨(some 70), none, .mv (.t 9)⟩,
    ⟨(some 71), none, .nc (.t 70)⟩,
    ⟨(some 72), none, .fa (.t 71) 2⟩,
    ⟨(some 73), none, .ld (.t 72) 1 false⟩,
    ⟨(some 74), none, .mv (.t 11)⟩,
    ⟨(some 75), none, .bs 34 1 [(.pointer none)] [(0, 1, (.t 74))]⟩,
    ⟨(some 76), none, .ap 38 34 1 8 [(.pointer none)] (.t 73) (.t 75)⟩,
    ⟨(some 77), none, .nc (.t 69)⟩,
    ⟨(some 78), none, .fa (.t 77) 2⟩,
    ⟨none, none, .st (.t 78) (.t 76) 1⟩])
  (.rd [⟨0, 0, [9], ⟨(some 79), none, .mv (.t 9)⟩⟩,
    ⟨1, 0, [9], ⟨(some 80), none, .mv (.t 9)⟩⟩,
    ⟨2, 2, [80], ⟨(some 81), none, .nc (.t 80)⟩⟩,
    ⟨3, 6, [81], ⟨(some 82), none, .fa (.t 81) 4⟩⟩,
    ⟨4, 14, [82], ⟨(some 83), none, .ld (.t 82) 1 false⟩⟩,
    ⟨5, 0, [9], ⟨(some 84), none, .mv (.t 9)⟩⟩,
    ⟨6, 32, [84], ⟨(some 85), none, .nc (.t 84)⟩⟩,
    ⟨7, 96, [85], ⟨(some 86), none, .fa (.t 85) 3⟩⟩,
    ⟨8, 224, [86], ⟨(some 87), none, .ld (.t 86) 1 false⟩⟩,
    ⟨9, 480, [87], ⟨(some 88), none, .ca 32 [(.t 87)]⟩⟩,
    ⟨10, 992, [88], ⟨(some 89), none, .bs 78 1 [(.pointer none)] [(0, 1, (.t 88))]⟩⟩,
    ⟨11, 2046, [83, 89], ⟨(some 90), none, .ap 40 78 1 8 [(.pointer none)] (.t 83) (.t 89)⟩⟩,
    ⟨12, 4095, [79], ⟨(some 91), none, .nc (.t 79)⟩⟩,
    ⟨13, 8191, [91], ⟨(some 92), none, .fa (.t 91) 4⟩⟩,
    ⟨14, 16383, [92, 90], ⟨none, none, .st (.t 92) (.t 90) 1⟩⟩])))))
  (.rg [⟨(some 55), none, .mv (.t 10)⟩,
    ⟨(some 56), none, .ib .add (.t 55) (.c (.int .i64 1))⟩,
    ⟨(some 10), none, .mv (.t 56)⟩]))))))
  (.sq (.sq (.rg [⟨(some 13), none, .mv (.c (.int .i64 0))⟩])
  (.bl 2
  (.lp
  (.sq (.sq (.rg [⟨(some 93), none, .mv (.t 13)⟩,
    ⟨(some 94), none, .fa (.t 2) 3⟩,
    ⟨(some 95), none, .ld (.t 94) 1 false⟩,
    ⟨(some 96), none, .ib .lss (.t 93) (.t 95)⟩])
  (.cd (.t 96)
  .sk
  (.ex 2)))
  (.sq (.bl 3
  (.rd [⟨0, 0, [9], ⟨(some 99), none, .mv (.t 9)⟩⟩,
    ⟨1, 1, [99], ⟨(some 100), none, .nc (.t 99)⟩⟩,
    ⟨2, 3, [100], ⟨(some 101), none, .fa (.t 100) 3⟩⟩,
    ⟨3, 7, [101], ⟨(some 102), none, .ld (.t 101) 1 false⟩⟩,
    ⟨4, 15, [102], ⟨(some 103), none, .nc (.t 102)⟩⟩,
    ⟨5, 31, [103], ⟨(some 104), none, .fa (.t 103) 6⟩⟩,
    ⟨6, 63, [104], ⟨(some 105), none, .ld (.t 104) 1 false⟩⟩,
    ⟨7, 127, [105], ⟨(some 106), none, .nc (.t 105)⟩⟩,
    ⟨8, 255, [106], ⟨(some 107), none, .fa (.t 106) 0⟩⟩,
    ⟨9, 511, [107], ⟨(some 108), none, .ld (.t 107) 1 false⟩⟩,
    ⟨10, 0, [2], ⟨(some 109), none, .ld (.t 2) 6 true⟩⟩,
    ⟨11, 0, [13], ⟨(some 110), none, .mv (.t 13)⟩⟩,
    ⟨12, 3072, [109, 110], ⟨(some 111), none, .ca 33 [(.t 109), (.t 110)]⟩⟩,
    ⟨13, 8191, [108, 111], ⟨(some 112), none, .ia (.t 108) (.t 111) 1⟩⟩,
    ⟨14, 16383, [112], ⟨none, none, .st (.t 112) (.c (.int .u64 0)) 1⟩⟩]))
  (.rg [⟨(some 97), none, .mv (.t 13)⟩,
    ⟨(some 98), none, .ib .add (.t 97) (.c (.int .i64 1))⟩,
    ⟨(some 13), none, .mv (.t 98)⟩]))))))
  (.sq (.rg [⟨(some 113), none, .mv (.t 9)⟩,
    ⟨(some 114), none, .nc (.t 113)⟩,
    ⟨(some 115), none, .fa (.t 114) 3⟩,
    ⟨(some 116), none, .ld (.t 115) 1 false⟩,
    ⟨(some 117), none, .nc (.t 116)⟩,
    ⟨(some 118), none, .fa (.t 117) 6⟩,
    ⟨(some 119), none, .ld (.t 118) 1 false⟩,
    ⟨(some 120), none, .nc (.t 119)⟩,
    ⟨(some 121), none, .fa (.t 120) 0⟩,
    ⟨(some 122), none, .ld (.t 121) 1 false⟩,
    ⟨(some 123), none, .ia (.t 122) (.c (.int .i64 1)) 1⟩,
    ⟨none, none, .st (.t 123) (.c (.int .u64 0)) 1⟩])
  (.sq (.rg [⟨(some 124), none, .mv (.t 9)⟩,
    ⟨(some 4), none, .mv (.t 124)⟩])
  .rt)))))))))))⟩
theorem k10 : cF Try.prog Try.f10 = some c10 := by kernel_rfl
/-- rundale/supply.New -/
def c11 : Fu := ⟨27, [.t 4, .t 5],
  (.sq (.rg [⟨(some 3), none, .bx 24 (.t 1)⟩,
    ⟨(some 4), none, .mv (.c (.pointer none))⟩,
    ⟨(some 5), none, .mv (.c (.int .i64 0))⟩])
  (.sq (.rg [⟨(some 9), none, .mv (.t 0)⟩,
    ⟨(some 10), none, .ld (.t 3) 6 true⟩,
    ⟨(some 11), none, .ca 28 [(.t 9), (.t 10)]⟩,
    ⟨(some 8), none, .mv (.t 11)⟩,
    ⟨(some 12), none, .ex (.t 8) 0⟩,
    ⟨(some 13), none, .ex (.t 8) 1⟩,
    ⟨(some 6), none, .mv (.t 12)⟩,
    ⟨(some 7), none, .mv (.t 13)⟩])
  (.sq (.sq (.rg [⟨(some 14), none, .mv (.t 7)⟩,
    ⟨(some 15), none, .ib .neq (.t 14) (.c (.int .i64 0))⟩])
  (.cd (.t 15)
  (.sq (.rg [⟨(some 16), none, .mv (.t 7)⟩,
    ⟨(some 4), none, .mv (.c (.pointer none))⟩,
    ⟨(some 5), none, .mv (.t 16)⟩])
  .rt)
  .sk))
  (.sq (.rd [⟨0, 0, [0], ⟨(some 17), none, .mv (.t 0)⟩⟩,
    ⟨1, 0, [3], ⟨(some 18), none, .ld (.t 3) 6 true⟩⟩,
    ⟨2, 0, [6], ⟨(some 19), none, .mv (.t 6)⟩⟩,
    ⟨3, 4, [19], ⟨(some 20), none, .ca 29 [(.t 19)]⟩⟩,
    ⟨4, 0, [3], ⟨(some 21), none, .fa (.t 3) 4⟩⟩,
    ⟨5, 16, [21], ⟨(some 22), none, .ld (.t 21) 1 false⟩⟩,
    ⟨6, 60, [22], ⟨(some 23), none, .ca 34 [(.t 22)]⟩⟩,
    ⟨7, 124, [], ⟨(some 24), none, .ca 35 []⟩⟩,
    ⟨8, 255, [17, 18, 20, 23, 24], ⟨(some 25), none, .bd [(.pointer none), (.int .i64 0), (.int .i64 0), (.int .i64 0), (.int .i64 0), (.int .i64 0), (.int .i64 0), (.pointer none), (.pointer none), (.pointer none)] [(0, 1, (.t 17)), (1, 6, (.t 18)), (7, 1, (.t 20)), (8, 1, (.t 23)), (9, 1, (.t 24))]⟩⟩,
    ⟨9, 511, [25], ⟨(some 26), none, .bx 93 (.t 25)⟩⟩,
    ⟨10, 1023, [26], ⟨(some 4), none, .mv (.t 26)⟩⟩,
    ⟨11, 2047, [], ⟨(some 5), none, .mv (.c (.int .i64 0))⟩⟩])
  .rt))))⟩
theorem k11 : cF Try.prog Try.f11 = some c11 := by kernel_rfl
/-- (*rundale/supply.Supply).Retire -/
def c12 : Fu := ⟨26, [.t 6],
  (.sq (.rg [⟨(some 6), none, .mv (.c (.int .i64 0))⟩])
  (.sq (.rg [⟨(some 10), none, .mv (.t 0)⟩,
    ⟨(some 11), none, .nc (.t 10)⟩,
    ⟨(some 12), none, .fa (.t 11) 9⟩,
    ⟨(some 13), none, .ld (.t 12) 1 false⟩,
    ⟨(some 14), none, .mv (.t 1)⟩,
    ⟨(some 15), none, .mv (.t 2)⟩,
    ⟨(some 16), none, .ca 36 [(.t 13), (.t 14), (.t 15)]⟩,
    ⟨(some 9), none, .mv (.t 16)⟩,
    ⟨(some 17), none, .ex (.t 9) 0⟩,
    ⟨(some 18), none, .ex (.t 9) 1⟩,
    ⟨(some 7), none, .mv (.t 17)⟩,
    ⟨(some 8), none, .mv (.t 18)⟩])
  (.sq (.rg [⟨(some 19), none, .mv (.t 0)⟩,
    ⟨(some 20), none, .nc (.t 19)⟩,
    ⟨(some 21), none, .fa (.t 20) 8⟩,
    ⟨(some 22), none, .ld (.t 21) 1 false⟩,
    ⟨(some 23), none, .mv (.t 7)⟩,
    ⟨(some 24), none, .ca 37 [(.t 22), (.t 23)]⟩])
  (.sq (.rg [⟨(some 25), none, .mv (.t 8)⟩,
    ⟨(some 6), none, .mv (.t 25)⟩])
  .rt))))⟩
theorem k12 : cF Try.prog Try.f12 = some c12 := by kernel_rfl
/-- (*rundale/supply.Supply).Bucket -/
def c13 : Fu := ⟨14, [.t 4, .t 5],
  (.sq (.rg [⟨(some 4), none, .mv (.c (.int .i64 0))⟩,
    ⟨(some 5), none, .mv (.c (.slice none 0 0))⟩])
  (.sq (.rg [⟨(some 6), none, .mv (.t 0)⟩,
    ⟨(some 7), none, .nc (.t 6)⟩,
    ⟨(some 8), none, .fa (.t 7) 9⟩,
    ⟨(some 9), none, .ld (.t 8) 1 false⟩,
    ⟨(some 10), none, .mv (.t 1)⟩,
    ⟨(some 11), none, .ca 38 [(.t 9), (.t 10)]⟩,
    ⟨(some 12), none, .ex (.t 11) 0⟩,
    ⟨(some 13), none, .ex (.t 11) 1⟩,
    ⟨(some 4), none, .mv (.t 12)⟩,
    ⟨(some 5), none, .mv (.t 13)⟩])
  .rt))⟩
theorem k13 : cF Try.prog Try.f13 = some c13 := by kernel_rfl
/-- (*rundale/supply.Supply).Stash -/
def c14 : Fu := ⟨8, [.t 2],
  (.sq (.rg [⟨(some 2), none, .mv (.c (.slice none 0 0))⟩])
  (.sq (.rg [⟨(some 3), none, .mv (.t 0)⟩,
    ⟨(some 4), none, .nc (.t 3)⟩,
    ⟨(some 5), none, .fa (.t 4) 8⟩,
    ⟨(some 6), none, .ld (.t 5) 1 false⟩,
    ⟨(some 7), none, .ca 39 [(.t 6)]⟩,
    ⟨(some 2), none, .mv (.t 7)⟩])
  .rt))⟩
theorem k14 : cF Try.prog Try.f14 = some c14 := by kernel_rfl
/-- (*rundale/cells.Cells).Count -/
def c15 : Fu := ⟨7, [.t 2],
  (.sq (.rg [⟨(some 2), none, .mv (.c (.int .i64 0))⟩])
  (.sq (.rg [⟨(some 3), none, .mv (.t 0)⟩,
    ⟨(some 4), none, .nc (.t 3)⟩,
    ⟨(some 5), none, .fa (.t 4) 1⟩,
    ⟨(some 6), none, .ld (.t 5) 1 false⟩,
    ⟨(some 2), none, .mv (.t 6)⟩])
  .rt))⟩
theorem k15 : cF Try.prog Try.f15 = some c15 := by kernel_rfl
/-- (*rundale/supply.Supply).Ready -/
def c16 : Fu := ⟨20, [.t 4],
  (.sq (.rg [⟨(some 4), none, .mv (.c (.int .i64 0))⟩])
  (.sq (.rg [⟨(some 6), none, .mv (.t 0)⟩,
    ⟨(some 7), none, .nc (.t 6)⟩,
    ⟨(some 8), none, .fa (.t 7) 9⟩,
    ⟨(some 9), none, .ld (.t 8) 1 false⟩,
    ⟨(some 10), none, .mv (.t 1)⟩,
    ⟨(some 11), none, .ca 40 [(.t 9), (.t 10)]⟩,
    ⟨(some 5), none, .mv (.t 11)⟩])
  (.sq (.rg [⟨(some 12), none, .mv (.t 0)⟩,
    ⟨(some 13), none, .nc (.t 12)⟩,
    ⟨(some 14), none, .fa (.t 13) 8⟩,
    ⟨(some 15), none, .ld (.t 14) 1 false⟩,
    ⟨(some 16), none, .mv (.t 5)⟩,
    ⟨(some 17), none, .ca 37 [(.t 15), (.t 16)]⟩])
  (.sq (.rg [⟨(some 18), none, .mv (.t 5)⟩,
    ⟨(some 19), none, .len (.t 18)⟩,
    ⟨(some 4), none, .mv (.t 19)⟩])
  .rt))))⟩
theorem k16 : cF Try.prog Try.f16 = some c16 := by kernel_rfl
/-- rundale/rundalelaw13.take -/
def c17 : Fu := ⟨32, [.t 2, .t 3, .t 4],
  (.sq (.rg [⟨(some 2), none, .mv (.c (.int .i64 0))⟩,
    ⟨(some 3), none, .mv (.c (.bool false))⟩,
    ⟨(some 4), none, .mv (.c (.int .i64 0))⟩])
  (.sq (.rg [⟨(some 10), none, .mv (.t 0)⟩,
    ⟨(some 11), none, .ca 20 [(.t 10)]⟩,
    ⟨(some 5), none, .mv (.t 11)⟩])
  (.sq (.sq (.rg [⟨(some 12), none, .mv (.t 5)⟩,
    ⟨(some 13), none, .en 0 false (.t 12) (.c (.pointer none))⟩])
  (.cd (.t 13)
  (.sq (.rg [⟨(some 2), none, .mv (.c (.int .i64 0))⟩,
    ⟨(some 3), none, .mv (.c (.bool false))⟩,
    ⟨(some 4), none, .mv (.c (.int .i64 (-1)))⟩])
  .rt)
  .sk))
  (.sq (.rg [⟨(some 6), none, .mv (.c (.int .i64 0))⟩])
  (.sq (.sq (.rg [⟨(some 7), none, .mv (.c (.int .i64 0))⟩])
  (.bl 0
  (.lp
  (.sq (.sq (.rg [⟨(some 14), none, .mv (.t 7)⟩,
    ⟨(some 15), none, .ib .lss (.t 14) (.c (.int .i64 60))⟩,
    ⟨(some 16), none, .mv (.t 15)⟩,
    ⟨(some 17), (some (16, true)), .mv (.t 5)⟩,
    ⟨(some 18), (some (16, true)), .ca 22 [(.t 17)]⟩,
    ⟨(some 19), none, .pk (.t 16) (.t 18) (.c (.bool false))⟩])
  (.cd (.t 19)
  .sk
  (.ex 0)))
  (.sq (.bl 1
  (.rg [⟨(some 22), none, .mv (.t 6)⟩,
    ⟨(some 23), none, .ib .add (.t 22) (.c (.int .i64 1))⟩,
    ⟨(some 6), none, .mv (.t 23)⟩]))
  (.rg [⟨(some 20), none, .mv (.t 7)⟩,
    ⟨(some 21), none, .ib .add (.t 20) (.c (.int .i64 1))⟩,
    ⟨(some 7), none, .mv (.t 21)⟩]))))))
  (.sq (.rg [⟨(some 25), none, .mv (.t 5)⟩,
    ⟨(some 26), none, .ca 23 [(.t 25)]⟩,
    ⟨(some 24), none, .mv (.t 26)⟩,
    ⟨(some 27), none, .ex (.t 24) 0⟩,
    ⟨(some 28), none, .ex (.t 24) 1⟩,
    ⟨(some 8), none, .mv (.t 27)⟩,
    ⟨(some 9), none, .mv (.t 28)⟩])
  (.sq (.rg [⟨(some 29), none, .mv (.t 8)⟩,
    ⟨(some 30), none, .mv (.t 9)⟩,
    ⟨(some 31), none, .mv (.t 6)⟩,
    ⟨(some 2), none, .mv (.t 29)⟩,
    ⟨(some 3), none, .mv (.t 30)⟩,
    ⟨(some 4), none, .mv (.t 31)⟩])
  .rt)))))))⟩
theorem k17 : cF Try.prog Try.f17 = some c17 := by kernel_rfl
/-- (*rundale/cells.Cells).Lay -/
def c18 : Fu := ⟨18, [.t 6],
  (.sq (.rg [⟨(some 6), none, .mv (.c (.int .i64 0))⟩])
  (.sq (.sq (.rg [⟨(some 7), none, .mv (.t 0)⟩,
    ⟨(some 8), none, .mv (.t 1)⟩,
    ⟨(some 9), none, .ca 41 [(.t 7), (.t 8)]⟩,
    ⟨(some 10), none, .nt (.t 9)⟩])
  (.cd (.t 10)
  (.sq (.rg [⟨(some 6), none, .mv (.c (.int .i64 1))⟩])
  .rt)
  .sk))
  (.sq (.rg [⟨(some 11), none, .mv (.t 0)⟩,
    ⟨(some 12), none, .nc (.t 11)⟩,
    ⟨(some 13), none, .fa (.t 12) 0⟩,
    ⟨(some 14), none, .ld (.t 13) 1 false⟩,
    ⟨(some 15), none, .mv (.t 1)⟩,
    ⟨(some 16), none, .mv (.t 2)⟩,
    ⟨(some 17), none, .ia (.t 14) (.t 15) 1⟩,
    ⟨none, none, .st (.t 17) (.t 16) 1⟩])
  (.sq (.rg [⟨(some 6), none, .mv (.c (.int .i64 0))⟩])
  .rt))))⟩
theorem k18 : cF Try.prog Try.f18 = some c18 := by kernel_rfl
/-- (*rundale/stack.Stack).List -/
def c19 : Fu := ⟨45, [.t 2],
  (.sq (.rg [⟨(some 2), none, .mv (.c (.slice none 0 0))⟩])
  (.sq (.rg [⟨(some 3), none, .mv (.c (.slice none 0 0))⟩])
  (.sq (.sq (.rd [⟨0, 0, [0], ⟨(some 5), none, .mv (.t 0)⟩⟩,
    ⟨1, 0, [0], ⟨(some 6), none, .mv (.t 0)⟩⟩,
    ⟨2, 2, [6], ⟨(some 7), none, .nc (.t 6)⟩⟩,
    ⟨3, 6, [7], ⟨(some 8), none, .fa (.t 7) 0⟩⟩,
    ⟨4, 14, [8], ⟨(some 9), none, .ld (.t 8) 1 false⟩⟩,
    ⟨5, 0, [0], ⟨(some 10), none, .mv (.t 0)⟩⟩,
    ⟨6, 32, [10], ⟨(some 11), none, .nc (.t 10)⟩⟩,
    ⟨7, 96, [11], ⟨(some 12), none, .fa (.t 11) 1⟩⟩,
    ⟨8, 224, [12], ⟨(some 13), none, .ld (.t 12) 1 false⟩⟩,
    ⟨9, 510, [9, 13], ⟨(some 14), none, .ca 43 [(.t 9), (.t 13)]⟩⟩,
    ⟨10, 1023, [5, 14], ⟨(some 15), none, .ca 42 [(.t 5), (.t 14)]⟩⟩,
    ⟨11, 2047, [15], ⟨(some 4), none, .mv (.t 15)⟩⟩])
  (.bl 0
  (.lp
  (.sq (.sq (.rg [⟨(some 16), none, .mv (.t 4)⟩,
    ⟨(some 17), none, .ib .geq (.t 16) (.c (.int .i64 0))⟩,
    ⟨(some 18), none, .mv (.t 17)⟩,
    ⟨(some 19), (some (18, true)), .mv (.t 3)⟩,
    ⟨(some 20), (some (18, true)), .len (.t 19)⟩,
    ⟨(some 21), (some (18, true)), .mv (.t 0)⟩,
    ⟨(some 22), (some (18, true)), .nc (.t 21)⟩,
    ⟨(some 23), (some (18, true)), .fa (.t 22) 3⟩,
    ⟨(some 24), (some (18, true)), .ld (.t 23) 1 false⟩,
    ⟨(some 25), (some (18, true)), .ib .lss (.t 20) (.t 24)⟩,
    ⟨(some 26), none, .pk (.t 18) (.t 25) (.c (.bool false))⟩])
  (.cd (.t 26)
  .sk
  (.ex 0)))
  (.sq (.bl 1
  (.rg [⟨(some 40), none, .mv (.t 3)⟩,
    ⟨(some 41), none, .mv (.t 4)⟩,
    ⟨(some 42), none, .bs 3 1 [(.int .i64 0)] [(0, 1, (.t 41))]⟩,
    ⟨(some 43), none, .ap 44 3 1 8 [(.int .i64 0)] (.t 40) (.t 42)⟩,
    ⟨(some 3), none, .mv (.t 43)⟩]))
  (.rd [⟨0, 0, [0], ⟨(some 27), none, .mv (.t 0)⟩⟩,
    ⟨1, 0, [0], ⟨(some 28), none, .mv (.t 0)⟩⟩,
    ⟨2, 2, [28], ⟨(some 29), none, .nc (.t 28)⟩⟩,
    ⟨3, 6, [29], ⟨(some 30), none, .fa (.t 29) 0⟩⟩,
    ⟨4, 14, [30], ⟨(some 31), none, .ld (.t 30) 1 false⟩⟩,
    ⟨5, 0, [0], ⟨(some 32), none, .mv (.t 0)⟩⟩,
    ⟨6, 32, [32], ⟨(some 33), none, .nc (.t 32)⟩⟩,
    ⟨7, 96, [33], ⟨(some 34), none, .fa (.t 33) 2⟩⟩,
    ⟨8, 224, [34], ⟨(some 35), none, .ld (.t 34) 1 false⟩⟩,
    ⟨9, 0, [4], ⟨(some 36), none, .mv (.t 4)⟩⟩,
    ⟨10, 992, [35, 36], ⟨(some 37), none, .ib .add (.t 35) (.t 36)⟩⟩,
    ⟨11, 2046, [31, 37], ⟨(some 38), none, .ca 43 [(.t 31), (.t 37)]⟩⟩,
    ⟨12, 4095, [27, 38], ⟨(some 39), none, .ca 44 [(.t 27), (.t 38)]⟩⟩,
    ⟨13, 8191, [39], ⟨(some 4), none, .mv (.t 39)⟩⟩]))))))
  (.sq (.rg [⟨(some 44), none, .mv (.t 3)⟩,
    ⟨(some 2), none, .mv (.t 44)⟩])
  .rt))))⟩
theorem k19 : cF Try.prog Try.f19 = some c19 := by kernel_rfl
/-- (*rundale/supply.Supply).Take -/
def c20 : Fu := ⟨26, [.t 2],
  (.sq (.rg [⟨(some 2), none, .mv (.c (.pointer none))⟩])
  (.sq (.rg [⟨(some 4), none, .mv (.t 0)⟩,
    ⟨(some 5), none, .bd [.nilFunc, .nilFunc, .nilFunc, .nilFunc, (.int .i64 0), (.pointer none), (.pointer none), (.int .i64 0), (.int .i64 0), (.bool false)] [(5, 1, (.t 4)), (8, 1, (.c (.int .i64 (-1))))]⟩,
    ⟨(some 6), none, .bx 107 (.t 5)⟩,
    ⟨(some 3), none, .mv (.t 6)⟩])
  (.sq (.bl 0
  (.sq (.rg [⟨(some 10), none, .mv (.t 3)⟩,
    ⟨(some 11), none, .ca 45 [(.t 10)]⟩,
    ⟨(some 9), none, .mv (.t 11)⟩])
  (.cd (.t 9)
  .sk
  (.sq (.rg [⟨(some 13), none, .mv (.t 0)⟩,
    ⟨(some 14), none, .nc (.t 13)⟩,
    ⟨(some 15), none, .fa (.t 14) 9⟩,
    ⟨(some 16), none, .ld (.t 15) 1 false⟩,
    ⟨(some 17), none, .ca 46 [(.t 16)]⟩,
    ⟨(some 18), none, .ib .gtr (.t 17) (.c (.int .i64 0))⟩,
    ⟨(some 12), none, .mv (.t 18)⟩])
  (.cd (.t 12)
  (.rg [⟨(some 19), none, .mv (.t 3)⟩,
    ⟨(some 20), none, .nc (.t 19)⟩,
    ⟨(some 21), none, .fa (.t 20) 0⟩,
    ⟨(some 22), none, .mv (.t 3)⟩,
    ⟨(some 23), none, .mf (.func 48) [(.t 22)] []⟩,
    ⟨(some 24), none, .ca 47 [(.t 21), (.t 23)]⟩])
  (.rg [⟨(some 7), none, .mv (.t 3)⟩,
    ⟨(some 8), none, .ca 49 [(.t 7)]⟩]))))))
  (.sq (.rg [⟨(some 25), none, .mv (.t 3)⟩,
    ⟨(some 2), none, .mv (.t 25)⟩])
  .rt))))⟩
theorem k20 : cF Try.prog Try.f20 = some c20 := by kernel_rfl
/-- (*rundale/supply.Take).Done -/
def c21 : Fu := ⟨7, [.t 2],
  (.sq (.rg [⟨(some 2), none, .mv (.c (.bool false))⟩])
  (.sq (.rg [⟨(some 3), none, .mv (.t 0)⟩,
    ⟨(some 4), none, .nc (.t 3)⟩,
    ⟨(some 5), none, .fa (.t 4) 0⟩,
    ⟨(some 6), none, .ca 50 [(.t 5)]⟩,
    ⟨(some 2), none, .mv (.t 6)⟩])
  .rt))⟩
theorem k21 : cF Try.prog Try.f21 = some c21 := by kernel_rfl
/-- (*rundale/supply.Take).Step -/
def c22 : Fu := ⟨7, [.t 2],
  (.sq (.rg [⟨(some 2), none, .mv (.c (.bool false))⟩])
  (.sq (.rg [⟨(some 3), none, .mv (.t 0)⟩,
    ⟨(some 4), none, .nc (.t 3)⟩,
    ⟨(some 5), none, .fa (.t 4) 0⟩,
    ⟨(some 6), none, .ca 51 [(.t 5)]⟩,
    ⟨(some 2), none, .mv (.t 6)⟩])
  .rt))⟩
theorem k22 : cF Try.prog Try.f22 = some c22 := by kernel_rfl
/-- (*rundale/supply.Take).Chunk -/
def c23 : Fu := ⟨15, [.t 2, .t 3],
  (.sq (.rg [⟨(some 2), none, .mv (.c (.int .i64 0))⟩,
    ⟨(some 3), none, .mv (.c (.bool false))⟩])
  (.sq (.sq (.rg [⟨(some 4), none, .mv (.t 0)⟩,
    ⟨(some 5), none, .ca 21 [(.t 4)]⟩,
    ⟨(some 6), none, .nt (.t 5)⟩])
  (.cd (.t 6)
  (.sq (.rg [⟨(some 2), none, .mv (.c (.int .i64 0))⟩,
    ⟨(some 3), none, .mv (.c (.bool false))⟩])
  .rt)
  .sk))
  (.sq (.rd [⟨0, 0, [0], ⟨(some 7), none, .mv (.t 0)⟩⟩,
    ⟨1, 1, [7], ⟨(some 8), none, .nc (.t 7)⟩⟩,
    ⟨2, 3, [8], ⟨(some 9), none, .fa (.t 8) 7⟩⟩,
    ⟨3, 7, [9], ⟨(some 10), none, .ld (.t 9) 1 false⟩⟩,
    ⟨4, 0, [0], ⟨(some 11), none, .mv (.t 0)⟩⟩,
    ⟨5, 16, [11], ⟨(some 12), none, .nc (.t 11)⟩⟩,
    ⟨6, 48, [12], ⟨(some 13), none, .fa (.t 12) 9⟩⟩,
    ⟨7, 112, [13], ⟨(some 14), none, .ld (.t 13) 1 false⟩⟩,
    ⟨8, 15, [10], ⟨(some 2), none, .mv (.t 10)⟩⟩,
    ⟨9, 511, [14], ⟨(some 3), none, .mv (.t 14)⟩⟩])
  .rt)))⟩
theorem k23 : cF Try.prog Try.f23 = some c23 := by kernel_rfl
/-- (*rundale/supply.Take).Seen -/
def c24 : Fu := ⟨7, [.t 2],
  (.sq (.rg [⟨(some 2), none, .mv (.c (.int .i64 0))⟩])
  (.sq (.rg [⟨(some 3), none, .mv (.t 0)⟩,
    ⟨(some 4), none, .nc (.t 3)⟩,
    ⟨(some 5), none, .fa (.t 4) 8⟩,
    ⟨(some 6), none, .ld (.t 5) 1 false⟩,
    ⟨(some 2), none, .mv (.t 6)⟩])
  .rt))⟩
theorem k24 : cF Try.prog Try.f24 = some c24 := by kernel_rfl
/-- (*rundale/rundalemake.Seq).N -/
def c25 : Fu := ⟨36, [.t 4],
  (.sq (.rg [⟨(some 4), none, .mv (.c (.int .i64 0))⟩])
  (.sq (.rg [⟨(some 5), none, .mv (.c (.int .i64 0))⟩])
  (.sq (.sq (.rd [⟨0, 0, [0], ⟨(some 6), none, .mv (.t 0)⟩⟩,
    ⟨1, 1, [6], ⟨(some 7), none, .nc (.t 6)⟩⟩,
    ⟨2, 3, [7], ⟨(some 8), none, .fa (.t 7) 1⟩⟩,
    ⟨3, 7, [8], ⟨(some 9), none, .ld (.t 8) 1 false⟩⟩,
    ⟨4, 0, [0], ⟨(some 10), none, .mv (.t 0)⟩⟩,
    ⟨5, 16, [10], ⟨(some 11), none, .nc (.t 10)⟩⟩,
    ⟨6, 48, [11], ⟨(some 12), none, .fa (.t 11) 0⟩⟩,
    ⟨7, 112, [12], ⟨(some 13), none, .ld (.t 12) 1 false⟩⟩,
    ⟨8, 240, [13], ⟨(some 14), none, .len (.t 13)⟩⟩,
    ⟨9, 511, [9, 14], ⟨(some 15), none, .ib .lss (.t 9) (.t 14)⟩⟩])
  (.cd (.t 15)
  (.rd [⟨0, 0, [0], ⟨(some 16), none, .mv (.t 0)⟩⟩,
    ⟨1, 1, [16], ⟨(some 17), none, .nc (.t 16)⟩⟩,
    ⟨2, 3, [17], ⟨(some 18), none, .fa (.t 17) 0⟩⟩,
    ⟨3, 7, [18], ⟨(some 19), none, .ld (.t 18) 1 false⟩⟩,
    ⟨4, 0, [0], ⟨(some 20), none, .mv (.t 0)⟩⟩,
    ⟨5, 16, [20], ⟨(some 21), none, .nc (.t 20)⟩⟩,
    ⟨6, 48, [21], ⟨(some 22), none, .fa (.t 21) 1⟩⟩,
    ⟨7, 112, [22], ⟨(some 23), none, .ld (.t 22) 1 false⟩⟩,
    ⟨8, 255, [19, 23], ⟨(some 24), none, .ia (.t 19) (.t 23) 1⟩⟩,
    ⟨9, 511, [24], ⟨(some 25), none, .ld (.t 24) 1 false⟩⟩,
    ⟨10, 1023, [25], ⟨(some 5), none, .mv (.t 25)⟩⟩])
  .sk))
  (.sq (.rg [⟨(some 26), none, .mv (.t 0)⟩,
    ⟨(some 27), none, .nc (.t 26)⟩,
    ⟨(some 28), none, .fa (.t 27) 1⟩,
    ⟨(some 29), none, .ld (.t 28) 1 false⟩,
    ⟨(some 30), none, .ib .add (.t 29) (.c (.int .i64 1))⟩,
    ⟨(some 31), none, .nc (.t 26)⟩,
    ⟨(some 32), none, .fa (.t 31) 1⟩,
    ⟨none, none, .st (.t 32) (.t 30) 1⟩])
  (.sq (.rg [⟨(some 33), none, .mv (.t 5)⟩,
    ⟨(some 34), none, .mv (.t 1)⟩,
    ⟨(some 35), none, .ca 8 [(.t 33), (.t 34)]⟩,
    ⟨(some 4), none, .mv (.t 35)⟩])
  .rt)))))⟩
theorem k25 : cF Try.prog Try.f25 = some c25 := by kernel_rfl
/-- rundale/lay.May -/
def c26 : Fu := ⟨37, [.t 2],
  (.sq (.rg [⟨(some 1), none, .bx 24 (.t 0)⟩,
    ⟨(some 2), none, .mv (.c (.bool false))⟩])
  (.sq (.rg [⟨(some 3), none, .fa (.t 1) 0⟩,
    ⟨(some 4), none, .ld (.t 3) 1 false⟩,
    ⟨(some 5), none, .ca 52 [(.t 4), (.c (.int .i64 1)), (.c (.int .i64 64))]⟩,
    ⟨(some 6), none, .mv (.t 5)⟩,
    ⟨(some 7), (some (6, true)), .fa (.t 1) 1⟩,
    ⟨(some 8), (some (6, true)), .ld (.t 7) 1 false⟩,
    ⟨(some 9), (some (6, true)), .ca 52 [(.t 8), (.c (.int .i64 1)), (.c (.int .i64 4096))]⟩,
    ⟨(some 10), none, .pk (.t 6) (.t 9) (.c (.bool false))⟩,
    ⟨(some 11), none, .mv (.t 10)⟩,
    ⟨(some 12), (some (11, true)), .fa (.t 1) 2⟩,
    ⟨(some 13), (some (11, true)), .ld (.t 12) 1 false⟩,
    ⟨(some 14), (some (11, true)), .ca 52 [(.t 13), (.c (.int .i64 8)), (.c (.int .i64 1024))]⟩,
    ⟨(some 15), none, .pk (.t 11) (.t 14) (.c (.bool false))⟩,
    ⟨(some 16), none, .mv (.t 15)⟩,
    ⟨(some 17), (some (16, true)), .fa (.t 1) 2⟩,
    ⟨(some 18), (some (16, true)), .ld (.t 17) 1 false⟩,
    ⟨(some 19), (some (16, true)), .ib .rem (.t 18) (.c (.int .i64 8))⟩,
    ⟨(some 20), (some (16, true)), .ib .eql (.t 19) (.c (.int .i64 0))⟩,
    ⟨(some 21), none, .pk (.t 16) (.t 20) (.c (.bool false))⟩,
    ⟨(some 22), none, .mv (.t 21)⟩,
    ⟨(some 23), (some (22, true)), .fa (.t 1) 3⟩,
    ⟨(some 24), (some (22, true)), .ld (.t 23) 1 false⟩,
    ⟨(some 25), (some (22, true)), .ca 52 [(.t 24), (.c (.int .i64 1)), (.c (.int .i64 4096))]⟩,
    ⟨(some 26), none, .pk (.t 22) (.t 25) (.c (.bool false))⟩,
    ⟨(some 27), none, .mv (.t 26)⟩,
    ⟨(some 28), (some (27, true)), .fa (.t 1) 4⟩,
    ⟨(some 29), (some (27, true)), .ld (.t 28) 1 false⟩,
    ⟨(some 30), (some (27, true)), .ca 52 [(.t 29), (.c (.int .i64 0)), (.c (.int .i64 64))]⟩,
    ⟨(some 31), none, .pk (.t 27) (.t 30) (.c (.bool false))⟩,
    ⟨(some 32), none, .mv (.t 31)⟩,
    ⟨(some 33), (some (32, true)), .fa (.t 1) 5⟩,
    ⟨(some 34), (some (32, true)), .ld (.t 33) 1 false⟩,
    ⟨(some 35), (some (32, true)), .ca 52 [(.t 34), (.c (.int .i64 1)), (.c (.int .i64 8))]⟩,
    ⟨(some 36), none, .pk (.t 32) (.t 35) (.c (.bool false))⟩,
    ⟨(some 2), none, .mv (.t 36)⟩])
  .rt))⟩
theorem k26 : cF Try.prog Try.f26 = some c26 := by kernel_rfl
/-- rundale/lay.parts -/
def c27 : Fu := ⟨40, [.c 2 15 true],
  (.sq (.rg [⟨(some 1), none, .bx 24 (.t 0)⟩,
    ⟨(some 2), none, .al 71 [(.int .i64 0), (.int .i64 0), (.int .i64 0), (.int .i64 0), (.int .i64 0), (.int .i64 0), (.int .i64 0), (.int .i64 0), (.int .i64 0), (.int .i64 0), (.int .i64 0), (.int .i64 0), (.int .i64 0), (.int .i64 0), (.int .i64 0)]⟩])
  (.sq (.rg [⟨(some 6), none, .fa (.t 1) 0⟩,
    ⟨(some 7), none, .ld (.t 6) 1 false⟩,
    ⟨(some 8), none, .bd [(.int .i64 0), (.int .i64 0), (.int .i64 0)] [(0, 1, (.c (.int .i64 3))), (2, 1, (.t 7))]⟩,
    ⟨(some 9), none, .fa (.t 1) 3⟩,
    ⟨(some 10), none, .ld (.t 9) 1 false⟩,
    ⟨(some 11), none, .bd [(.int .i64 0), (.int .i64 0), (.int .i64 0)] [(0, 1, (.c (.int .i64 4))), (2, 1, (.t 10))]⟩,
    ⟨(some 12), none, .fa (.t 1) 3⟩,
    ⟨(some 13), none, .ld (.t 12) 1 false⟩,
    ⟨(some 14), none, .bd [(.int .i64 0), (.int .i64 0), (.int .i64 0)] [(0, 1, (.c (.int .i64 5))), (2, 1, (.t 13))]⟩,
    ⟨(some 15), none, .fa (.t 1) 1⟩,
    ⟨(some 16), none, .ld (.t 15) 1 false⟩,
    ⟨(some 17), none, .bd [(.int .i64 0), (.int .i64 0), (.int .i64 0)] [(0, 1, (.c (.int .i64 6))), (2, 1, (.t 16))]⟩,
    ⟨(some 18), none, .fa (.t 1) 1⟩,
    ⟨(some 19), none, .ld (.t 18) 1 false⟩,
    ⟨(some 20), none, .fa (.t 1) 2⟩,
    ⟨(some 21), none, .ld (.t 20) 1 false⟩,
    ⟨(some 22), none, .ib .mul (.t 19) (.t 21)⟩,
    ⟨(some 23), none, .bd [(.int .i64 0), (.int .i64 0), (.int .i64 0)] [(0, 1, (.c (.int .i64 7))), (2, 1, (.t 22))]⟩,
    ⟨(some 24), none, .bd [(.int .i64 0), (.int .i64 0), (.int .i64 0), (.int .i64 0), (.int .i64 0), (.int .i64 0), (.int .i64 0), (.int .i64 0), (.int .i64 0), (.int .i64 0), (.int .i64 0), (.int .i64 0), (.int .i64 0), (.int .i64 0), (.int .i64 0)] [(0, 3, (.t 8)), (3, 3, (.t 11)), (6, 3, (.t 14)), (9, 3, (.t 17)), (12, 3, (.t 23))]⟩,
    ⟨(some 3), none, .al 71 [(.int .i64 0), (.int .i64 0), (.int .i64 0), (.int .i64 0), (.int .i64 0), (.int .i64 0), (.int .i64 0), (.int .i64 0), (.int .i64 0), (.int .i64 0), (.int .i64 0), (.int .i64 0), (.int .i64 0), (.int .i64 0), (.int .i64 0)]⟩,
    ⟨none, none, .st (.t 3) (.t 24) 15⟩])
  (.sq (.rg [⟨(some 4), none, .mv (.c (.int .i64 3))⟩])
  (.sq (.sq (.rg [⟨(some 25), none, .mv (.c (.int .i64 0))⟩])
  (.bl 0
  (.lp
  (.sq (.rg [⟨(some 26), none, .ib .lss (.t 25) (.c (.int .i64 5))⟩])
  (.sq (.cd (.t 26)
  .sk
  (.ex 0))
  (.sq (.bl 1
  (.sq (.rg [⟨(some 27), none, .mv (.t 25)⟩,
    ⟨(some 5), none, .mv (.t 27)⟩])
  (.sq (.rg [⟨(some 28), none, .mv (.t 5)⟩,
    ⟨(some 29), none, .mv (.t 4)⟩,
    ⟨(some 30), none, .iaa (.t 3) (.t 28) 5 3⟩,
    ⟨(some 31), none, .fa (.t 30) 1⟩,
    ⟨none, none, .st (.t 31) (.t 29) 1⟩])
  (.rg [⟨(some 32), none, .mv (.t 4)⟩,
    ⟨(some 33), none, .mv (.t 5)⟩,
    ⟨(some 34), none, .iaa (.t 3) (.t 33) 5 3⟩,
    ⟨(some 35), none, .fa (.t 34) 2⟩,
    ⟨(some 36), none, .ld (.t 35) 1 false⟩,
    ⟨(some 37), none, .ib .add (.t 32) (.t 36)⟩,
    ⟨(some 4), none, .mv (.t 37)⟩]))))
  (.rg [⟨(some 38), none, .ib .add (.t 25) (.c (.int .i64 1))⟩,
    ⟨(some 25), none, .mv (.t 38)⟩])))))))
  (.sq (.rg [⟨(some 39), none, .ld (.t 3) 15 true⟩,
    ⟨none, none, .st (.t 2) (.t 39) 15⟩])
  .rt)))))⟩
theorem k27 : cF Try.prog Try.f27 = some c27 := by kernel_rfl
/-- rundale/chain.New -/
def c28 : Fu := ⟨35, [.t 4, .t 5],
  (.sq (.rg [⟨(some 3), none, .bx 24 (.t 1)⟩,
    ⟨(some 4), none, .mv (.c (.pointer none))⟩,
    ⟨(some 5), none, .mv (.c (.int .i64 0))⟩])
  (.sq (.sq (.rd [⟨0, 0, [3], ⟨(some 8), none, .ld (.t 3) 6 true⟩⟩,
    ⟨1, 1, [8], ⟨(some 9), none, .ca 26 [(.t 8)]⟩⟩,
    ⟨2, 3, [9], ⟨(some 10), none, .nt (.t 9)⟩⟩,
    ⟨3, 7, [10], ⟨(some 11), none, .mv (.t 10)⟩⟩,
    ⟨4, 15, [0, 11], ⟨(some 12), (some (11, false)), .mv (.t 0)⟩⟩,
    ⟨5, 31, [12, 11], ⟨(some 13), (some (11, false)), .ca 53 [(.t 12)]⟩⟩,
    ⟨6, 15, [3, 11], ⟨(some 14), (some (11, false)), .ld (.t 3) 6 true⟩⟩,
    ⟨7, 127, [14, 11], ⟨(some 15), (some (11, false)), .ca 9 [(.t 14)]⟩⟩,
    ⟨8, 255, [13, 15, 11], ⟨(some 16), (some (11, false)), .ib .lss (.t 13) (.t 15)⟩⟩,
    ⟨9, 511, [11, 16], ⟨(some 17), none, .pk (.t 11) (.c (.bool true)) (.t 16)⟩⟩])
  (.cd (.t 17)
  (.sq (.rg [⟨(some 4), none, .mv (.c (.pointer none))⟩,
    ⟨(some 5), none, .mv (.c (.int .i64 1))⟩])
  .rt)
  .sk))
  (.sq (.rd [⟨0, 0, [0], ⟨(some 19), none, .mv (.t 0)⟩⟩,
    ⟨1, 0, [3], ⟨(some 20), none, .ld (.t 3) 6 true⟩⟩,
    ⟨2, 2, [20], ⟨(some 21), none, .ca 55 [(.t 20), (.c (.int .i64 0))]⟩⟩,
    ⟨3, 0, [3], ⟨(some 22), none, .fa (.t 3) 1⟩⟩,
    ⟨4, 8, [22], ⟨(some 23), none, .ld (.t 22) 1 false⟩⟩,
    ⟨5, 31, [19, 21, 23], ⟨(some 24), none, .ca 54 [(.t 19), (.c (.int .i64 0)), (.t 21), (.t 23)]⟩⟩,
    ⟨6, 63, [24], ⟨(some 18), none, .mv (.t 24)⟩⟩,
    ⟨7, 127, [18], ⟨(some 25), none, .ex (.t 18) 0⟩⟩,
    ⟨8, 127, [18], ⟨(some 26), none, .ex (.t 18) 1⟩⟩,
    ⟨9, 255, [25], ⟨(some 6), none, .mv (.t 25)⟩⟩,
    ⟨10, 1023, [26], ⟨(some 7), none, .mv (.t 26)⟩⟩])
  (.sq (.sq (.rg [⟨(some 27), none, .mv (.t 7)⟩,
    ⟨(some 28), none, .ib .neq (.t 27) (.c (.int .i64 0))⟩])
  (.cd (.t 28)
  (.sq (.rg [⟨(some 29), none, .mv (.t 7)⟩,
    ⟨(some 4), none, .mv (.c (.pointer none))⟩,
    ⟨(some 5), none, .mv (.t 29)⟩])
  .rt)
  .sk))
  (.sq (.rg [⟨(some 30), none, .mv (.t 0)⟩,
    ⟨(some 31), none, .ld (.t 3) 6 true⟩,
    ⟨(some 32), none, .mv (.t 6)⟩,
    ⟨(some 33), none, .bd [(.pointer none), (.int .i64 0), (.int .i64 0), (.int .i64 0), (.int .i64 0), (.int .i64 0), (.int .i64 0), (.pointer none)] [(0, 1, (.t 30)), (1, 6, (.t 31)), (7, 1, (.t 32))]⟩,
    ⟨(some 34), none, .bx 112 (.t 33)⟩,
    ⟨(some 4), none, .mv (.t 34)⟩,
    ⟨(some 5), none, .mv (.c (.int .i64 0))⟩])
  .rt)))))⟩
theorem k28 : cF Try.prog Try.f28 = some c28 := by kernel_rfl
/-- (*rundale/chain.Chains).Pool -/
def c29 : Fu := ⟨7, [.t 2],
  (.sq (.rg [⟨(some 2), none, .mv (.c (.pointer none))⟩])
  (.sq (.rg [⟨(some 3), none, .mv (.t 0)⟩,
    ⟨(some 4), none, .nc (.t 3)⟩,
    ⟨(some 5), none, .fa (.t 4) 7⟩,
    ⟨(some 6), none, .ld (.t 5) 1 false⟩,
    ⟨(some 2), none, .mv (.t 6)⟩])
  .rt))⟩
theorem k29 : cF Try.prog Try.f29 = some c29 := by kernel_rfl
/-- (*rundale/chain.Chains).Fill -/
def c30 : Fu := ⟨7, [],
  (.rg [⟨(some 2), none, .mv (.t 0)⟩,
    ⟨(some 3), none, .nc (.t 2)⟩,
    ⟨(some 4), none, .fa (.t 3) 7⟩,
    ⟨(some 5), none, .ld (.t 4) 1 false⟩,
    ⟨(some 6), none, .ca 56 [(.t 5)]⟩])⟩
theorem k30 : cF Try.prog Try.f30 = some c30 := by kernel_rfl
/-- rundale/rundaleref11.New -/
def c31 : Fu := ⟨53, [.t 2],
  (.sq (.rg [⟨(some 1), none, .bx 24 (.t 0)⟩,
    ⟨(some 2), none, .mv (.c (.pointer none))⟩])
  (.sq (.rg [⟨(some 5), none, .ld (.t 1) 6 true⟩,
    ⟨(some 6), none, .ca 58 [(.t 5)]⟩,
    ⟨(some 7), none, .ca 57 [(.t 6)]⟩,
    ⟨(some 3), none, .mv (.t 7)⟩])
  (.sq (.rg [⟨(some 8), none, .ld (.t 1) 6 true⟩,
    ⟨(some 9), none, .mv (.t 3)⟩,
    ⟨(some 10), none, .bd [(.int .i64 0), (.int .i64 0), (.int .i64 0), (.int .i64 0), (.int .i64 0), (.int .i64 0), (.pointer none), (.pointer none), (.pointer none), (.pointer none)] [(0, 6, (.t 8)), (6, 1, (.t 9))]⟩,
    ⟨(some 11), none, .bx 86 (.t 10)⟩,
    ⟨(some 4), none, .mv (.t 11)⟩])
  (.sq (.rd [⟨0, 0, [4], ⟨(some 12), none, .mv (.t 4)⟩⟩,
    ⟨1, 0, [3], ⟨(some 13), none, .mv (.t 3)⟩⟩,
    ⟨2, 0, [1], ⟨(some 14), none, .ld (.t 1) 6 true⟩⟩,
    ⟨3, 4, [14], ⟨(some 15), none, .ca 59 [(.t 14), (.c (.int .i64 0))]⟩⟩,
    ⟨4, 0, [1], ⟨(some 16), none, .fa (.t 1) 1⟩⟩,
    ⟨5, 16, [16], ⟨(some 17), none, .ld (.t 16) 1 false⟩⟩,
    ⟨6, 62, [13, 15, 17], ⟨(some 18), none, .bd [(.pointer none), (.int .i64 0), (.int .i64 0), (.int .i64 0)] [(0, 1, (.t 13)), (1, 1, (.c (.int .i64 0))), (2, 1, (.t 15)), (3, 1, (.t 17))]⟩⟩,
    ⟨7, 126, [18], ⟨(some 19), none, .bx 115 (.t 18)⟩⟩,
    ⟨8, 255, [12], ⟨(some 20), none, .nc (.t 12)⟩⟩,
    ⟨9, 511, [20], ⟨(some 21), none, .fa (.t 20) 7⟩⟩,
    ⟨10, 1023, [21, 19], ⟨none, none, .st (.t 21) (.t 19) 1⟩⟩])
  (.sq (.rd [⟨0, 0, [4], ⟨(some 22), none, .mv (.t 4)⟩⟩,
    ⟨1, 0, [3], ⟨(some 23), none, .mv (.t 3)⟩⟩,
    ⟨2, 0, [1], ⟨(some 24), none, .ld (.t 1) 6 true⟩⟩,
    ⟨3, 4, [24], ⟨(some 25), none, .ca 33 [(.t 24), (.c (.int .i64 0))]⟩⟩,
    ⟨4, 0, [1], ⟨(some 26), none, .fa (.t 1) 3⟩⟩,
    ⟨5, 16, [26], ⟨(some 27), none, .ld (.t 26) 1 false⟩⟩,
    ⟨6, 62, [23, 25, 27], ⟨(some 28), none, .bd [(.pointer none), (.int .i64 0), (.int .i64 0), (.int .i64 0)] [(0, 1, (.t 23)), (1, 1, (.c (.int .i64 1))), (2, 1, (.t 25)), (3, 1, (.t 27))]⟩⟩,
    ⟨7, 126, [28], ⟨(some 29), none, .bx 115 (.t 28)⟩⟩,
    ⟨8, 255, [22], ⟨(some 30), none, .nc (.t 22)⟩⟩,
    ⟨9, 511, [30], ⟨(some 31), none, .fa (.t 30) 8⟩⟩,
    ⟨10, 1023, [31, 29], ⟨none, none, .st (.t 31) (.t 29) 1⟩⟩])
  (.sq (.rd [⟨0, 0, [4], ⟨(some 32), none, .mv (.t 4)⟩⟩,
    ⟨1, 0, [3], ⟨(some 33), none, .mv (.t 3)⟩⟩,
    ⟨2, 0, [1], ⟨(some 34), none, .ld (.t 1) 6 true⟩⟩,
    ⟨3, 4, [34], ⟨(some 35), none, .ca 60 [(.t 34), (.c (.int .i64 0))]⟩⟩,
    ⟨4, 0, [1], ⟨(some 36), none, .fa (.t 1) 0⟩⟩,
    ⟨5, 16, [36], ⟨(some 37), none, .ld (.t 36) 1 false⟩⟩,
    ⟨6, 62, [33, 35, 37], ⟨(some 38), none, .bd [(.pointer none), (.int .i64 0), (.int .i64 0), (.int .i64 0)] [(0, 1, (.t 33)), (1, 1, (.c (.int .i64 2))), (2, 1, (.t 35)), (3, 1, (.t 37))]⟩⟩,
    ⟨7, 126, [38], ⟨(some 39), none, .bx 117 (.t 38)⟩⟩,
    ⟨8, 255, [32], ⟨(some 40), none, .nc (.t 32)⟩⟩,
    ⟨9, 511, [40], ⟨(some 41), none, .fa (.t 40) 9⟩⟩,
    ⟨10, 1023, [41, 39], ⟨none, none, .st (.t 41) (.t 39) 1⟩⟩])
  (.sq (.rg [⟨(some 42), none, .mv (.t 4)⟩,
    ⟨(some 43), none, .nc (.t 42)⟩,
    ⟨(some 44), none, .fa (.t 43) 7⟩,
    ⟨(some 45), none, .ld (.t 44) 1 false⟩,
    ⟨(some 46), none, .ca 61 [(.t 45)]⟩])
  (.sq (.rg [⟨(some 47), none, .mv (.t 4)⟩,
    ⟨(some 48), none, .nc (.t 47)⟩,
    ⟨(some 49), none, .fa (.t 48) 8⟩,
    ⟨(some 50), none, .ld (.t 49) 1 false⟩,
    ⟨(some 51), none, .ca 61 [(.t 50)]⟩])
  (.sq (.rg [⟨(some 52), none, .mv (.t 4)⟩,
    ⟨(some 2), none, .mv (.t 52)⟩])
  .rt)))))))))⟩
theorem k31 : cF Try.prog Try.f31 = some c31 := by kernel_rfl
/-- (*rundale/rundaleref11.W).Supply -/
def c32 : Fu := ⟨13, [.t 2],
  (.sq (.rg [⟨(some 2), none, .mv (.c (.pointer none))⟩])
  (.sq (.rg [⟨(some 3), none, .mv (.t 0)⟩,
    ⟨(some 4), none, .mv (.t 0)⟩,
    ⟨(some 5), none, .nc (.t 4)⟩,
    ⟨(some 6), none, .fa (.t 5) 0⟩,
    ⟨(some 7), none, .fa (.t 6) 4⟩,
    ⟨(some 8), none, .ld (.t 7) 1 false⟩,
    ⟨(some 9), none, .ca 62 [(.t 8)]⟩,
    ⟨(some 10), none, .ca 63 []⟩,
    ⟨(some 11), none, .bd [(.pointer none), (.pointer none), (.pointer none)] [(0, 1, (.t 3)), (1, 1, (.t 9)), (2, 1, (.t 10))]⟩,
    ⟨(some 12), none, .bx 123 (.t 11)⟩,
    ⟨(some 2), none, .mv (.t 12)⟩])
  .rt))⟩
theorem k32 : cF Try.prog Try.f32 = some c32 := by kernel_rfl
/-- rundale/rundaleref1.Slot -/
def c33 : Fu := ⟨16, [.t 4],
  (.sq (.rg [⟨(some 2), none, .bx 24 (.t 0)⟩,
    ⟨(some 4), none, .mv (.c (.int .i64 0))⟩])
  (.sq (.rg [⟨(some 5), none, .ld (.t 2) 6 true⟩,
    ⟨(some 6), none, .fa (.t 2) 0⟩,
    ⟨(some 7), none, .ld (.t 6) 1 false⟩,
    ⟨(some 8), none, .ib .add (.c (.int .i64 3)) (.t 7)⟩,
    ⟨(some 9), none, .fa (.t 2) 3⟩,
    ⟨(some 10), none, .ld (.t 9) 1 false⟩,
    ⟨(some 11), none, .ib .add (.t 8) (.t 10)⟩,
    ⟨(some 12), none, .fa (.t 2) 3⟩,
    ⟨(some 13), none, .ld (.t 12) 1 false⟩,
    ⟨(some 14), none, .mv (.t 1)⟩,
    ⟨(some 15), none, .ca 64 [(.t 5), (.t 11), (.t 13), (.t 14)]⟩,
    ⟨(some 4), none, .mv (.t 15)⟩])
  .rt))⟩
theorem k33 : cF Try.prog Try.f33 = some c33 := by kernel_rfl
/-- rundale/stash.New -/
def c34 : Fu := ⟨8, [.t 2],
  (.sq (.rg [⟨(some 2), none, .mv (.c (.pointer none))⟩])
  (.sq (.rg [⟨(some 3), none, .mv (.t 0)⟩,
    ⟨(some 4), none, .mm true (.t 3) (.c (.int .i64 0))⟩,
    ⟨(some 5), none, .mm false (.t 4) (.c (.int .i64 64))⟩,
    ⟨(some 6), none, .bd [(.int .i64 0), (.slice none 0 0)] [(0, 1, (.t 5))]⟩,
    ⟨(some 7), none, .bx 126 (.t 6)⟩,
    ⟨(some 2), none, .mv (.t 7)⟩])
  .rt))⟩
theorem k34 : cF Try.prog Try.f34 = some c34 := by kernel_rfl
/-- rundale/limbo.New -/
def c35 : Fu := ⟨3, [.t 0],
  (.sq (.rg [⟨(some 0), none, .mv (.c (.pointer none))⟩])
  (.sq (.rg [⟨(some 1), none, .bd [(.int .i64 0), (.slice none 0 0), (.int .i64 0), (.slice none 0 0), (.int .i64 0), (.slice none 0 0), (.int .i64 0)] []⟩,
    ⟨(some 2), none, .bx 131 (.t 1)⟩,
    ⟨(some 0), none, .mv (.t 2)⟩])
  .rt))⟩
theorem k35 : cF Try.prog Try.f35 = some c35 := by kernel_rfl
/-- (*rundale/limbo.Limbo).Retire -/
def c36 : Fu := ⟨66, [.t 6, .t 7],
  (.sq (.rg [⟨(some 6), none, .mv (.c (.slice none 0 0))⟩,
    ⟨(some 7), none, .mv (.c (.int .i64 0))⟩])
  (.sq (.sq (.rg [⟨(some 10), none, .mv (.t 2)⟩,
    ⟨(some 11), none, .len (.t 10)⟩,
    ⟨(some 12), none, .ib .eql (.t 11) (.c (.int .i64 0))⟩,
    ⟨(some 13), none, .mv (.t 12)⟩,
    ⟨(some 14), (some (13, false)), .mv (.t 1)⟩,
    ⟨(some 15), (some (13, false)), .ib .lss (.t 14) (.c (.int .i64 0))⟩,
    ⟨(some 16), none, .pk (.t 13) (.c (.bool true)) (.t 15)⟩,
    ⟨(some 17), none, .mv (.t 16)⟩,
    ⟨(some 18), (some (17, false)), .mv (.t 1)⟩,
    ⟨(some 19), (some (17, false)), .ib .gtr (.t 18) (.c (.int .i64 4611686018427387903))⟩,
    ⟨(some 20), none, .pk (.t 17) (.c (.bool true)) (.t 19)⟩,
    ⟨(some 21), none, .mv (.t 20)⟩,
    ⟨(some 22), (some (21, false)), .mv (.t 1)⟩,
    ⟨(some 23), (some (21, false)), .mv (.t 0)⟩,
    ⟨(some 24), (some (21, false)), .nc (.t 23)⟩,
    ⟨(some 25), (some (21, false)), .fa (.t 24) 6⟩,
    ⟨(some 26), (some (21, false)), .ld (.t 25) 1 false⟩,
    ⟨(some 27), (some (21, false)), .ib .lss (.t 22) (.t 26)⟩,
    ⟨(some 28), none, .pk (.t 21) (.c (.bool true)) (.t 27)⟩])
  (.cd (.t 28)
  (.sq (.rg [⟨(some 6), none, .mv (.c (.slice none 0 0))⟩,
    ⟨(some 7), none, .mv (.c (.int .i64 1))⟩])
  .rt)
  .sk))
  (.sq (.rg [⟨(some 29), none, .mv (.t 0)⟩,
    ⟨(some 30), none, .mv (.t 1)⟩,
    ⟨(some 31), none, .nc (.t 29)⟩,
    ⟨(some 32), none, .fa (.t 31) 6⟩,
    ⟨none, none, .st (.t 32) (.t 30) 1⟩])
  (.sq (.rg [⟨(some 33), none, .mv (.t 0)⟩,
    ⟨(some 34), none, .mv (.t 1)⟩,
    ⟨(some 35), none, .ib .rem (.t 34) (.c (.int .i64 3))⟩,
    ⟨(some 36), none, .nc (.t 33)⟩,
    ⟨(some 37), none, .fa (.t 36) 0⟩,
    ⟨(some 38), none, .iaa (.t 37) (.t 35) 3 2⟩,
    ⟨(some 8), none, .mv (.t 38)⟩])
  (.sq (.rg [⟨(some 9), none, .mv (.c (.slice none 0 0))⟩])
  (.sq (.sq (.rg [⟨(some 39), none, .mv (.t 8)⟩,
    ⟨(some 40), none, .nc (.t 39)⟩,
    ⟨(some 41), none, .fa (.t 40) 0⟩,
    ⟨(some 42), none, .ld (.t 41) 1 false⟩,
    ⟨(some 43), none, .mv (.t 1)⟩,
    ⟨(some 44), none, .ib .lss (.t 42) (.t 43)⟩])
  (.cd (.t 44)
  (.sq (.rg [⟨(some 45), none, .mv (.t 8)⟩,
    ⟨(some 46), none, .nc (.t 45)⟩,
    ⟨(some 47), none, .fa (.t 46) 1⟩,
    ⟨(some 48), none, .ld (.t 47) 1 false⟩,
    ⟨(some 9), none, .mv (.t 48)⟩])
  (.rg [⟨(some 49), none, .mv (.t 8)⟩,
    ⟨(some 50), none, .nc (.t 49)⟩,
    ⟨(some 51), none, .fa (.t 50) 1⟩,
    ⟨none, none, .st (.t 51) (.c (.slice none 0 0)) 1⟩]))
  .sk))
  (.sq (.rg [⟨(some 52), none, .mv (.t 8)⟩,
    ⟨(some 53), none, .mv (.t 1)⟩,
    ⟨(some 54), none, .nc (.t 52)⟩,
    ⟨(some 55), none, .fa (.t 54) 0⟩,
    ⟨none, none, .st (.t 55) (.t 53) 1⟩])
  (.sq (.rg [⟨(some 56), none, .mv (.t 8)⟩,
    ⟨(some 57), none, .mv (.t 8)⟩,
    ⟨(some 58), none, .nc (.t 57)⟩,
    ⟨(some 59), none, .fa (.t 58) 1⟩,
    ⟨(some 60), none, .ld (.t 59) 1 false⟩,
    ⟨(some 61), none, .mv (.t 2)⟩,
    ⟨(some 62), none, .ap 44 3 1 8 [(.int .i64 0)] (.t 60) (.t 61)⟩,
    ⟨(some 63), none, .nc (.t 56)⟩,
    ⟨(some 64), none, .fa (.t 63) 1⟩,
    ⟨none, none, .st (.t 64) (.t 62) 1⟩])
  (.sq (.rg [⟨(some 65), none, .mv (.t 9)⟩,
    ⟨(some 6), none, .mv (.t 65)⟩,
    ⟨(some 7), none, .mv (.c (.int .i64 0))⟩])
  .rt)))))))))⟩
theorem k36 : cF Try.prog Try.f36 = some c36 := by kernel_rfl
/-- (*rundale/stash.Stash).Give -/
def c37 : Fu := ⟨13, [],
  (.rg [⟨(some 4), none, .mv (.t 0)⟩,
    ⟨(some 5), none, .mv (.t 0)⟩,
    ⟨(some 6), none, .nc (.t 5)⟩,
    ⟨(some 7), none, .fa (.t 6) 1⟩,
    ⟨(some 8), none, .ld (.t 7) 1 false⟩,
    ⟨(some 9), none, .mv (.t 1)⟩,
    ⟨(some 10), none, .ap 44 3 1 8 [(.int .i64 0)] (.t 8) (.t 9)⟩,
    ⟨(some 11), none, .nc (.t 4)⟩,
    ⟨(some 12), none, .fa (.t 11) 1⟩,
    ⟨none, none, .st (.t 12) (.t 10) 1⟩])⟩
theorem k37 : cF Try.prog Try.f37 = some c37 := by kernel_rfl
/-- (*rundale/limbo.Limbo).Bucket -/
def c38 : Fu := ⟨38, [.t 4, .t 5],
  (.sq (.rg [⟨(some 4), none, .mv (.c (.int .i64 0))⟩,
    ⟨(some 5), none, .mv (.c (.slice none 0 0))⟩])
  (.sq (.sq (.rg [⟨(some 6), none, .mv (.t 1)⟩,
    ⟨(some 7), none, .ib .lss (.t 6) (.c (.int .i64 0))⟩,
    ⟨(some 8), none, .mv (.t 7)⟩,
    ⟨(some 9), (some (8, false)), .mv (.t 1)⟩,
    ⟨(some 10), (some (8, false)), .ib .geq (.t 9) (.c (.int .i64 3))⟩,
    ⟨(some 11), none, .pk (.t 8) (.c (.bool true)) (.t 10)⟩,
    ⟨(some 12), none, .mv (.t 11)⟩,
    ⟨(some 13), (some (12, false)), .mv (.t 0)⟩,
    ⟨(some 14), (some (12, false)), .mv (.t 1)⟩,
    ⟨(some 15), (some (12, false)), .nc (.t 13)⟩,
    ⟨(some 16), (some (12, false)), .fa (.t 15) 0⟩,
    ⟨(some 17), (some (12, false)), .iaa (.t 16) (.t 14) 3 2⟩,
    ⟨(some 18), (some (12, false)), .fa (.t 17) 1⟩,
    ⟨(some 19), (some (12, false)), .ld (.t 18) 1 false⟩,
    ⟨(some 20), (some (12, false)), .len (.t 19)⟩,
    ⟨(some 21), (some (12, false)), .ib .eql (.t 20) (.c (.int .i64 0))⟩,
    ⟨(some 22), none, .pk (.t 12) (.c (.bool true)) (.t 21)⟩])
  (.cd (.t 22)
  (.sq (.rg [⟨(some 4), none, .mv (.c (.int .i64 0))⟩,
    ⟨(some 5), none, .mv (.c (.slice none 0 0))⟩])
  .rt)
  .sk))
  (.sq (.rd [⟨0, 0, [0], ⟨(some 23), none, .mv (.t 0)⟩⟩,
    ⟨1, 0, [1], ⟨(some 24), none, .mv (.t 1)⟩⟩,
    ⟨2, 1, [23], ⟨(some 25), none, .nc (.t 23)⟩⟩,
    ⟨3, 5, [25], ⟨(some 26), none, .fa (.t 25) 0⟩⟩,
    ⟨4, 15, [26, 24], ⟨(some 27), none, .iaa (.t 26) (.t 24) 3 2⟩⟩,
    ⟨5, 31, [27], ⟨(some 28), none, .fa (.t 27) 0⟩⟩,
    ⟨6, 63, [28], ⟨(some 29), none, .ld (.t 28) 1 false⟩⟩,
    ⟨7, 0, [0], ⟨(some 30), none, .mv (.t 0)⟩⟩,
    ⟨8, 0, [1], ⟨(some 31), none, .mv (.t 1)⟩⟩,
    ⟨9, 128, [30], ⟨(some 32), none, .nc (.t 30)⟩⟩,
    ⟨10, 640, [32], ⟨(some 33), none, .fa (.t 32) 0⟩⟩,
    ⟨11, 1920, [33, 31], ⟨(some 34), none, .iaa (.t 33) (.t 31) 3 2⟩⟩,
    ⟨12, 3968, [34], ⟨(some 35), none, .fa (.t 34) 1⟩⟩,
    ⟨13, 8064, [35], ⟨(some 36), none, .ld (.t 35) 1 false⟩⟩,
    ⟨14, 16256, [36], ⟨(some 37), none, .ca 65 [(.t 36)]⟩⟩,
    ⟨15, 32767, [29], ⟨(some 4), none, .mv (.t 29)⟩⟩,
    ⟨16, 65535, [37], ⟨(some 5), none, .mv (.t 37)⟩⟩])
  .rt)))⟩
theorem k38 : cF Try.prog Try.f38 = some c38 := by kernel_rfl
/-- (*rundale/stash.Stash).List -/
def c39 : Fu := ⟨8, [.t 2],
  (.sq (.rg [⟨(some 2), none, .mv (.c (.slice none 0 0))⟩])
  (.sq (.rg [⟨(some 3), none, .mv (.t 0)⟩,
    ⟨(some 4), none, .nc (.t 3)⟩,
    ⟨(some 5), none, .fa (.t 4) 1⟩,
    ⟨(some 6), none, .ld (.t 5) 1 false⟩,
    ⟨(some 7), none, .ca 65 [(.t 6)]⟩,
    ⟨(some 2), none, .mv (.t 7)⟩])
  .rt))⟩
theorem k39 : cF Try.prog Try.f39 = some c39 := by kernel_rfl
/-- (*rundale/limbo.Limbo).Ready -/
def c40 : Fu := ⟨51, [.t 4],
  (.sq (.rg [⟨(some 4), none, .mv (.c (.slice none 0 0))⟩])
  (.sq (.rg [⟨(some 5), none, .mv (.c (.slice none 0 0))⟩])
  (.sq (.bl 0
  (.lp
  (.sq (.sq (.rg [⟨(some 9), none, .mv (.t 1)⟩,
    ⟨(some 10), none, .ib .geq (.t 9) (.c (.int .i64 2))⟩])
  (.cd (.t 10)
  .sk
  (.ex 0)))
  (.bl 1
  (.sq (.rg [⟨(some 6), none, .mv (.c (.pointer none))⟩])
  (.sq (.sq (.rg [⟨(some 11), none, .mv (.c (.int .i64 0))⟩])
  (.bl 2
  (.lp
  (.sq (.rg [⟨(some 12), none, .ib .lss (.t 11) (.c (.int .i64 3))⟩])
  (.sq (.cd (.t 12)
  .sk
  (.ex 2))
  (.sq (.bl 3
  (.sq (.rg [⟨(some 13), none, .mv (.t 11)⟩,
    ⟨(some 7), none, .mv (.t 13)⟩])
  (.sq (.rg [⟨(some 14), none, .mv (.t 0)⟩,
    ⟨(some 15), none, .mv (.t 7)⟩,
    ⟨(some 16), none, .nc (.t 14)⟩,
    ⟨(some 17), none, .fa (.t 16) 0⟩,
    ⟨(some 18), none, .iaa (.t 17) (.t 15) 3 2⟩,
    ⟨(some 8), none, .mv (.t 18)⟩])
  (.sq (.rd [⟨0, 0, [8], ⟨(some 19), none, .mv (.t 8)⟩⟩,
    ⟨1, 0, [1], ⟨(some 20), none, .mv (.t 1)⟩⟩,
    ⟨2, 3, [19, 20], ⟨(some 21), none, .ca 66 [(.t 19), (.t 20)]⟩⟩,
    ⟨3, 7, [21], ⟨(some 22), none, .mv (.t 21)⟩⟩,
    ⟨4, 15, [6, 22], ⟨(some 23), (some (22, true)), .mv (.t 6)⟩⟩,
    ⟨5, 31, [23, 22], ⟨(some 24), (some (22, true)), .en 0 false (.t 23) (.c (.pointer none))⟩⟩,
    ⟨6, 63, [24, 22], ⟨(some 25), (some (22, true)), .mv (.t 24)⟩⟩,
    ⟨7, 127, [8, 25], ⟨(some 26), (some (25, false)), .mv (.t 8)⟩⟩,
    ⟨8, 255, [26, 25], ⟨(some 27), (some (25, false)), .nc (.t 26)⟩⟩,
    ⟨9, 511, [27, 25], ⟨(some 28), (some (25, false)), .fa (.t 27) 0⟩⟩,
    ⟨10, 1023, [28, 25], ⟨(some 29), (some (25, false)), .ld (.t 28) 1 false⟩⟩,
    ⟨11, 127, [6, 25], ⟨(some 30), (some (25, false)), .mv (.t 6)⟩⟩,
    ⟨12, 2175, [30, 25], ⟨(some 31), (some (25, false)), .nc (.t 30)⟩⟩,
    ⟨13, 6271, [31, 25], ⟨(some 32), (some (25, false)), .fa (.t 31) 0⟩⟩,
    ⟨14, 14463, [32, 25], ⟨(some 33), (some (25, false)), .ld (.t 32) 1 false⟩⟩,
    ⟨15, 32767, [29, 33, 25], ⟨(some 34), (some (25, false)), .ib .lss (.t 29) (.t 33)⟩⟩,
    ⟨16, 65535, [25, 34, 22], ⟨(some 35), (some (22, true)), .pk (.t 25) (.c (.bool true)) (.t 34)⟩⟩,
    ⟨17, 131071, [22, 35], ⟨(some 36), none, .pk (.t 22) (.t 35) (.c (.bool false))⟩⟩])
  (.cd (.t 36)
  (.rg [⟨(some 37), none, .mv (.t 8)⟩,
    ⟨(some 6), none, .mv (.t 37)⟩])
  .sk)))))
  (.rg [⟨(some 38), none, .ib .add (.t 11) (.c (.int .i64 1))⟩,
    ⟨(some 11), none, .mv (.t 38)⟩])))))))
  (.sq (.sq (.rg [⟨(some 39), none, .mv (.t 6)⟩,
    ⟨(some 40), none, .en 0 false (.t 39) (.c (.pointer none))⟩])
  (.cd (.t 40)
  (.ex 0)
  .sk))
  (.sq (.rg [⟨(some 41), none, .mv (.t 5)⟩,
    ⟨(some 42), none, .mv (.t 6)⟩,
    ⟨(some 43), none, .nc (.t 42)⟩,
    ⟨(some 44), none, .fa (.t 43) 1⟩,
    ⟨(some 45), none, .ld (.t 44) 1 false⟩,
    ⟨(some 46), none, .ap 44 3 1 8 [(.int .i64 0)] (.t 41) (.t 45)⟩,
    ⟨(some 5), none, .mv (.t 46)⟩])
  (.rg [⟨(some 47), none, .mv (.t 6)⟩,
    ⟨(some 48), none, .bd [(.int .i64 0), (.slice none 0 0)] []⟩,
    ⟨(some 49), none, .nc (.t 47)⟩,
    ⟨none, none, .st (.t 49) (.t 48) 2⟩])))))))))
  (.sq (.rg [⟨(some 50), none, .mv (.t 5)⟩,
    ⟨(some 4), none, .mv (.t 50)⟩])
  .rt))))⟩
theorem k40 : cF Try.prog Try.f40 = some c40 := by kernel_rfl
/-- (*rundale/cells.Cells).is -/
def c41 : Fu := ⟨16, [.t 4],
  (.sq (.rg [⟨(some 4), none, .mv (.c (.bool false))⟩])
  (.sq (.rg [⟨(some 5), none, .mv (.t 1)⟩,
    ⟨(some 6), none, .ib .geq (.t 5) (.c (.int .i64 0))⟩,
    ⟨(some 7), none, .mv (.t 6)⟩,
    ⟨(some 8), (some (7, true)), .mv (.t 1)⟩,
    ⟨(some 9), (some (7, true)), .mv (.t 0)⟩,
    ⟨(some 10), (some (7, true)), .nc (.t 9)⟩,
    ⟨(some 11), (some (7, true)), .fa (.t 10) 0⟩,
    ⟨(some 12), (some (7, true)), .ld (.t 11) 1 false⟩,
    ⟨(some 13), (some (7, true)), .len (.t 12)⟩,
    ⟨(some 14), (some (7, true)), .ib .lss (.t 8) (.t 13)⟩,
    ⟨(some 15), none, .pk (.t 7) (.t 14) (.c (.bool false))⟩,
    ⟨(some 4), none, .mv (.t 15)⟩])
  .rt))⟩
theorem k41 : cF Try.prog Try.f41 = some c41 := by kernel_rfl
/-- (*rundale/stack.Stack).top -/
def c42 : Fu := ⟨17, [.t 4],
  (.sq (.rg [⟨(some 4), none, .mv (.c (.int .i64 0))⟩])
  (.sq (.sq (.rg [⟨(some 6), none, .mv (.t 1)⟩,
    ⟨(some 7), none, .ca 67 [(.t 6)]⟩,
    ⟨(some 5), none, .al 135 [(.int .i64 0), (.int .i64 0)]⟩,
    ⟨none, none, .st (.t 5) (.t 7) 2⟩])
  (.sq (.rd [⟨0, 0, [5], ⟨(some 8), none, .fa (.t 5) 0⟩⟩,
    ⟨1, 1, [8], ⟨(some 9), none, .ld (.t 8) 1 false⟩⟩,
    ⟨2, 0, [0], ⟨(some 10), none, .mv (.t 0)⟩⟩,
    ⟨3, 4, [10], ⟨(some 11), none, .nc (.t 10)⟩⟩,
    ⟨4, 12, [11], ⟨(some 12), none, .fa (.t 11) 3⟩⟩,
    ⟨5, 28, [12], ⟨(some 13), none, .ld (.t 12) 1 false⟩⟩,
    ⟨6, 63, [9, 13], ⟨(some 14), none, .ib .lss (.t 9) (.t 13)⟩⟩])
  (.cd (.t 14)
  (.sq (.rg [⟨(some 15), none, .fa (.t 5) 0⟩,
    ⟨(some 16), none, .ld (.t 15) 1 false⟩,
    ⟨(some 4), none, .mv (.t 16)⟩])
  .rt)
  .sk)))
  (.sq (.rg [⟨(some 4), none, .mv (.c (.int .i64 (-1)))⟩])
  .rt)))⟩
theorem k42 : cF Try.prog Try.f42 = some c42 := by kernel_rfl
/-- (*rundale/cells.Cells).Peek -/
def c43 : Fu := ⟨16, [.t 4],
  (.sq (.rg [⟨(some 4), none, .mv (.c (.int .u64 0))⟩])
  (.sq (.sq (.rg [⟨(some 5), none, .mv (.t 0)⟩,
    ⟨(some 6), none, .mv (.t 1)⟩,
    ⟨(some 7), none, .ca 41 [(.t 5), (.t 6)]⟩,
    ⟨(some 8), none, .nt (.t 7)⟩])
  (.cd (.t 8)
  (.sq (.rg [⟨(some 4), none, .mv (.c (.int .u64 0))⟩])
  .rt)
  .sk))
  (.sq (.rg [⟨(some 9), none, .mv (.t 0)⟩,
    ⟨(some 10), none, .nc (.t 9)⟩,
    ⟨(some 11), none, .fa (.t 10) 0⟩,
    ⟨(some 12), none, .ld (.t 11) 1 false⟩,
    ⟨(some 13), none, .mv (.t 1)⟩,
    ⟨(some 14), none, .ia (.t 12) (.t 13) 1⟩,
    ⟨(some 15), none, .ld (.t 14) 1 false⟩,
    ⟨(some 4), none, .mv (.t 15)⟩])
  .rt)))⟩
theorem k43 : cF Try.prog Try.f43 = some c43 := by kernel_rfl
/-- (*rundale/stack.Stack).below -/
def c44 : Fu := ⟨15, [.t 4],
  (.sq (.rg [⟨(some 4), none, .mv (.c (.int .i64 0))⟩])
  (.sq (.sq (.rg [⟨(some 5), none, .mv (.t 1)⟩,
    ⟨(some 6), none, .mv (.t 0)⟩,
    ⟨(some 7), none, .nc (.t 6)⟩,
    ⟨(some 8), none, .fa (.t 7) 3⟩,
    ⟨(some 9), none, .ld (.t 8) 1 false⟩,
    ⟨(some 10), none, .cv .u64 (.t 9)⟩,
    ⟨(some 11), none, .ib .gtr (.t 5) (.t 10)⟩])
  (.cd (.t 11)
  (.sq (.rg [⟨(some 4), none, .mv (.c (.int .i64 (-1)))⟩])
  .rt)
  .sk))
  (.sq (.rg [⟨(some 12), none, .mv (.t 1)⟩,
    ⟨(some 13), none, .cv .i64 (.t 12)⟩,
    ⟨(some 14), none, .ib .sub (.t 13) (.c (.int .i64 1))⟩,
    ⟨(some 4), none, .mv (.t 14)⟩])
  .rt)))⟩
theorem k44 : cF Try.prog Try.f44 = some c44 := by kernel_rfl
/-- (*rundale/supply.Take).kept -/
def c45 : Fu := ⟨24, [.t 2],
  (.sq (.rg [⟨(some 2), none, .mv (.c (.bool false))⟩])
  (.sq (.rg [⟨(some 4), none, .mv (.t 0)⟩,
    ⟨(some 5), none, .mv (.t 0)⟩,
    ⟨(some 6), none, .mv (.t 0)⟩,
    ⟨(some 7), none, .nc (.t 6)⟩,
    ⟨(some 8), none, .fa (.t 7) 5⟩,
    ⟨(some 9), none, .ld (.t 8) 1 false⟩,
    ⟨(some 10), none, .nc (.t 9)⟩,
    ⟨(some 11), none, .fa (.t 10) 8⟩,
    ⟨(some 12), none, .ld (.t 11) 1 false⟩,
    ⟨(some 13), none, .ca 68 [(.t 12)]⟩,
    ⟨(some 3), none, .mv (.t 13)⟩,
    ⟨(some 14), none, .ex (.t 3) 0⟩,
    ⟨(some 15), none, .ex (.t 3) 1⟩,
    ⟨(some 16), none, .nc (.t 4)⟩,
    ⟨(some 17), none, .fa (.t 16) 7⟩,
    ⟨none, none, .st (.t 17) (.t 14) 1⟩,
    ⟨(some 18), none, .nc (.t 5)⟩,
    ⟨(some 19), none, .fa (.t 18) 9⟩,
    ⟨none, none, .st (.t 19) (.t 15) 1⟩])
  (.sq (.rg [⟨(some 20), none, .mv (.t 0)⟩,
    ⟨(some 21), none, .nc (.t 20)⟩,
    ⟨(some 22), none, .fa (.t 21) 9⟩,
    ⟨(some 23), none, .ld (.t 22) 1 false⟩,
    ⟨(some 2), none, .mv (.t 23)⟩])
  .rt)))⟩
theorem k45 : cF Try.prog Try.f45 = some c45 := by kernel_rfl
/-- (*rundale/limbo.Limbo).Len -/
def c46 : Fu := ⟨20, [.t 2],
  (.sq (.rg [⟨(some 2), none, .mv (.c (.int .i64 0))⟩])
  (.sq (.rg [⟨(some 3), none, .mv (.c (.int .i64 0))⟩])
  (.sq (.sq (.rg [⟨(some 6), none, .mv (.t 0)⟩,
    ⟨(some 7), none, .nc (.t 6)⟩,
    ⟨(some 8), none, .fa (.t 7) 0⟩,
    ⟨(some 9), none, .ld (.t 8) 6 true⟩,
    ⟨(some 10), none, .mv (.c (.int .i64 0))⟩])
  (.bl 0
  (.lp
  (.sq (.rg [⟨(some 11), none, .ib .lss (.t 10) (.c (.int .i64 3))⟩])
  (.sq (.cd (.t 11)
  .sk
  (.ex 0))
  (.sq (.bl 1
  (.sq (.rg [⟨(some 12), none, .iv (.t 9) (.t 10) 3 2 true⟩,
    ⟨(some 5), none, .al 128 [(.int .i64 0), (.slice none 0 0)]⟩,
    ⟨none, none, .st (.t 5) (.t 12) 2⟩])
  (.rg [⟨(some 13), none, .mv (.t 3)⟩,
    ⟨(some 14), none, .fa (.t 5) 1⟩,
    ⟨(some 15), none, .ld (.t 14) 1 false⟩,
    ⟨(some 16), none, .len (.t 15)⟩,
    ⟨(some 17), none, .ib .add (.t 13) (.t 16)⟩,
    ⟨(some 3), none, .mv (.t 17)⟩])))
  (.rg [⟨(some 18), none, .ib .add (.t 10) (.c (.int .i64 1))⟩,
    ⟨(some 10), none, .mv (.t 18)⟩])))))))
  (.sq (.rg [⟨(some 19), none, .mv (.t 3)⟩,
    ⟨(some 2), none, .mv (.t 19)⟩])
  .rt))))⟩
theorem k46 : cF Try.prog Try.f46 = some c46 := by kernel_rfl
/-- (*rundale/run.Machine).Go -/
def c47 : Fu := ⟨8, [],
  (.rg [⟨(some 4), none, .mv (.t 0)⟩,
    ⟨(some 5), none, .mv (.t 1)⟩,
    ⟨(some 6), none, .nc (.t 4)⟩,
    ⟨(some 7), none, .fa (.t 6) 0⟩,
    ⟨none, none, .st (.t 7) (.t 5) 1⟩])⟩
theorem k47 : cF Try.prog Try.f47 = some c47 := by kernel_rfl
/-- (*rundale/supply.Take).look -/
def c48 : Fu := ⟨34, [],
  (.sq (.rg [⟨(some 5), none, .mv (.t 0)⟩,
    ⟨(some 6), none, .nc (.t 5)⟩,
    ⟨(some 7), none, .fa (.t 6) 5⟩,
    ⟨(some 8), none, .ld (.t 7) 1 false⟩,
    ⟨(some 9), none, .nc (.t 8)⟩,
    ⟨(some 10), none, .fa (.t 9) 0⟩,
    ⟨(some 11), none, .ld (.t 10) 1 false⟩,
    ⟨(some 12), none, .ca 69 [(.t 11), (.c (.int .i64 2))]⟩,
    ⟨(some 4), none, .mv (.t 12)⟩,
    ⟨(some 13), none, .ex (.t 4) 0⟩,
    ⟨(some 14), none, .ex (.t 4) 1⟩,
    ⟨(some 2), none, .mv (.t 13)⟩,
    ⟨(some 3), none, .mv (.t 14)⟩])
  (.sq (.rg [⟨(some 15), none, .mv (.t 0)⟩,
    ⟨(some 16), none, .mv (.t 2)⟩,
    ⟨(some 17), none, .ca 70 [(.t 16)]⟩,
    ⟨(some 18), none, .nc (.t 15)⟩,
    ⟨(some 19), none, .fa (.t 18) 8⟩,
    ⟨none, none, .st (.t 19) (.t 17) 1⟩])
  (.sq (.rd [⟨0, 0, [0], ⟨(some 20), none, .mv (.t 0)⟩⟩,
    ⟨1, 1, [20], ⟨(some 21), none, .nc (.t 20)⟩⟩,
    ⟨2, 3, [21], ⟨(some 22), none, .fa (.t 21) 5⟩⟩,
    ⟨3, 7, [22], ⟨(some 23), none, .ld (.t 22) 1 false⟩⟩,
    ⟨4, 0, [0], ⟨(some 24), none, .mv (.t 0)⟩⟩,
    ⟨5, 16, [24], ⟨(some 25), none, .nc (.t 24)⟩⟩,
    ⟨6, 48, [25], ⟨(some 26), none, .fa (.t 25) 8⟩⟩,
    ⟨7, 112, [26], ⟨(some 27), none, .ld (.t 26) 1 false⟩⟩,
    ⟨8, 255, [23, 27], ⟨(some 28), none, .ca 16 [(.t 23), (.t 27)]⟩⟩])
  (.sq (.rg [⟨(some 29), none, .mv (.t 0)⟩,
    ⟨(some 30), none, .ca 45 [(.t 29)]⟩,
    ⟨(some 31), none, .nt (.t 30)⟩])
  (.cd (.t 31)
  (.rg [⟨(some 32), none, .mv (.t 0)⟩,
    ⟨(some 33), none, .ca 49 [(.t 32)]⟩])
  .sk)))))⟩
theorem k48 : cF Try.prog Try.f48 = some c48 := by kernel_rfl
/-- (*rundale/supply.Take).ask -/
def c49 : Fu := ⟨37, [],
  (.sq (.rd [⟨0, 0, [0], ⟨(some 2), none, .mv (.t 0)⟩⟩,
    ⟨1, 0, [0], ⟨(some 3), none, .mv (.t 0)⟩⟩,
    ⟨2, 2, [3], ⟨(some 4), none, .nc (.t 3)⟩⟩,
    ⟨3, 6, [4], ⟨(some 5), none, .fa (.t 4) 5⟩⟩,
    ⟨4, 14, [5], ⟨(some 6), none, .ld (.t 5) 1 false⟩⟩,
    ⟨5, 30, [6], ⟨(some 7), none, .nc (.t 6)⟩⟩,
    ⟨6, 62, [7], ⟨(some 8), none, .fa (.t 7) 7⟩⟩,
    ⟨7, 126, [8], ⟨(some 9), none, .ld (.t 8) 1 false⟩⟩,
    ⟨8, 0, [0], ⟨(some 10), none, .mv (.t 0)⟩⟩,
    ⟨9, 256, [10], ⟨(some 11), none, .nc (.t 10)⟩⟩,
    ⟨10, 768, [11], ⟨(some 12), none, .fa (.t 11) 5⟩⟩,
    ⟨11, 1792, [12], ⟨(some 13), none, .ld (.t 12) 1 false⟩⟩,
    ⟨12, 3840, [13], ⟨(some 14), none, .nc (.t 13)⟩⟩,
    ⟨13, 7936, [14], ⟨(some 15), none, .fa (.t 14) 1⟩⟩,
    ⟨14, 16128, [15], ⟨(some 16), none, .fa (.t 15) 5⟩⟩,
    ⟨15, 32512, [16], ⟨(some 17), none, .ld (.t 16) 1 false⟩⟩,
    ⟨16, 65534, [9, 17], ⟨(some 18), none, .ca 71 [(.t 9), (.t 17)]⟩⟩,
    ⟨17, 131071, [2], ⟨(some 19), none, .nc (.t 2)⟩⟩,
    ⟨18, 262143, [19], ⟨(some 20), none, .fa (.t 19) 6⟩⟩,
    ⟨19, 524287, [20, 18], ⟨none, none, .st (.t 20) (.t 18) 1⟩⟩])
  (.rd [⟨0, 0, [0], ⟨(some 21), none, .mv (.t 0)⟩⟩,
    ⟨1, 1, [21], ⟨(some 22), none, .nc (.t 21)⟩⟩,
    ⟨2, 3, [22], ⟨(some 23), none, .fa (.t 22) 0⟩⟩,
    ⟨3, 0, [0], ⟨(some 24), none, .mv (.t 0)⟩⟩,
    ⟨4, 8, [24], ⟨(some 25), none, .nc (.t 24)⟩⟩,
    ⟨5, 24, [25], ⟨(some 26), none, .fa (.t 25) 6⟩⟩,
    ⟨6, 56, [26], ⟨(some 27), none, .ld (.t 26) 1 false⟩⟩,
    ⟨7, 120, [27], ⟨(some 28), none, .mf (.func 73) [(.t 27)] []⟩⟩,
    ⟨8, 0, [0], ⟨(some 29), none, .mv (.t 0)⟩⟩,
    ⟨9, 256, [29], ⟨(some 30), none, .nc (.t 29)⟩⟩,
    ⟨10, 768, [30], ⟨(some 31), none, .fa (.t 30) 6⟩⟩,
    ⟨11, 1792, [31], ⟨(some 32), none, .ld (.t 31) 1 false⟩⟩,
    ⟨12, 3840, [32], ⟨(some 33), none, .mf (.func 74) [(.t 32)] []⟩⟩,
    ⟨13, 0, [0], ⟨(some 34), none, .mv (.t 0)⟩⟩,
    ⟨14, 8192, [34], ⟨(some 35), none, .mf (.func 75) [(.t 34)] []⟩⟩,
    ⟨15, 32767, [23, 28, 33, 35], ⟨(some 36), none, .ca 72 [(.t 23), (.t 28), (.t 33), (.t 35)]⟩⟩]))⟩
theorem k49 : cF Try.prog Try.f49 = some c49 := by kernel_rfl
/-- (*rundale/run.Machine).Done -/
def c50 : Fu := ⟨8, [.t 2],
  (.sq (.rg [⟨(some 2), none, .mv (.c (.bool false))⟩])
  (.sq (.rg [⟨(some 3), none, .mv (.t 0)⟩,
    ⟨(some 4), none, .nc (.t 3)⟩,
    ⟨(some 5), none, .fa (.t 4) 0⟩,
    ⟨(some 6), none, .ld (.t 5) 1 false⟩,
    ⟨(some 7), none, .en 2 false (.t 6) (.c .nilFunc)⟩,
    ⟨(some 2), none, .mv (.t 7)⟩])
  .rt))⟩
theorem k50 : cF Try.prog Try.f50 = some c50 := by kernel_rfl
/-- (*rundale/run.Machine).Step -/
def c51 : Fu := ⟨25, [.t 2],
  (.sq (.rg [⟨(some 2), none, .mv (.c (.bool false))⟩])
  (.sq (.sq (.rg [⟨(some 4), none, .mv (.t 0)⟩,
    ⟨(some 5), none, .nc (.t 4)⟩,
    ⟨(some 6), none, .fa (.t 5) 0⟩,
    ⟨(some 7), none, .ld (.t 6) 1 false⟩,
    ⟨(some 8), none, .en 2 false (.t 7) (.c .nilFunc)⟩])
  (.cd (.t 8)
  (.sq (.rg [⟨(some 2), none, .mv (.c (.bool false))⟩])
  .rt)
  .sk))
  (.sq (.rg [⟨(some 9), none, .mv (.t 0)⟩,
    ⟨(some 10), none, .nc (.t 9)⟩,
    ⟨(some 11), none, .fa (.t 10) 0⟩,
    ⟨(some 12), none, .ld (.t 11) 1 false⟩,
    ⟨(some 3), none, .mv (.t 12)⟩])
  (.sq (.rg [⟨(some 13), none, .mv (.t 0)⟩,
    ⟨(some 14), none, .nc (.t 13)⟩,
    ⟨(some 15), none, .fa (.t 14) 0⟩,
    ⟨none, none, .st (.t 15) (.c .nilFunc) 1⟩])
  (.sq (.rg [⟨(some 16), none, .mv (.t 0)⟩,
    ⟨(some 17), none, .nc (.t 16)⟩,
    ⟨(some 18), none, .fa (.t 17) 4⟩,
    ⟨(some 19), none, .ld (.t 18) 1 false⟩,
    ⟨(some 20), none, .ib .add (.t 19) (.c (.int .i64 1))⟩,
    ⟨(some 21), none, .nc (.t 16)⟩,
    ⟨(some 22), none, .fa (.t 21) 4⟩,
    ⟨none, none, .st (.t 22) (.t 20) 1⟩])
  (.sq (.rg [⟨(some 23), none, .mv (.t 3)⟩,
    ⟨(some 24), none, .cl (.t 23) []⟩])
  (.sq (.rg [⟨(some 2), none, .mv (.c (.bool true))⟩])
  .rt)))))))⟩
theorem k51 : cF Try.prog Try.f51 = some c51 := by kernel_rfl
/-- rundale/lay.within -/
def c52 : Fu := ⟨15, [.t 6],
  (.sq (.rg [⟨(some 6), none, .mv (.c (.bool false))⟩])
  (.sq (.rg [⟨(some 7), none, .mv (.t 0)⟩,
    ⟨(some 8), none, .mv (.t 1)⟩,
    ⟨(some 9), none, .ib .geq (.t 7) (.t 8)⟩,
    ⟨(some 10), none, .mv (.t 9)⟩,
    ⟨(some 11), (some (10, true)), .mv (.t 0)⟩,
    ⟨(some 12), (some (10, true)), .mv (.t 2)⟩,
    ⟨(some 13), (some (10, true)), .ib .leq (.t 11) (.t 12)⟩,
    ⟨(some 14), none, .pk (.t 10) (.t 13) (.c (.bool false))⟩,
    ⟨(some 6), none, .mv (.t 14)⟩])
  .rt))⟩
theorem k52 : cF Try.prog Try.f52 = some c52 := by kernel_rfl
/-- (*rundale/cells.Cells).Len -/
def c53 : Fu := ⟨8, [.t 2],
  (.sq (.rg [⟨(some 2), none, .mv (.c (.int .i64 0))⟩])
  (.sq (.rg [⟨(some 3), none, .mv (.t 0)⟩,
    ⟨(some 4), none, .nc (.t 3)⟩,
    ⟨(some 5), none, .fa (.t 4) 0⟩,
    ⟨(some 6), none, .ld (.t 5) 1 false⟩,
    ⟨(some 7), none, .len (.t 6)⟩,
    ⟨(some 2), none, .mv (.t 7)⟩])
  .rt))⟩
theorem k53 : cF Try.prog Try.f53 = some c53 := by kernel_rfl
/-- rundale/stack.New -/
def c54 : Fu := ⟨57, [.t 8, .t 9],
  (.sq (.rg [⟨(some 4), none, .bx 26 (.t 0)⟩,
    ⟨(some 8), none, .mv (.c (.pointer none))⟩,
    ⟨(some 9), none, .mv (.c (.int .i64 0))⟩])
  (.sq (.rg [⟨(some 11), none, .mf (.func 76) [] [(.t 4)]⟩,
    ⟨(some 10), none, .mv (.t 11)⟩])
  (.sq (.sq (.rg [⟨(some 12), none, .mv (.t 3)⟩,
    ⟨(some 13), none, .ib .lss (.t 12) (.c (.int .i64 1))⟩,
    ⟨(some 14), none, .mv (.t 13)⟩,
    ⟨(some 15), (some (14, false)), .mv (.t 3)⟩,
    ⟨(some 16), (some (14, false)), .ib .gtr (.t 15) (.c (.int .i64 4096))⟩,
    ⟨(some 17), none, .pk (.t 14) (.c (.bool true)) (.t 16)⟩,
    ⟨(some 18), none, .mv (.t 17)⟩,
    ⟨(some 19), (some (18, false)), .mv (.t 10)⟩,
    ⟨(some 20), (some (18, false)), .mv (.t 1)⟩,
    ⟨(some 21), (some (18, false)), .cl (.t 19) [(.t 20)]⟩,
    ⟨(some 22), (some (18, false)), .nt (.t 21)⟩,
    ⟨(some 23), none, .pk (.t 18) (.c (.bool true)) (.t 22)⟩,
    ⟨(some 24), none, .mv (.t 23)⟩,
    ⟨(some 25), (some (24, false)), .mv (.t 10)⟩,
    ⟨(some 26), (some (24, false)), .mv (.t 2)⟩,
    ⟨(some 27), (some (24, false)), .cl (.t 25) [(.t 26)]⟩,
    ⟨(some 28), (some (24, false)), .nt (.t 27)⟩,
    ⟨(some 29), none, .pk (.t 24) (.c (.bool true)) (.t 28)⟩,
    ⟨(some 30), none, .mv (.t 29)⟩,
    ⟨(some 31), (some (30, false)), .mv (.t 10)⟩,
    ⟨(some 32), (some (30, false)), .mv (.t 2)⟩,
    ⟨(some 33), (some (30, false)), .mv (.t 3)⟩,
    ⟨(some 34), (some (30, false)), .ib .add (.t 32) (.t 33)⟩,
    ⟨(some 35), (some (30, false)), .ib .sub (.t 34) (.c (.int .i64 1))⟩,
    ⟨(some 36), (some (30, false)), .cl (.t 31) [(.t 35)]⟩,
    ⟨(some 37), (some (30, false)), .nt (.t 36)⟩,
    ⟨(some 38), none, .pk (.t 30) (.c (.bool true)) (.t 37)⟩,
    ⟨(some 39), none, .mv (.t 38)⟩,
    ⟨(some 40), (some (39, false)), .mv (.t 1)⟩,
    ⟨(some 41), (some (39, false)), .mv (.t 2)⟩,
    ⟨(some 42), (some (39, false)), .ib .geq (.t 40) (.t 41)⟩,
    ⟨(some 43), (some (39, false)), .mv (.t 42)⟩,
    ⟨(some 44), (some (43, true)), .mv (.t 1)⟩,
    ⟨(some 45), (some (43, true)), .mv (.t 2)⟩,
    ⟨(some 46), (some (43, true)), .mv (.t 3)⟩,
    ⟨(some 47), (some (43, true)), .ib .add (.t 45) (.t 46)⟩,
    ⟨(some 48), (some (43, true)), .ib .lss (.t 44) (.t 47)⟩,
    ⟨(some 49), (some (39, false)), .pk (.t 43) (.t 48) (.c (.bool false))⟩,
    ⟨(some 50), none, .pk (.t 39) (.c (.bool true)) (.t 49)⟩])
  (.cd (.t 50)
  (.sq (.rg [⟨(some 8), none, .mv (.c (.pointer none))⟩,
    ⟨(some 9), none, .mv (.c (.int .i64 1))⟩])
  .rt)
  .sk))
  (.sq (.rg [⟨(some 51), none, .ld (.t 4) 1 false⟩,
    ⟨(some 52), none, .mv (.t 1)⟩,
    ⟨(some 53), none, .mv (.t 2)⟩,
    ⟨(some 54), none, .mv (.t 3)⟩,
    ⟨(some 55), none, .bd [(.pointer none), (.int .i64 0), (.int .i64 0), (.int .i64 0)] [(0, 1, (.t 51)), (1, 1, (.t 52)), (2, 1, (.t 53)), (3, 1, (.t 54))]⟩,
    ⟨(some 56), none, .bx 101 (.t 55)⟩,
    ⟨(some 8), none, .mv (.t 56)⟩,
    ⟨(some 9), none, .mv (.c (.int .i64 0))⟩])
  .rt))))⟩
theorem k54 : cF Try.prog Try.f54 = some c54 := by kernel_rfl
/-- rundale/lay.Link -/
def c55 : Fu := ⟨8, [.t 4],
  (.sq (.rg [⟨(some 2), none, .bx 24 (.t 0)⟩,
    ⟨(some 4), none, .mv (.c (.int .i64 0))⟩])
  (.sq (.rg [⟨(some 5), none, .ld (.t 2) 6 true⟩,
    ⟨(some 6), none, .mv (.t 1)⟩,
    ⟨(some 7), none, .ca 77 [(.t 5), (.c (.int .i64 6)), (.t 6)]⟩,
    ⟨(some 4), none, .mv (.t 7)⟩])
  .rt))⟩
theorem k55 : cF Try.prog Try.f55 = some c55 := by kernel_rfl
/-- (*rundale/stack.Stack).Fill -/
def c56 : Fu := ⟨57, [],
  (.sq (.sq (.rg [⟨(some 5), none, .mv (.t 0)⟩,
    ⟨(some 6), none, .nc (.t 5)⟩,
    ⟨(some 7), none, .fa (.t 6) 3⟩,
    ⟨(some 8), none, .ld (.t 7) 1 false⟩,
    ⟨(some 9), none, .mv (.c (.int .i64 0))⟩])
  (.bl 0
  (.lp
  (.sq (.rg [⟨(some 10), none, .ib .lss (.t 9) (.t 8)⟩])
  (.sq (.cd (.t 10)
  .sk
  (.ex 0))
  (.sq (.bl 1
  (.sq (.rg [⟨(some 11), none, .mv (.t 9)⟩,
    ⟨(some 2), none, .mv (.t 11)⟩])
  (.rd [⟨0, 0, [0], ⟨(some 12), none, .mv (.t 0)⟩⟩,
    ⟨1, 1, [12], ⟨(some 13), none, .nc (.t 12)⟩⟩,
    ⟨2, 3, [13], ⟨(some 14), none, .fa (.t 13) 0⟩⟩,
    ⟨3, 7, [14], ⟨(some 15), none, .ld (.t 14) 1 false⟩⟩,
    ⟨4, 0, [0], ⟨(some 16), none, .mv (.t 0)⟩⟩,
    ⟨5, 16, [16], ⟨(some 17), none, .nc (.t 16)⟩⟩,
    ⟨6, 48, [17], ⟨(some 18), none, .fa (.t 17) 2⟩⟩,
    ⟨7, 112, [18], ⟨(some 19), none, .ld (.t 18) 1 false⟩⟩,
    ⟨8, 0, [2], ⟨(some 20), none, .mv (.t 2)⟩⟩,
    ⟨9, 496, [19, 20], ⟨(some 21), none, .ib .add (.t 19) (.t 20)⟩⟩,
    ⟨10, 0, [2], ⟨(some 22), none, .mv (.t 2)⟩⟩,
    ⟨11, 1024, [22], ⟨(some 23), none, .ib .add (.t 22) (.c (.int .i64 2))⟩⟩,
    ⟨12, 3072, [23], ⟨(some 24), none, .cv .u64 (.t 23)⟩⟩,
    ⟨13, 8191, [15, 21, 24], ⟨(some 25), none, .ca 18 [(.t 15), (.t 21), (.t 24)]⟩⟩])))
  (.rg [⟨(some 26), none, .ib .add (.t 9) (.c (.int .i64 1))⟩,
    ⟨(some 9), none, .mv (.t 26)⟩])))))))
  (.sq (.rd [⟨0, 0, [0], ⟨(some 27), none, .mv (.t 0)⟩⟩,
    ⟨1, 1, [27], ⟨(some 28), none, .nc (.t 27)⟩⟩,
    ⟨2, 3, [28], ⟨(some 29), none, .fa (.t 28) 0⟩⟩,
    ⟨3, 7, [29], ⟨(some 30), none, .ld (.t 29) 1 false⟩⟩,
    ⟨4, 0, [0], ⟨(some 31), none, .mv (.t 0)⟩⟩,
    ⟨5, 16, [31], ⟨(some 32), none, .nc (.t 31)⟩⟩,
    ⟨6, 48, [32], ⟨(some 33), none, .fa (.t 32) 2⟩⟩,
    ⟨7, 112, [33], ⟨(some 34), none, .ld (.t 33) 1 false⟩⟩,
    ⟨8, 0, [0], ⟨(some 35), none, .mv (.t 0)⟩⟩,
    ⟨9, 256, [35], ⟨(some 36), none, .nc (.t 35)⟩⟩,
    ⟨10, 768, [36], ⟨(some 37), none, .fa (.t 36) 3⟩⟩,
    ⟨11, 1792, [37], ⟨(some 38), none, .ld (.t 37) 1 false⟩⟩,
    ⟨12, 4080, [34, 38], ⟨(some 39), none, .ib .add (.t 34) (.t 38)⟩⟩,
    ⟨13, 8176, [39], ⟨(some 40), none, .ib .sub (.t 39) (.c (.int .i64 1))⟩⟩,
    ⟨14, 16383, [30, 40], ⟨(some 41), none, .ca 18 [(.t 30), (.t 40), (.c (.int .u64 0))]⟩⟩])
  (.sq (.rg [⟨(some 43), none, .bd [(.int .i64 0), (.int .i64 0)] []⟩,
    ⟨(some 44), none, .ca 78 [(.t 43)]⟩,
    ⟨(some 42), none, .mv (.t 44)⟩,
    ⟨(some 45), none, .ex (.t 42) 0⟩,
    ⟨(some 46), none, .ex (.t 42) 1⟩,
    ⟨(some 3), none, .mv (.t 45)⟩,
    ⟨(some 4), none, .mv (.t 46)⟩])
  (.rd [⟨0, 0, [0], ⟨(some 47), none, .mv (.t 0)⟩⟩,
    ⟨1, 1, [47], ⟨(some 48), none, .nc (.t 47)⟩⟩,
    ⟨2, 3, [48], ⟨(some 49), none, .fa (.t 48) 0⟩⟩,
    ⟨3, 7, [49], ⟨(some 50), none, .ld (.t 49) 1 false⟩⟩,
    ⟨4, 0, [0], ⟨(some 51), none, .mv (.t 0)⟩⟩,
    ⟨5, 16, [51], ⟨(some 52), none, .nc (.t 51)⟩⟩,
    ⟨6, 48, [52], ⟨(some 53), none, .fa (.t 52) 1⟩⟩,
    ⟨7, 112, [53], ⟨(some 54), none, .ld (.t 53) 1 false⟩⟩,
    ⟨8, 0, [3], ⟨(some 55), none, .mv (.t 3)⟩⟩,
    ⟨9, 511, [50, 54, 55], ⟨(some 56), none, .ca 18 [(.t 50), (.t 54), (.t 55)]⟩⟩]))))⟩
theorem k56 : cF Try.prog Try.f56 = some c56 := by kernel_rfl
/-- rundale/rundaleref5.New -/
def c57 : Fu := ⟨7, [.t 2],
  (.sq (.rg [⟨(some 2), none, .mv (.c (.pointer none))⟩])
  (.sq (.rg [⟨(some 3), none, .mv (.t 0)⟩,
    ⟨(some 4), none, .mk 54 1 8 [(.int .u64 0)] (.t 3) (.t 3)⟩,
    ⟨(some 5), none, .bd [(.slice none 0 0), (.int .i64 0)] [(0, 1, (.t 4))]⟩,
    ⟨(some 6), none, .bx 81 (.t 5)⟩,
    ⟨(some 2), none, .mv (.t 6)⟩])
  .rt))⟩
theorem k57 : cF Try.prog Try.f57 = some c57 := by kernel_rfl
/-- rundale/rundaleref1.Len -/
def c58 : Fu := ⟨22, [.t 2],
  (.sq (.rg [⟨(some 1), none, .bx 24 (.t 0)⟩,
    ⟨(some 2), none, .mv (.c (.int .i64 0))⟩])
  (.sq (.sq (.rg [⟨(some 3), none, .ld (.t 1) 6 true⟩,
    ⟨(some 4), none, .ca 79 [(.t 3)]⟩,
    ⟨(some 5), none, .nt (.t 4)⟩])
  (.cd (.t 5)
  (.sq (.rg [⟨(some 2), none, .mv (.c (.int .i64 0))⟩])
  .rt)
  .sk))
  (.sq (.rg [⟨(some 6), none, .fa (.t 1) 0⟩,
    ⟨(some 7), none, .ld (.t 6) 1 false⟩,
    ⟨(some 8), none, .ib .add (.c (.int .i64 3)) (.t 7)⟩,
    ⟨(some 9), none, .fa (.t 1) 3⟩,
    ⟨(some 10), none, .ld (.t 9) 1 false⟩,
    ⟨(some 11), none, .ib .mul (.c (.int .i64 2)) (.t 10)⟩,
    ⟨(some 12), none, .ib .add (.t 8) (.t 11)⟩,
    ⟨(some 13), none, .fa (.t 1) 1⟩,
    ⟨(some 14), none, .ld (.t 13) 1 false⟩,
    ⟨(some 15), none, .ib .add (.t 12) (.t 14)⟩,
    ⟨(some 16), none, .fa (.t 1) 1⟩,
    ⟨(some 17), none, .ld (.t 16) 1 false⟩,
    ⟨(some 18), none, .fa (.t 1) 2⟩,
    ⟨(some 19), none, .ld (.t 18) 1 false⟩,
    ⟨(some 20), none, .ib .mul (.t 17) (.t 19)⟩,
    ⟨(some 21), none, .ib .add (.t 15) (.t 20)⟩,
    ⟨(some 2), none, .mv (.t 21)⟩])
  .rt)))⟩
theorem k58 : cF Try.prog Try.f58 = some c58 := by kernel_rfl
/-- rundale/rundaleref1.Link -/
def c59 : Fu := ⟨17, [.t 4],
  (.sq (.rg [⟨(some 2), none, .bx 24 (.t 0)⟩,
    ⟨(some 4), none, .mv (.c (.int .i64 0))⟩])
  (.sq (.rg [⟨(some 5), none, .ld (.t 2) 6 true⟩,
    ⟨(some 6), none, .fa (.t 2) 0⟩,
    ⟨(some 7), none, .ld (.t 6) 1 false⟩,
    ⟨(some 8), none, .ib .add (.c (.int .i64 3)) (.t 7)⟩,
    ⟨(some 9), none, .fa (.t 2) 3⟩,
    ⟨(some 10), none, .ld (.t 9) 1 false⟩,
    ⟨(some 11), none, .ib .mul (.c (.int .i64 2)) (.t 10)⟩,
    ⟨(some 12), none, .ib .add (.t 8) (.t 11)⟩,
    ⟨(some 13), none, .fa (.t 2) 1⟩,
    ⟨(some 14), none, .ld (.t 13) 1 false⟩,
    ⟨(some 15), none, .mv (.t 1)⟩,
    ⟨(some 16), none, .ca 64 [(.t 5), (.t 12), (.t 14), (.t 15)]⟩,
    ⟨(some 4), none, .mv (.t 16)⟩])
  .rt))⟩
theorem k59 : cF Try.prog Try.f59 = some c59 := by kernel_rfl
/-- rundale/rundaleref1.Pin -/
def c60 : Fu := ⟨10, [.t 4],
  (.sq (.rg [⟨(some 2), none, .bx 24 (.t 0)⟩,
    ⟨(some 4), none, .mv (.c (.int .i64 0))⟩])
  (.sq (.rg [⟨(some 5), none, .ld (.t 2) 6 true⟩,
    ⟨(some 6), none, .fa (.t 2) 0⟩,
    ⟨(some 7), none, .ld (.t 6) 1 false⟩,
    ⟨(some 8), none, .mv (.t 1)⟩,
    ⟨(some 9), none, .ca 64 [(.t 5), (.c (.int .i64 3)), (.t 7), (.t 8)]⟩,
    ⟨(some 4), none, .mv (.t 9)⟩])
  .rt))⟩
theorem k60 : cF Try.prog Try.f60 = some c60 := by kernel_rfl
/-- (*rundale/rundaleref5.Stack).Fill -/
def c61 : Fu := ⟨75, [],
  (.sq (.rg [⟨(some 6), none, .bd [(.int .i64 0), (.int .i64 0)] [(0, 1, (.c (.int .i64 0)))]⟩,
    ⟨(some 7), none, .ca 80 [(.t 6)]⟩,
    ⟨(some 5), none, .mv (.t 7)⟩,
    ⟨(some 8), none, .ex (.t 5) 0⟩,
    ⟨(some 9), none, .ex (.t 5) 1⟩,
    ⟨(some 2), none, .mv (.t 8)⟩,
    ⟨(some 3), none, .mv (.t 9)⟩])
  (.sq (.rd [⟨0, 0, [0], ⟨(some 10), none, .mv (.t 0)⟩⟩,
    ⟨1, 1, [10], ⟨(some 11), none, .nc (.t 10)⟩⟩,
    ⟨2, 3, [11], ⟨(some 12), none, .fa (.t 11) 0⟩⟩,
    ⟨3, 7, [12], ⟨(some 13), none, .ld (.t 12) 1 false⟩⟩,
    ⟨4, 15, [13], ⟨(some 14), none, .nc (.t 13)⟩⟩,
    ⟨5, 31, [14], ⟨(some 15), none, .fa (.t 14) 0⟩⟩,
    ⟨6, 63, [15], ⟨(some 16), none, .ld (.t 15) 1 false⟩⟩,
    ⟨7, 0, [0], ⟨(some 17), none, .mv (.t 0)⟩⟩,
    ⟨8, 128, [17], ⟨(some 18), none, .nc (.t 17)⟩⟩,
    ⟨9, 384, [18], ⟨(some 19), none, .fa (.t 18) 1⟩⟩,
    ⟨10, 896, [19], ⟨(some 20), none, .ld (.t 19) 1 false⟩⟩,
    ⟨11, 0, [2], ⟨(some 21), none, .mv (.t 2)⟩⟩,
    ⟨12, 4095, [16, 20], ⟨(some 22), none, .ia (.t 16) (.t 20) 1⟩⟩,
    ⟨13, 8191, [22, 21], ⟨none, none, .st (.t 22) (.t 21) 1⟩⟩])
  (.sq (.rg [⟨(some 4), none, .mv (.c (.int .i64 0))⟩])
  (.bl 0
  (.lp
  (.sq (.sq (.rg [⟨(some 23), none, .mv (.t 4)⟩,
    ⟨(some 24), none, .mv (.t 0)⟩,
    ⟨(some 25), none, .nc (.t 24)⟩,
    ⟨(some 26), none, .fa (.t 25) 3⟩,
    ⟨(some 27), none, .ld (.t 26) 1 false⟩,
    ⟨(some 28), none, .ib .lss (.t 23) (.t 27)⟩])
  (.cd (.t 28)
  .sk
  (.ex 0)))
  (.sq (.bl 1
  (.sq (.rd [⟨0, 0, [0], ⟨(some 31), none, .mv (.t 0)⟩⟩,
    ⟨1, 1, [31], ⟨(some 32), none, .nc (.t 31)⟩⟩,
    ⟨2, 3, [32], ⟨(some 33), none, .fa (.t 32) 0⟩⟩,
    ⟨3, 7, [33], ⟨(some 34), none, .ld (.t 33) 1 false⟩⟩,
    ⟨4, 15, [34], ⟨(some 35), none, .nc (.t 34)⟩⟩,
    ⟨5, 31, [35], ⟨(some 36), none, .fa (.t 35) 0⟩⟩,
    ⟨6, 63, [36], ⟨(some 37), none, .ld (.t 36) 1 false⟩⟩,
    ⟨7, 0, [0], ⟨(some 38), none, .mv (.t 0)⟩⟩,
    ⟨8, 128, [38], ⟨(some 39), none, .nc (.t 38)⟩⟩,
    ⟨9, 384, [39], ⟨(some 40), none, .fa (.t 39) 2⟩⟩,
    ⟨10, 896, [40], ⟨(some 41), none, .ld (.t 40) 1 false⟩⟩,
    ⟨11, 0, [4], ⟨(some 42), none, .mv (.t 4)⟩⟩,
    ⟨12, 3968, [41, 42], ⟨(some 43), none, .ib .add (.t 41) (.t 42)⟩⟩,
    ⟨13, 0, [4], ⟨(some 44), none, .mv (.t 4)⟩⟩,
    ⟨14, 8192, [44], ⟨(some 45), none, .ib .add (.t 44) (.c (.int .i64 2))⟩⟩,
    ⟨15, 0, [0], ⟨(some 46), none, .mv (.t 0)⟩⟩,
    ⟨16, 32768, [46], ⟨(some 47), none, .nc (.t 46)⟩⟩,
    ⟨17, 98304, [47], ⟨(some 48), none, .fa (.t 47) 3⟩⟩,
    ⟨18, 229376, [48], ⟨(some 49), none, .ld (.t 48) 1 false⟩⟩,
    ⟨19, 491520, [49], ⟨(some 50), none, .ib .add (.t 49) (.c (.int .i64 1))⟩⟩,
    ⟨20, 1040384, [45, 50], ⟨(some 51), none, .ib .rem (.t 45) (.t 50)⟩⟩,
    ⟨21, 2088960, [51], ⟨(some 52), none, .cv .u64 (.t 51)⟩⟩,
    ⟨22, 4194303, [37, 43], ⟨(some 53), none, .ia (.t 37) (.t 43) 1⟩⟩,
    ⟨23, 8388607, [53, 52], ⟨none, none, .st (.t 53) (.t 52) 1⟩⟩])
  (.sq (.rg [⟨(some 54), none, .mv (.t 4)⟩,
    ⟨(some 55), none, .mv (.t 0)⟩,
    ⟨(some 56), none, .nc (.t 55)⟩,
    ⟨(some 57), none, .fa (.t 56) 3⟩,
    ⟨(some 58), none, .ld (.t 57) 1 false⟩,
    ⟨(some 59), none, .ib .sub (.t 58) (.c (.int .i64 1))⟩,
    ⟨(some 60), none, .ib .eql (.t 54) (.t 59)⟩])
  (.cd (.t 60)
  (.rd [⟨0, 0, [0], ⟨(some 61), none, .mv (.t 0)⟩⟩,
    ⟨1, 1, [61], ⟨(some 62), none, .nc (.t 61)⟩⟩,
    ⟨2, 3, [62], ⟨(some 63), none, .fa (.t 62) 0⟩⟩,
    ⟨3, 7, [63], ⟨(some 64), none, .ld (.t 63) 1 false⟩⟩,
    ⟨4, 15, [64], ⟨(some 65), none, .nc (.t 64)⟩⟩,
    ⟨5, 31, [65], ⟨(some 66), none, .fa (.t 65) 0⟩⟩,
    ⟨6, 63, [66], ⟨(some 67), none, .ld (.t 66) 1 false⟩⟩,
    ⟨7, 0, [0], ⟨(some 68), none, .mv (.t 0)⟩⟩,
    ⟨8, 128, [68], ⟨(some 69), none, .nc (.t 68)⟩⟩,
    ⟨9, 384, [69], ⟨(some 70), none, .fa (.t 69) 2⟩⟩,
    ⟨10, 896, [70], ⟨(some 71), none, .ld (.t 70) 1 false⟩⟩,
    ⟨11, 0, [4], ⟨(some 72), none, .mv (.t 4)⟩⟩,
    ⟨12, 3968, [71, 72], ⟨(some 73), none, .ib .add (.t 71) (.t 72)⟩⟩,
    ⟨13, 8191, [67, 73], ⟨(some 74), none, .ia (.t 67) (.t 73) 1⟩⟩,
    ⟨14, 16383, [74], ⟨none, none, .st (.t 74) (.c (.int .u64 0)) 1⟩⟩])
  .sk))))
  (.rg [⟨(some 29), none, .mv (.t 4)⟩,
    ⟨(some 30), none, .ib .add (.t 29) (.c (.int .i64 1))⟩,
    ⟨(some 4), none, .mv (.t 30)⟩]))))))))⟩
theorem k61 : cF Try.prog Try.f61 = some c61 := by kernel_rfl
/-- rundale/rundaleref5.NewStash -/
def c62 : Fu := ⟨8, [.t 2],
  (.sq (.rg [⟨(some 2), none, .mv (.c (.pointer none))⟩])
  (.sq (.rg [⟨(some 3), none, .mv (.t 0)⟩,
    ⟨(some 4), none, .mm true (.t 3) (.c (.int .i64 0))⟩,
    ⟨(some 5), none, .mm false (.t 4) (.c (.int .i64 64))⟩,
    ⟨(some 6), none, .bd [(.int .i64 0), (.slice none 0 0)] [(0, 1, (.t 5))]⟩,
    ⟨(some 7), none, .bx 148 (.t 6)⟩,
    ⟨(some 2), none, .mv (.t 7)⟩])
  .rt))⟩
theorem k62 : cF Try.prog Try.f62 = some c62 := by kernel_rfl
/-- rundale/rundaleref5.NewLimbo -/
def c63 : Fu := ⟨3, [.t 0],
  (.sq (.rg [⟨(some 0), none, .mv (.c (.pointer none))⟩])
  (.sq (.rg [⟨(some 1), none, .bd [(.int .i64 0), (.int .i64 0), (.int .i64 0), (.slice none 0 0), (.slice none 0 0), (.slice none 0 0), (.int .i64 0)] [(6, 1, (.c (.int .i64 (-1))))]⟩,
    ⟨(some 2), none, .bx 152 (.t 1)⟩,
    ⟨(some 0), none, .mv (.t 2)⟩])
  .rt))⟩
theorem k63 : cF Try.prog Try.f63 = some c63 := by kernel_rfl
/-- rundale/rundaleref1.at -/
def c64 : Fu := ⟨24, [.t 8],
  (.sq (.rg [⟨(some 4), none, .bx 24 (.t 0)⟩,
    ⟨(some 8), none, .mv (.c (.int .i64 0))⟩])
  (.sq (.sq (.rg [⟨(some 9), none, .ld (.t 4) 6 true⟩,
    ⟨(some 10), none, .ca 79 [(.t 9)]⟩,
    ⟨(some 11), none, .nt (.t 10)⟩,
    ⟨(some 12), none, .mv (.t 11)⟩,
    ⟨(some 13), (some (12, false)), .mv (.t 3)⟩,
    ⟨(some 14), (some (12, false)), .ib .lss (.t 13) (.c (.int .i64 0))⟩,
    ⟨(some 15), none, .pk (.t 12) (.c (.bool true)) (.t 14)⟩,
    ⟨(some 16), none, .mv (.t 15)⟩,
    ⟨(some 17), (some (16, false)), .mv (.t 3)⟩,
    ⟨(some 18), (some (16, false)), .mv (.t 2)⟩,
    ⟨(some 19), (some (16, false)), .ib .geq (.t 17) (.t 18)⟩,
    ⟨(some 20), none, .pk (.t 16) (.c (.bool true)) (.t 19)⟩])
  (.cd (.t 20)
  (.sq (.rg [⟨(some 8), none, .mv (.c (.int .i64 (-1)))⟩])
  .rt)
  .sk))
  (.sq (.rg [⟨(some 21), none, .mv (.t 1)⟩,
    ⟨(some 22), none, .mv (.t 3)⟩,
    ⟨(some 23), none, .ib .add (.t 21) (.t 22)⟩,
    ⟨(some 8), none, .mv (.t 23)⟩])
  .rt)))⟩
theorem k64 : cF Try.prog Try.f64 = some c64 := by kernel_rfl
/-- slices.Clone[[]int,int] -/
def c65 : Fu := ⟨8, [.t 2],
  (.sq (.rg [⟨(some 2), none, .mv (.c (.slice none 0 0))⟩])
  (.sq (.sq (.rg [⟨(some 3), none, .mv (.t 0)⟩,
    ⟨(some 4), none, .en 1 false (.t 3) (.c (.slice none 0 0))⟩])
  (.cd (.t 4)
  (.sq (.rg [⟨(some 2), none, .mv (.c (.slice none 0 0))⟩])
  .rt)
  .sk))
  (.sq (.rg [⟨(some 5), none, .bs 3 0 [] []⟩,
    ⟨(some 6), none, .mv (.t 0)⟩,
    ⟨(some 7), none, .ap 44 3 1 8 [(.int .i64 0)] (.t 5) (.t 6)⟩,
    ⟨(some 2), none, .mv (.t 7)⟩])
  .rt)))⟩
theorem k65 : cF Try.prog Try.f65 = some c65 := by kernel_rfl
/-- (*rundale/limbo.bucket).open -/
def c66 : Fu := ⟨20, [.t 4],
  (.sq (.rg [⟨(some 4), none, .mv (.c (.bool false))⟩])
  (.sq (.rg [⟨(some 5), none, .mv (.t 0)⟩,
    ⟨(some 6), none, .nc (.t 5)⟩,
    ⟨(some 7), none, .fa (.t 6) 1⟩,
    ⟨(some 8), none, .ld (.t 7) 1 false⟩,
    ⟨(some 9), none, .len (.t 8)⟩,
    ⟨(some 10), none, .ib .gtr (.t 9) (.c (.int .i64 0))⟩,
    ⟨(some 11), none, .mv (.t 10)⟩,
    ⟨(some 12), (some (11, true)), .mv (.t 0)⟩,
    ⟨(some 13), (some (11, true)), .nc (.t 12)⟩,
    ⟨(some 14), (some (11, true)), .fa (.t 13) 0⟩,
    ⟨(some 15), (some (11, true)), .ld (.t 14) 1 false⟩,
    ⟨(some 16), (some (11, true)), .mv (.t 1)⟩,
    ⟨(some 17), (some (11, true)), .ib .sub (.t 16) (.c (.int .i64 2))⟩,
    ⟨(some 18), (some (11, true)), .ib .leq (.t 15) (.t 17)⟩,
    ⟨(some 19), none, .pk (.t 11) (.t 18) (.c (.bool false))⟩,
    ⟨(some 4), none, .mv (.t 19)⟩])
  .rt))⟩
theorem k66 : cF Try.prog Try.f66 = some c66 := by kernel_rfl
/-- rundale/word.GetHead -/
def c67 : Fu := ⟨11, [.c 2 2 true],
  (.sq (.rg [⟨(some 2), none, .al 135 [(.int .i64 0), (.int .i64 0)]⟩])
  (.sq (.rg [⟨(some 3), none, .mv (.t 0)⟩,
    ⟨(some 4), none, .ca 81 [(.t 3), (.c (.int .i64 0)), (.c (.int .i64 32))]⟩,
    ⟨(some 5), none, .cv .i64 (.t 4)⟩,
    ⟨(some 6), none, .ib .sub (.t 5) (.c (.int .i64 1))⟩,
    ⟨(some 7), none, .mv (.t 0)⟩,
    ⟨(some 8), none, .ca 81 [(.t 7), (.c (.int .i64 32)), (.c (.int .i64 32))]⟩,
    ⟨(some 9), none, .cv .i64 (.t 8)⟩,
    ⟨(some 10), none, .bd [(.int .i64 0), (.int .i64 0)] [(0, 1, (.t 6)), (1, 1, (.t 9))]⟩,
    ⟨none, none, .st (.t 2) (.t 10) 2⟩])
  .rt))⟩
theorem k67 : cF Try.prog Try.f67 = some c67 := by kernel_rfl
/-- (*rundale/stash.Stash).Take -/
def c68 : Fu := ⟨35, [.t 2, .t 3],
  (.sq (.rg [⟨(some 2), none, .mv (.c (.int .i64 0))⟩,
    ⟨(some 3), none, .mv (.c (.bool false))⟩])
  (.sq (.sq (.rg [⟨(some 6), none, .mv (.t 0)⟩,
    ⟨(some 7), none, .nc (.t 6)⟩,
    ⟨(some 8), none, .fa (.t 7) 1⟩,
    ⟨(some 9), none, .ld (.t 8) 1 false⟩,
    ⟨(some 10), none, .len (.t 9)⟩,
    ⟨(some 11), none, .ib .eql (.t 10) (.c (.int .i64 0))⟩])
  (.cd (.t 11)
  (.sq (.rg [⟨(some 2), none, .mv (.c (.int .i64 0))⟩,
    ⟨(some 3), none, .mv (.c (.bool false))⟩])
  .rt)
  .sk))
  (.sq (.rg [⟨(some 12), none, .mv (.t 0)⟩,
    ⟨(some 13), none, .nc (.t 12)⟩,
    ⟨(some 14), none, .fa (.t 13) 1⟩,
    ⟨(some 15), none, .ld (.t 14) 1 false⟩,
    ⟨(some 16), none, .len (.t 15)⟩,
    ⟨(some 17), none, .ib .sub (.t 16) (.c (.int .i64 1))⟩,
    ⟨(some 4), none, .mv (.t 17)⟩])
  (.sq (.rg [⟨(some 18), none, .mv (.t 0)⟩,
    ⟨(some 19), none, .nc (.t 18)⟩,
    ⟨(some 20), none, .fa (.t 19) 1⟩,
    ⟨(some 21), none, .ld (.t 20) 1 false⟩,
    ⟨(some 22), none, .mv (.t 4)⟩,
    ⟨(some 23), none, .ia (.t 21) (.t 22) 1⟩,
    ⟨(some 24), none, .ld (.t 23) 1 false⟩,
    ⟨(some 5), none, .mv (.t 24)⟩])
  (.sq (.rg [⟨(some 25), none, .mv (.t 0)⟩,
    ⟨(some 26), none, .mv (.t 0)⟩,
    ⟨(some 27), none, .nc (.t 26)⟩,
    ⟨(some 28), none, .fa (.t 27) 1⟩,
    ⟨(some 29), none, .ld (.t 28) 1 false⟩,
    ⟨(some 30), none, .mv (.t 4)⟩,
    ⟨(some 31), none, .sl 1 (.t 29) none (some (.t 30)) none⟩,
    ⟨(some 32), none, .nc (.t 25)⟩,
    ⟨(some 33), none, .fa (.t 32) 1⟩,
    ⟨none, none, .st (.t 33) (.t 31) 1⟩])
  (.sq (.rg [⟨(some 34), none, .mv (.t 5)⟩,
    ⟨(some 2), none, .mv (.t 34)⟩,
    ⟨(some 3), none, .mv (.c (.bool true))⟩])
  .rt))))))⟩
theorem k68 : cF Try.prog Try.f68 = some c68 := by kernel_rfl
/-- (*rundale/cells.Cells).Load -/
def c69 : Fu := ⟨20, [.t 4, .t 5],
  (.sq (.rg [⟨(some 4), none, .mv (.c (.int .u64 0))⟩,
    ⟨(some 5), none, .mv (.c (.int .i64 0))⟩])
  (.sq (.sq (.rg [⟨(some 6), none, .mv (.t 0)⟩,
    ⟨(some 7), none, .mv (.t 1)⟩,
    ⟨(some 8), none, .ca 41 [(.t 6), (.t 7)]⟩,
    ⟨(some 9), none, .nt (.t 8)⟩])
  (.cd (.t 9)
  (.sq (.rg [⟨(some 4), none, .mv (.c (.int .u64 0))⟩,
    ⟨(some 5), none, .mv (.c (.int .i64 1))⟩])
  .rt)
  .sk))
  (.sq (.rg [⟨(some 10), none, .mv (.t 0)⟩,
    ⟨(some 11), none, .mv (.t 1)⟩,
    ⟨(some 12), none, .mv (.t 0)⟩,
    ⟨(some 13), none, .nc (.t 12)⟩,
    ⟨(some 14), none, .fa (.t 13) 0⟩,
    ⟨(some 15), none, .ld (.t 14) 1 false⟩,
    ⟨(some 16), none, .mv (.t 1)⟩,
    ⟨(some 17), none, .ia (.t 15) (.t 16) 1⟩,
    ⟨(some 18), none, .ld (.t 17) 1 false⟩,
    ⟨(some 19), none, .ca 82 [(.t 10), (.c (.int .i64 1)), (.t 11), (.t 18), (.c (.bool true))]⟩,
    ⟨(some 4), none, .mv (.t 19)⟩,
    ⟨(some 5), none, .mv (.c (.int .i64 0))⟩])
  .rt)))⟩
theorem k69 : cF Try.prog Try.f69 = some c69 := by kernel_rfl
/-- rundale/epoch.Cut -/
def c70 : Fu := ⟨6, [.t 2],
  (.sq (.rg [⟨(some 2), none, .mv (.c (.int .i64 0))⟩])
  (.sq (.rg [⟨(some 3), none, .mv (.t 0)⟩,
    ⟨(some 4), none, .mm false (.t 3) (.c (.int .u64 4611686018427387903))⟩,
    ⟨(some 5), none, .cv .i64 (.t 4)⟩,
    ⟨(some 2), none, .mv (.t 5)⟩])
  .rt))⟩
theorem k70 : cF Try.prog Try.f70 = some c70 := by kernel_rfl
/-- (*rundale/stack.Stack).Pop -/
def c71 : Fu := ⟨19, [.t 4],
  (.sq (.rg [⟨(some 4), none, .mv (.c (.pointer none))⟩])
  (.sq (.rg [⟨(some 6), none, .mv (.t 0)⟩,
    ⟨(some 7), none, .mv (.t 1)⟩,
    ⟨(some 8), none, .mm true (.t 7) (.c (.int .i64 1))⟩,
    ⟨(some 9), none, .mm false (.t 8) (.c (.int .i64 8))⟩,
    ⟨(some 10), none, .bd [.nilFunc, .nilFunc, .nilFunc, .nilFunc, (.int .i64 0), (.pointer none), (.int .i64 0), (.int .i64 0), (.int .u64 0), (.slice none 0 0)] [(5, 1, (.t 6)), (6, 1, (.t 9))]⟩,
    ⟨(some 11), none, .bx 156 (.t 10)⟩,
    ⟨(some 5), none, .mv (.t 11)⟩])
  (.sq (.rg [⟨(some 12), none, .mv (.t 5)⟩,
    ⟨(some 13), none, .nc (.t 12)⟩,
    ⟨(some 14), none, .fa (.t 13) 0⟩,
    ⟨(some 15), none, .mv (.t 5)⟩,
    ⟨(some 16), none, .mf (.func 83) [(.t 15)] []⟩,
    ⟨(some 17), none, .ca 47 [(.t 14), (.t 16)]⟩])
  (.sq (.rg [⟨(some 18), none, .mv (.t 5)⟩,
    ⟨(some 4), none, .mv (.t 18)⟩])
  .rt))))⟩
theorem k71 : cF Try.prog Try.f71 = some c71 := by kernel_rfl
/-- (*rundale/run.Machine).Through -/
def c72 : Fu := ⟨22, [],
  (.sq (.rg [⟨(some 8), none, .mv (.t 0)⟩,
    ⟨(some 9), none, .mv (.t 0)⟩,
    ⟨(some 10), none, .mv (.t 0)⟩,
    ⟨(some 11), none, .mv (.t 1)⟩,
    ⟨(some 12), none, .mv (.t 2)⟩,
    ⟨(some 13), none, .mv (.t 3)⟩,
    ⟨(some 14), none, .nc (.t 8)⟩,
    ⟨(some 15), none, .fa (.t 14) 1⟩,
    ⟨none, none, .st (.t 15) (.t 11) 1⟩,
    ⟨(some 16), none, .nc (.t 9)⟩,
    ⟨(some 17), none, .fa (.t 16) 2⟩,
    ⟨none, none, .st (.t 17) (.t 12) 1⟩,
    ⟨(some 18), none, .nc (.t 10)⟩,
    ⟨(some 19), none, .fa (.t 18) 3⟩,
    ⟨none, none, .st (.t 19) (.t 13) 1⟩])
  (.rg [⟨(some 20), none, .mv (.t 0)⟩,
    ⟨(some 21), none, .ca 84 [(.t 20)]⟩]))⟩
theorem k72 : cF Try.prog Try.f72 = some c72 := by kernel_rfl
/-- (*rundale/stack.Pop).Step -/
def c73 : Fu := ⟨7, [.t 2],
  (.sq (.rg [⟨(some 2), none, .mv (.c (.bool false))⟩])
  (.sq (.rg [⟨(some 3), none, .mv (.t 0)⟩,
    ⟨(some 4), none, .nc (.t 3)⟩,
    ⟨(some 5), none, .fa (.t 4) 0⟩,
    ⟨(some 6), none, .ca 51 [(.t 5)]⟩,
    ⟨(some 2), none, .mv (.t 6)⟩])
  .rt))⟩
theorem k73 : cF Try.prog Try.f73 = some c73 := by kernel_rfl
/-- (*rundale/stack.Pop).Done -/
def c74 : Fu := ⟨7, [.t 2],
  (.sq (.rg [⟨(some 2), none, .mv (.c (.bool false))⟩])
  (.sq (.rg [⟨(some 3), none, .mv (.t 0)⟩,
    ⟨(some 4), none, .nc (.t 3)⟩,
    ⟨(some 5), none, .fa (.t 4) 0⟩,
    ⟨(some 6), none, .ca 50 [(.t 5)]⟩,
    ⟨(some 2), none, .mv (.t 6)⟩])
  .rt))⟩
theorem k74 : cF Try.prog Try.f74 = some c74 := by kernel_rfl
/-- (*rundale/supply.Take).popped -/
def c75 : Fu := ⟨27, [],
  (.sq (.rg [⟨(some 3), none, .mv (.t 0)⟩,
    ⟨(some 4), none, .nc (.t 3)⟩,
    ⟨(some 5), none, .fa (.t 4) 6⟩,
    ⟨(some 6), none, .ld (.t 5) 1 false⟩,
    ⟨(some 7), none, .ca 85 [(.t 6)]⟩,
    ⟨(some 2), none, .mv (.t 7)⟩])
  (.sq (.rg [⟨(some 8), none, .mv (.t 2)⟩,
    ⟨(some 9), none, .len (.t 8)⟩,
    ⟨(some 10), none, .ib .gtr (.t 9) (.c (.int .i64 0))⟩])
  (.cd (.t 10)
  (.sq (.rg [⟨(some 11), none, .mv (.t 0)⟩,
    ⟨(some 12), none, .mv (.t 0)⟩,
    ⟨(some 13), none, .mv (.t 2)⟩,
    ⟨(some 14), none, .ia (.t 13) (.c (.int .i64 0)) 1⟩,
    ⟨(some 15), none, .ld (.t 14) 1 false⟩,
    ⟨(some 16), none, .nc (.t 11)⟩,
    ⟨(some 17), none, .fa (.t 16) 7⟩,
    ⟨none, none, .st (.t 17) (.t 15) 1⟩,
    ⟨(some 18), none, .nc (.t 12)⟩,
    ⟨(some 19), none, .fa (.t 18) 9⟩,
    ⟨none, none, .st (.t 19) (.c (.bool true)) 1⟩])
  (.rd [⟨0, 0, [0], ⟨(some 20), none, .mv (.t 0)⟩⟩,
    ⟨1, 1, [20], ⟨(some 21), none, .nc (.t 20)⟩⟩,
    ⟨2, 3, [21], ⟨(some 22), none, .fa (.t 21) 5⟩⟩,
    ⟨3, 7, [22], ⟨(some 23), none, .ld (.t 22) 1 false⟩⟩,
    ⟨4, 0, [2], ⟨(some 24), none, .mv (.t 2)⟩⟩,
    ⟨5, 16, [24], ⟨(some 25), none, .sl 1 (.t 24) (some (.c (.int .i64 1))) none none⟩⟩,
    ⟨6, 63, [23, 25], ⟨(some 26), none, .ca 86 [(.t 23), (.t 25)]⟩⟩]))
  .sk)))⟩
theorem k75 : cF Try.prog Try.f75 = some c75 := by kernel_rfl
/-- rundale/stack.New$1 -/
def c76 : Fu := ⟨12, [.t 3],
  (.sq (.rg [⟨(some 3), none, .mv (.c (.bool false))⟩])
  (.sq (.rg [⟨(some 4), none, .mv (.t 0)⟩,
    ⟨(some 5), none, .ib .geq (.t 4) (.c (.int .i64 0))⟩,
    ⟨(some 6), none, .mv (.t 5)⟩,
    ⟨(some 7), (some (6, true)), .mv (.t 0)⟩,
    ⟨(some 8), (some (6, true)), .ld (.t 1) 1 false⟩,
    ⟨(some 9), (some (6, true)), .ca 53 [(.t 8)]⟩,
    ⟨(some 10), (some (6, true)), .ib .lss (.t 7) (.t 9)⟩,
    ⟨(some 11), none, .pk (.t 6) (.t 10) (.c (.bool false))⟩,
    ⟨(some 3), none, .mv (.t 11)⟩])
  .rt))⟩
theorem k76 : cF Try.prog Try.f76 = some c76 := by kernel_rfl
/-- rundale/lay.cell -/
def c77 : Fu := ⟨33, [.t 6],
  (.sq (.rg [⟨(some 3), none, .bx 24 (.t 0)⟩,
    ⟨(some 6), none, .mv (.c (.int .i64 0))⟩])
  (.sq (.sq (.rg [⟨(some 9), none, .ld (.t 3) 6 true⟩,
    ⟨(some 10), none, .ca 26 [(.t 9)]⟩,
    ⟨(some 11), none, .nt (.t 10)⟩])
  (.cd (.t 11)
  (.sq (.rg [⟨(some 6), none, .mv (.c (.int .i64 (-1)))⟩])
  .rt)
  .sk))
  (.sq (.sq (.rg [⟨(some 12), none, .ld (.t 3) 6 true⟩,
    ⟨(some 13), none, .ca 27 [(.t 12)]⟩,
    ⟨(some 14), none, .mv (.c (.int .i64 0))⟩])
  (.bl 0
  (.lp
  (.sq (.rg [⟨(some 15), none, .ib .lss (.t 14) (.c (.int .i64 5))⟩])
  (.sq (.cd (.t 15)
  .sk
  (.ex 0))
  (.sq (.bl 1
  (.sq (.rg [⟨(some 16), none, .iv (.t 13) (.t 14) 5 3 true⟩,
    ⟨(some 8), none, .al 70 [(.int .i64 0), (.int .i64 0), (.int .i64 0)]⟩,
    ⟨none, none, .st (.t 8) (.t 16) 3⟩])
  (.sq (.rg [⟨(some 17), none, .fa (.t 8) 0⟩,
    ⟨(some 18), none, .ld (.t 17) 1 false⟩,
    ⟨(some 19), none, .mv (.t 1)⟩,
    ⟨(some 20), none, .ib .eql (.t 18) (.t 19)⟩,
    ⟨(some 21), none, .mv (.t 20)⟩,
    ⟨(some 22), (some (21, true)), .mv (.t 2)⟩,
    ⟨(some 23), (some (21, true)), .fa (.t 8) 2⟩,
    ⟨(some 24), (some (21, true)), .ld (.t 23) 1 false⟩,
    ⟨(some 25), (some (21, true)), .ib .sub (.t 24) (.c (.int .i64 1))⟩,
    ⟨(some 26), (some (21, true)), .ca 52 [(.t 22), (.c (.int .i64 0)), (.t 25)]⟩,
    ⟨(some 27), none, .pk (.t 21) (.t 26) (.c (.bool false))⟩])
  (.cd (.t 27)
  (.sq (.rg [⟨(some 28), none, .fa (.t 8) 1⟩,
    ⟨(some 29), none, .ld (.t 28) 1 false⟩,
    ⟨(some 30), none, .mv (.t 2)⟩,
    ⟨(some 31), none, .ib .add (.t 29) (.t 30)⟩,
    ⟨(some 6), none, .mv (.t 31)⟩])
  .rt)
  .sk))))
  (.rg [⟨(some 32), none, .ib .add (.t 14) (.c (.int .i64 1))⟩,
    ⟨(some 14), none, .mv (.t 32)⟩])))))))
  (.sq (.rg [⟨(some 6), none, .mv (.c (.int .i64 (-1)))⟩])
  .rt))))⟩
theorem k77 : cF Try.prog Try.f77 = some c77 := by kernel_rfl
/-- rundale/word.PutHead -/
def c78 : Fu := ⟨31, [.t 2, .t 3],
  (.sq (.rg [⟨(some 1), none, .bx 135 (.t 0)⟩,
    ⟨(some 2), none, .mv (.c (.int .u64 0))⟩,
    ⟨(some 3), none, .mv (.c (.bool false))⟩])
  (.sq (.sq (.rg [⟨(some 6), none, .fa (.t 1) 0⟩,
    ⟨(some 7), none, .ld (.t 6) 1 false⟩,
    ⟨(some 8), none, .ca 87 [(.t 7), (.c (.int .i64 (-1))), (.c (.int .i64 4294967294))]⟩,
    ⟨(some 9), none, .nt (.t 8)⟩,
    ⟨(some 10), none, .mv (.t 9)⟩,
    ⟨(some 11), (some (10, false)), .fa (.t 1) 1⟩,
    ⟨(some 12), (some (10, false)), .ld (.t 11) 1 false⟩,
    ⟨(some 13), (some (10, false)), .ca 87 [(.t 12), (.c (.int .i64 0)), (.c (.int .i64 4294967295))]⟩,
    ⟨(some 14), (some (10, false)), .nt (.t 13)⟩,
    ⟨(some 15), none, .pk (.t 10) (.c (.bool true)) (.t 14)⟩])
  (.cd (.t 15)
  (.sq (.rg [⟨(some 2), none, .mv (.c (.int .u64 0))⟩,
    ⟨(some 3), none, .mv (.c (.bool false))⟩])
  .rt)
  .sk))
  (.sq (.rg [⟨(some 17), none, .fa (.t 1) 0⟩,
    ⟨(some 18), none, .ld (.t 17) 1 false⟩,
    ⟨(some 19), none, .ib .add (.t 18) (.c (.int .i64 1))⟩,
    ⟨(some 20), none, .cv .u64 (.t 19)⟩,
    ⟨(some 21), none, .ca 88 [(.c (.int .u64 0)), (.c (.int .i64 0)), (.c (.int .i64 32)), (.t 20)]⟩,
    ⟨(some 16), none, .mv (.t 21)⟩,
    ⟨(some 22), none, .ex (.t 16) 0⟩,
    ⟨(some 23), none, .ex (.t 16) 1⟩,
    ⟨(some 4), none, .mv (.t 22)⟩,
    ⟨(some 5), none, .mv (.t 23)⟩])
  (.sq (.rg [⟨(some 24), none, .mv (.t 4)⟩,
    ⟨(some 25), none, .fa (.t 1) 1⟩,
    ⟨(some 26), none, .ld (.t 25) 1 false⟩,
    ⟨(some 27), none, .cv .u64 (.t 26)⟩,
    ⟨(some 28), none, .ca 88 [(.t 24), (.c (.int .i64 32)), (.c (.int .i64 32)), (.t 27)]⟩,
    ⟨(some 29), none, .ex (.t 28) 0⟩,
    ⟨(some 30), none, .ex (.t 28) 1⟩,
    ⟨(some 2), none, .mv (.t 29)⟩,
    ⟨(some 3), none, .mv (.t 30)⟩])
  .rt))))⟩
theorem k78 : cF Try.prog Try.f78 = some c78 := by kernel_rfl
/-- rundale/rundaleref1.May -/
def c79 : Fu := ⟨37, [.t 2],
  (.sq (.rg [⟨(some 1), none, .bx 24 (.t 0)⟩,
    ⟨(some 2), none, .mv (.c (.bool false))⟩])
  (.sq (.rg [⟨(some 3), none, .fa (.t 1) 0⟩,
    ⟨(some 4), none, .ld (.t 3) 1 false⟩,
    ⟨(some 5), none, .ca 89 [(.t 4), (.c (.int .i64 1)), (.c (.int .i64 64))]⟩,
    ⟨(some 6), none, .mv (.t 5)⟩,
    ⟨(some 7), (some (6, true)), .fa (.t 1) 1⟩,
    ⟨(some 8), (some (6, true)), .ld (.t 7) 1 false⟩,
    ⟨(some 9), (some (6, true)), .ca 89 [(.t 8), (.c (.int .i64 1)), (.c (.int .i64 4096))]⟩,
    ⟨(some 10), none, .pk (.t 6) (.t 9) (.c (.bool false))⟩,
    ⟨(some 11), none, .mv (.t 10)⟩,
    ⟨(some 12), (some (11, true)), .fa (.t 1) 2⟩,
    ⟨(some 13), (some (11, true)), .ld (.t 12) 1 false⟩,
    ⟨(some 14), (some (11, true)), .ca 89 [(.t 13), (.c (.int .i64 8)), (.c (.int .i64 1024))]⟩,
    ⟨(some 15), none, .pk (.t 11) (.t 14) (.c (.bool false))⟩,
    ⟨(some 16), none, .mv (.t 15)⟩,
    ⟨(some 17), (some (16, true)), .fa (.t 1) 2⟩,
    ⟨(some 18), (some (16, true)), .ld (.t 17) 1 false⟩,
    ⟨(some 19), (some (16, true)), .ib .rem (.t 18) (.c (.int .i64 8))⟩,
    ⟨(some 20), (some (16, true)), .ib .eql (.t 19) (.c (.int .i64 0))⟩,
    ⟨(some 21), none, .pk (.t 16) (.t 20) (.c (.bool false))⟩,
    ⟨(some 22), none, .mv (.t 21)⟩,
    ⟨(some 23), (some (22, true)), .fa (.t 1) 3⟩,
    ⟨(some 24), (some (22, true)), .ld (.t 23) 1 false⟩,
    ⟨(some 25), (some (22, true)), .ca 89 [(.t 24), (.c (.int .i64 1)), (.c (.int .i64 4096))]⟩,
    ⟨(some 26), none, .pk (.t 22) (.t 25) (.c (.bool false))⟩,
    ⟨(some 27), none, .mv (.t 26)⟩,
    ⟨(some 28), (some (27, true)), .fa (.t 1) 4⟩,
    ⟨(some 29), (some (27, true)), .ld (.t 28) 1 false⟩,
    ⟨(some 30), (some (27, true)), .ca 89 [(.t 29), (.c (.int .i64 0)), (.c (.int .i64 64))]⟩,
    ⟨(some 31), none, .pk (.t 27) (.t 30) (.c (.bool false))⟩,
    ⟨(some 32), none, .mv (.t 31)⟩,
    ⟨(some 33), (some (32, true)), .fa (.t 1) 5⟩,
    ⟨(some 34), (some (32, true)), .ld (.t 33) 1 false⟩,
    ⟨(some 35), (some (32, true)), .ca 89 [(.t 34), (.c (.int .i64 1)), (.c (.int .i64 8))]⟩,
    ⟨(some 36), none, .pk (.t 32) (.t 35) (.c (.bool false))⟩,
    ⟨(some 2), none, .mv (.t 36)⟩])
  .rt))⟩
theorem k79 : cF Try.prog Try.f79 = some c79 := by kernel_rfl
/-- rundale/rundaleref1.PutHead -/
def c80 : Fu := ⟨31, [.t 2, .t 3],
  (.sq (.rg [⟨(some 1), none, .bx 146 (.t 0)⟩,
    ⟨(some 2), none, .mv (.c (.int .u64 0))⟩,
    ⟨(some 3), none, .mv (.c (.bool false))⟩])
  (.sq (.sq (.rg [⟨(some 4), none, .fa (.t 1) 0⟩,
    ⟨(some 5), none, .ld (.t 4) 1 false⟩,
    ⟨(some 6), none, .ib .lss (.t 5) (.c (.int .i64 (-1)))⟩,
    ⟨(some 7), none, .mv (.t 6)⟩,
    ⟨(some 8), (some (7, false)), .fa (.t 1) 0⟩,
    ⟨(some 9), (some (7, false)), .ld (.t 8) 1 false⟩,
    ⟨(some 10), (some (7, false)), .ib .geq (.t 9) (.c (.int .i64 4294967295))⟩,
    ⟨(some 11), none, .pk (.t 7) (.c (.bool true)) (.t 10)⟩,
    ⟨(some 12), none, .mv (.t 11)⟩,
    ⟨(some 13), (some (12, false)), .fa (.t 1) 1⟩,
    ⟨(some 14), (some (12, false)), .ld (.t 13) 1 false⟩,
    ⟨(some 15), (some (12, false)), .ib .lss (.t 14) (.c (.int .i64 0))⟩,
    ⟨(some 16), none, .pk (.t 12) (.c (.bool true)) (.t 15)⟩,
    ⟨(some 17), none, .mv (.t 16)⟩,
    ⟨(some 18), (some (17, false)), .fa (.t 1) 1⟩,
    ⟨(some 19), (some (17, false)), .ld (.t 18) 1 false⟩,
    ⟨(some 20), (some (17, false)), .ib .gtr (.t 19) (.c (.int .i64 4294967295))⟩,
    ⟨(some 21), none, .pk (.t 17) (.c (.bool true)) (.t 20)⟩])
  (.cd (.t 21)
  (.sq (.rg [⟨(some 2), none, .mv (.c (.int .u64 0))⟩,
    ⟨(some 3), none, .mv (.c (.bool false))⟩])
  .rt)
  .sk))
  (.sq (.rg [⟨(some 22), none, .fa (.t 1) 1⟩,
    ⟨(some 23), none, .ld (.t 22) 1 false⟩,
    ⟨(some 24), none, .cv .u64 (.t 23)⟩,
    ⟨(some 25), none, .ib .mul (.t 24) (.c (.int .u64 4294967296))⟩,
    ⟨(some 26), none, .fa (.t 1) 0⟩,
    ⟨(some 27), none, .ld (.t 26) 1 false⟩,
    ⟨(some 28), none, .ib .add (.t 27) (.c (.int .i64 1))⟩,
    ⟨(some 29), none, .cv .u64 (.t 28)⟩,
    ⟨(some 30), none, .ib .add (.t 25) (.t 29)⟩,
    ⟨(some 2), none, .mv (.t 30)⟩,
    ⟨(some 3), none, .mv (.c (.bool true))⟩])
  .rt)))⟩
theorem k80 : cF Try.prog Try.f80 = some c80 := by kernel_rfl
/-- rundale/bits.Get -/
def c81 : Fu := ⟨17, [.t 6],
  (.sq (.rg [⟨(some 6), none, .mv (.c (.int .u64 0))⟩])
  (.sq (.sq (.rg [⟨(some 7), none, .mv (.t 1)⟩,
    ⟨(some 8), none, .mv (.t 2)⟩,
    ⟨(some 9), none, .ca 90 [(.t 7), (.t 8)]⟩,
    ⟨(some 10), none, .nt (.t 9)⟩])
  (.cd (.t 10)
  (.sq (.rg [⟨(some 6), none, .mv (.c (.int .u64 0))⟩])
  .rt)
  .sk))
  (.sq (.rd [⟨0, 0, [0], ⟨(some 11), none, .mv (.t 0)⟩⟩,
    ⟨1, 0, [1], ⟨(some 12), none, .mv (.t 1)⟩⟩,
    ⟨2, 3, [11, 12], ⟨(some 13), none, .ib .shr (.t 11) (.t 12)⟩⟩,
    ⟨3, 0, [2], ⟨(some 14), none, .mv (.t 2)⟩⟩,
    ⟨4, 8, [14], ⟨(some 15), none, .ca 91 [(.t 14)]⟩⟩,
    ⟨5, 31, [13, 15], ⟨(some 16), none, .ib .and (.t 13) (.t 15)⟩⟩,
    ⟨6, 63, [16], ⟨(some 6), none, .mv (.t 16)⟩⟩])
  .rt)))⟩
theorem k81 : cF Try.prog Try.f81 = some c81 := by kernel_rfl
/-- (*rundale/cells.Cells).stroke -/
def c82 : Fu := ⟨43, [.t 10],
  (.sq (.rg [⟨(some 10), none, .mv (.c (.int .u64 0))⟩])
  (.sq (.rg [⟨(some 12), none, .mv (.t 0)⟩,
    ⟨(some 13), none, .nc (.t 12)⟩,
    ⟨(some 14), none, .fa (.t 13) 0⟩,
    ⟨(some 15), none, .ld (.t 14) 1 false⟩,
    ⟨(some 16), none, .mv (.t 2)⟩,
    ⟨(some 17), none, .ia (.t 15) (.t 16) 1⟩,
    ⟨(some 18), none, .ld (.t 17) 1 false⟩,
    ⟨(some 11), none, .mv (.t 18)⟩])
  (.sq (.rg [⟨(some 19), none, .mv (.t 0)⟩,
    ⟨(some 20), none, .nc (.t 19)⟩,
    ⟨(some 21), none, .fa (.t 20) 0⟩,
    ⟨(some 22), none, .ld (.t 21) 1 false⟩,
    ⟨(some 23), none, .mv (.t 2)⟩,
    ⟨(some 24), none, .mv (.t 3)⟩,
    ⟨(some 25), none, .ia (.t 22) (.t 23) 1⟩,
    ⟨none, none, .st (.t 25) (.t 24) 1⟩])
  (.sq (.rg [⟨(some 26), none, .mv (.t 0)⟩,
    ⟨(some 27), none, .nc (.t 26)⟩,
    ⟨(some 28), none, .fa (.t 27) 1⟩,
    ⟨(some 29), none, .ld (.t 28) 1 false⟩,
    ⟨(some 30), none, .ib .add (.t 29) (.c (.int .i64 1))⟩,
    ⟨(some 31), none, .nc (.t 26)⟩,
    ⟨(some 32), none, .fa (.t 31) 1⟩,
    ⟨none, none, .st (.t 32) (.t 30) 1⟩])
  (.sq (.rg [⟨(some 33), none, .mv (.t 0)⟩,
    ⟨(some 34), none, .mv (.t 1)⟩,
    ⟨(some 35), none, .mv (.t 2)⟩,
    ⟨(some 36), none, .mv (.t 11)⟩,
    ⟨(some 37), none, .mv (.t 3)⟩,
    ⟨(some 38), none, .mv (.t 4)⟩,
    ⟨(some 39), none, .bd [(.int .i64 0), (.int .i64 0), (.int .u64 0), (.int .u64 0), (.bool false)] [(0, 1, (.t 34)), (1, 1, (.t 35)), (2, 1, (.t 36)), (3, 1, (.t 37)), (4, 1, (.t 38))]⟩,
    ⟨(some 40), none, .nc (.t 33)⟩,
    ⟨(some 41), none, .fa (.t 40) 2⟩,
    ⟨none, none, .st (.t 41) (.t 39) 5⟩])
  (.sq (.rg [⟨(some 42), none, .mv (.t 11)⟩,
    ⟨(some 10), none, .mv (.t 42)⟩])
  .rt))))))⟩
theorem k82 : cF Try.prog Try.f82 = some c82 := by kernel_rfl
/-- (*rundale/stack.Pop).load -/
def c83 : Fu := ⟨54, [],
  (.sq (.rd [⟨0, 0, [0], ⟨(some 4), none, .mv (.t 0)⟩⟩,
    ⟨1, 0, [0], ⟨(some 5), none, .mv (.t 0)⟩⟩,
    ⟨2, 2, [5], ⟨(some 6), none, .nc (.t 5)⟩⟩,
    ⟨3, 6, [6], ⟨(some 7), none, .fa (.t 6) 5⟩⟩,
    ⟨4, 14, [7], ⟨(some 8), none, .ld (.t 7) 1 false⟩⟩,
    ⟨5, 30, [8], ⟨(some 9), none, .nc (.t 8)⟩⟩,
    ⟨6, 62, [9], ⟨(some 10), none, .fa (.t 9) 0⟩⟩,
    ⟨7, 126, [10], ⟨(some 11), none, .ld (.t 10) 1 false⟩⟩,
    ⟨8, 0, [0], ⟨(some 12), none, .mv (.t 0)⟩⟩,
    ⟨9, 256, [12], ⟨(some 13), none, .nc (.t 12)⟩⟩,
    ⟨10, 768, [13], ⟨(some 14), none, .fa (.t 13) 5⟩⟩,
    ⟨11, 1792, [14], ⟨(some 15), none, .ld (.t 14) 1 false⟩⟩,
    ⟨12, 3840, [15], ⟨(some 16), none, .nc (.t 15)⟩⟩,
    ⟨13, 7936, [16], ⟨(some 17), none, .fa (.t 16) 1⟩⟩,
    ⟨14, 16128, [17], ⟨(some 18), none, .ld (.t 17) 1 false⟩⟩,
    ⟨15, 32766, [11, 18], ⟨(some 19), none, .ca 69 [(.t 11), (.t 18)]⟩⟩,
    ⟨16, 65534, [19], ⟨(some 3), none, .mv (.t 19)⟩⟩,
    ⟨17, 131070, [3], ⟨(some 20), none, .ex (.t 3) 0⟩⟩,
    ⟨18, 131070, [3], ⟨(some 21), none, .ex (.t 3) 1⟩⟩,
    ⟨19, 262143, [4], ⟨(some 22), none, .nc (.t 4)⟩⟩,
    ⟨20, 786431, [22], ⟨(some 23), none, .fa (.t 22) 8⟩⟩,
    ⟨21, 1835007, [23, 20], ⟨none, none, .st (.t 23) (.t 20) 1⟩⟩])
  (.sq (.rg [⟨(some 24), none, .mv (.t 0)⟩,
    ⟨(some 25), none, .nc (.t 24)⟩,
    ⟨(some 26), none, .fa (.t 25) 9⟩,
    ⟨none, none, .st (.t 26) (.c (.slice none 0 0)) 1⟩])
  (.sq (.rd [⟨0, 0, [0], ⟨(some 27), none, .mv (.t 0)⟩⟩,
    ⟨1, 1, [27], ⟨(some 28), none, .nc (.t 27)⟩⟩,
    ⟨2, 3, [28], ⟨(some 29), none, .fa (.t 28) 5⟩⟩,
    ⟨3, 7, [29], ⟨(some 30), none, .ld (.t 29) 1 false⟩⟩,
    ⟨4, 0, [0], ⟨(some 31), none, .mv (.t 0)⟩⟩,
    ⟨5, 16, [31], ⟨(some 32), none, .nc (.t 31)⟩⟩,
    ⟨6, 48, [32], ⟨(some 33), none, .fa (.t 32) 8⟩⟩,
    ⟨7, 112, [33], ⟨(some 34), none, .ld (.t 33) 1 false⟩⟩,
    ⟨8, 255, [30, 34], ⟨(some 35), none, .ca 42 [(.t 30), (.t 34)]⟩⟩,
    ⟨9, 511, [35], ⟨(some 2), none, .mv (.t 35)⟩⟩])
  (.sq (.rg [⟨(some 36), none, .mv (.t 2)⟩,
    ⟨(some 37), none, .ib .geq (.t 36) (.c (.int .i64 0))⟩])
  (.cd (.t 37)
  (.sq (.rg [⟨(some 38), none, .mv (.t 0)⟩,
    ⟨(some 39), none, .mv (.t 0)⟩,
    ⟨(some 40), none, .nc (.t 39)⟩,
    ⟨(some 41), none, .fa (.t 40) 9⟩,
    ⟨(some 42), none, .ld (.t 41) 1 false⟩,
    ⟨(some 43), none, .mv (.t 2)⟩,
    ⟨(some 44), none, .bs 3 1 [(.int .i64 0)] [(0, 1, (.t 43))]⟩,
    ⟨(some 45), none, .ap 44 3 1 8 [(.int .i64 0)] (.t 42) (.t 44)⟩,
    ⟨(some 46), none, .nc (.t 38)⟩,
    ⟨(some 47), none, .fa (.t 46) 9⟩,
    ⟨none, none, .st (.t 47) (.t 45) 1⟩])
  (.rg [⟨(some 48), none, .mv (.t 0)⟩,
    ⟨(some 49), none, .nc (.t 48)⟩,
    ⟨(some 50), none, .fa (.t 49) 0⟩,
    ⟨(some 51), none, .mv (.t 0)⟩,
    ⟨(some 52), none, .mf (.func 92) [(.t 51)] []⟩,
    ⟨(some 53), none, .ca 47 [(.t 50), (.t 52)]⟩]))
  .sk)))))⟩
theorem k83 : cF Try.prog Try.f83 = some c83 := by kernel_rfl
/-- (*rundale/run.Machine).on -/
def c84 : Fu := ⟨17, [],
  (.sq (.sq (.rg [⟨(some 2), none, .mv (.t 0)⟩,
    ⟨(some 3), none, .nc (.t 2)⟩,
    ⟨(some 4), none, .fa (.t 3) 2⟩,
    ⟨(some 5), none, .ld (.t 4) 1 false⟩,
    ⟨(some 6), none, .cl (.t 5) []⟩])
  (.cd (.t 6)
  (.sq (.rg [⟨(some 7), none, .mv (.t 0)⟩,
    ⟨(some 8), none, .nc (.t 7)⟩,
    ⟨(some 9), none, .fa (.t 8) 3⟩,
    ⟨(some 10), none, .ld (.t 9) 1 false⟩,
    ⟨(some 11), none, .cl (.t 10) []⟩])
  .rt)
  .sk))
  (.rg [⟨(some 12), none, .mv (.t 0)⟩,
    ⟨(some 13), none, .mv (.t 0)⟩,
    ⟨(some 14), none, .mf (.func 93) [(.t 13)] []⟩,
    ⟨(some 15), none, .nc (.t 12)⟩,
    ⟨(some 16), none, .fa (.t 15) 0⟩,
    ⟨none, none, .st (.t 16) (.t 14) 1⟩]))⟩
theorem k84 : cF Try.prog Try.f84 = some c84 := by kernel_rfl
/-- (*rundale/stack.Pop).Got -/
def c85 : Fu := ⟨11, [.t 2],
  (.sq (.rg [⟨(some 2), none, .mv (.c (.slice none 0 0))⟩])
  (.sq (.sq (.rg [⟨(some 3), none, .mv (.t 0)⟩,
    ⟨(some 4), none, .ca 74 [(.t 3)]⟩,
    ⟨(some 5), none, .nt (.t 4)⟩])
  (.cd (.t 5)
  (.sq (.rg [⟨(some 2), none, .mv (.c (.slice none 0 0))⟩])
  .rt)
  .sk))
  (.sq (.rg [⟨(some 6), none, .mv (.t 0)⟩,
    ⟨(some 7), none, .nc (.t 6)⟩,
    ⟨(some 8), none, .fa (.t 7) 9⟩,
    ⟨(some 9), none, .ld (.t 8) 1 false⟩,
    ⟨(some 10), none, .ca 65 [(.t 9)]⟩,
    ⟨(some 2), none, .mv (.t 10)⟩])
  .rt)))⟩
theorem k85 : cF Try.prog Try.f85 = some c85 := by kernel_rfl
/-- (*rundale/supply.Supply).Put -/
def c86 : Fu := ⟨10, [],
  (.rg [⟨(some 4), none, .mv (.t 0)⟩,
    ⟨(some 5), none, .nc (.t 4)⟩,
    ⟨(some 6), none, .fa (.t 5) 8⟩,
    ⟨(some 7), none, .ld (.t 6) 1 false⟩,
    ⟨(some 8), none, .mv (.t 1)⟩,
    ⟨(some 9), none, .ca 37 [(.t 7), (.t 8)]⟩])⟩
theorem k86 : cF Try.prog Try.f86 = some c86 := by kernel_rfl
/-- rundale/word.within -/
def c87 : Fu := ⟨15, [.t 6],
  (.sq (.rg [⟨(some 6), none, .mv (.c (.bool false))⟩])
  (.sq (.rg [⟨(some 7), none, .mv (.t 0)⟩,
    ⟨(some 8), none, .mv (.t 1)⟩,
    ⟨(some 9), none, .ib .geq (.t 7) (.t 8)⟩,
    ⟨(some 10), none, .mv (.t 9)⟩,
    ⟨(some 11), (some (10, true)), .mv (.t 0)⟩,
    ⟨(some 12), (some (10, true)), .mv (.t 2)⟩,
    ⟨(some 13), (some (10, true)), .ib .leq (.t 11) (.t 12)⟩,
    ⟨(some 14), none, .pk (.t 10) (.t 13) (.c (.bool false))⟩,
    ⟨(some 6), none, .mv (.t 14)⟩])
  .rt))⟩
theorem k87 : cF Try.prog Try.f87 = some c87 := by kernel_rfl
/-- rundale/bits.Put -/
def c88 : Fu := ⟨30, [.t 8, .t 9],
  (.sq (.rg [⟨(some 8), none, .mv (.c (.int .u64 0))⟩,
    ⟨(some 9), none, .mv (.c (.bool false))⟩])
  (.sq (.sq (.rg [⟨(some 10), none, .mv (.t 1)⟩,
    ⟨(some 11), none, .mv (.t 2)⟩,
    ⟨(some 12), none, .ca 90 [(.t 10), (.t 11)]⟩,
    ⟨(some 13), none, .nt (.t 12)⟩,
    ⟨(some 14), none, .mv (.t 13)⟩,
    ⟨(some 15), (some (14, false)), .mv (.t 3)⟩,
    ⟨(some 16), (some (14, false)), .mv (.t 2)⟩,
    ⟨(some 17), (some (14, false)), .ca 94 [(.t 15), (.t 16)]⟩,
    ⟨(some 18), (some (14, false)), .nt (.t 17)⟩,
    ⟨(some 19), none, .pk (.t 14) (.c (.bool true)) (.t 18)⟩])
  (.cd (.t 19)
  (.sq (.rg [⟨(some 8), none, .mv (.c (.int .u64 0))⟩,
    ⟨(some 9), none, .mv (.c (.bool false))⟩])
  .rt)
  .sk))
  (.sq (.rd [⟨0, 0, [0], ⟨(some 20), none, .mv (.t 0)⟩⟩,
    ⟨1, 0, [2], ⟨(some 21), none, .mv (.t 2)⟩⟩,
    ⟨2, 2, [21], ⟨(some 22), none, .ca 91 [(.t 21)]⟩⟩,
    ⟨3, 0, [1], ⟨(some 23), none, .mv (.t 1)⟩⟩,
    ⟨4, 14, [22, 23], ⟨(some 24), none, .ib .shl (.t 22) (.t 23)⟩⟩,
    ⟨5, 31, [20, 24], ⟨(some 25), none, .ib .andNot (.t 20) (.t 24)⟩⟩,
    ⟨6, 0, [3], ⟨(some 26), none, .mv (.t 3)⟩⟩,
    ⟨7, 0, [1], ⟨(some 27), none, .mv (.t 1)⟩⟩,
    ⟨8, 192, [26, 27], ⟨(some 28), none, .ib .shl (.t 26) (.t 27)⟩⟩,
    ⟨9, 511, [25, 28], ⟨(some 29), none, .ib .or (.t 25) (.t 28)⟩⟩,
    ⟨10, 1023, [29], ⟨(some 8), none, .mv (.t 29)⟩⟩,
    ⟨11, 2047, [], ⟨(some 9), none, .mv (.c (.bool true))⟩⟩])
  .rt)))⟩
theorem k88 : cF Try.prog Try.f88 = some c88 := by kernel_rfl
/-- rundale/rundaleref1.in -/
def c89 : Fu := ⟨15, [.t 6],
  (.sq (.rg [⟨(some 6), none, .mv (.c (.bool false))⟩])
  (.sq (.rg [⟨(some 7), none, .mv (.t 0)⟩,
    ⟨(some 8), none, .mv (.t 1)⟩,
    ⟨(some 9), none, .ib .geq (.t 7) (.t 8)⟩,
    ⟨(some 10), none, .mv (.t 9)⟩,
    ⟨(some 11), (some (10, true)), .mv (.t 0)⟩,
    ⟨(some 12), (some (10, true)), .mv (.t 2)⟩,
    ⟨(some 13), (some (10, true)), .ib .leq (.t 11) (.t 12)⟩,
    ⟨(some 14), none, .pk (.t 10) (.t 13) (.c (.bool false))⟩,
    ⟨(some 6), none, .mv (.t 14)⟩])
  .rt))⟩
theorem k89 : cF Try.prog Try.f89 = some c89 := by kernel_rfl
/-- rundale/bits.field -/
def c90 : Fu := ⟨21, [.t 4],
  (.sq (.rg [⟨(some 4), none, .mv (.c (.bool false))⟩])
  (.sq (.rg [⟨(some 5), none, .mv (.t 1)⟩,
    ⟨(some 6), none, .ib .geq (.t 5) (.c (.int .i64 0))⟩,
    ⟨(some 7), none, .mv (.t 6)⟩,
    ⟨(some 8), (some (7, true)), .mv (.t 1)⟩,
    ⟨(some 9), (some (7, true)), .ib .leq (.t 8) (.c (.int .i64 64))⟩,
    ⟨(some 10), none, .pk (.t 7) (.t 9) (.c (.bool false))⟩,
    ⟨(some 11), none, .mv (.t 10)⟩,
    ⟨(some 12), (some (11, true)), .mv (.t 0)⟩,
    ⟨(some 13), (some (11, true)), .ib .geq (.t 12) (.c (.int .i64 0))⟩,
    ⟨(some 14), none, .pk (.t 11) (.t 13) (.c (.bool false))⟩,
    ⟨(some 15), none, .mv (.t 14)⟩,
    ⟨(some 16), (some (15, true)), .mv (.t 0)⟩,
    ⟨(some 17), (some (15, true)), .mv (.t 1)⟩,
    ⟨(some 18), (some (15, true)), .ib .sub (.c (.int .i64 64)) (.t 17)⟩,
    ⟨(some 19), (some (15, true)), .ib .leq (.t 16) (.t 18)⟩,
    ⟨(some 20), none, .pk (.t 15) (.t 19) (.c (.bool false))⟩,
    ⟨(some 4), none, .mv (.t 20)⟩])
  .rt))⟩
theorem k90 : cF Try.prog Try.f90 = some c90 := by kernel_rfl
/-- rundale/bits.Mask -/
def c91 : Fu := ⟨8, [.t 2],
  (.sq (.rg [⟨(some 2), none, .mv (.c (.int .u64 0))⟩])
  (.sq (.rg [⟨(some 3), none, .mv (.t 0)⟩,
    ⟨(some 4), none, .mm true (.t 3) (.c (.int .i64 0))⟩,
    ⟨(some 5), none, .mm false (.t 4) (.c (.int .i64 64))⟩,
    ⟨(some 6), none, .ib .shl (.c (.int .u64 1)) (.t 5)⟩,
    ⟨(some 7), none, .ib .sub (.t 6) (.c (.int .u64 1))⟩,
    ⟨(some 2), none, .mv (.t 7)⟩])
  .rt))⟩
theorem k91 : cF Try.prog Try.f91 = some c91 := by kernel_rfl
/-- (*rundale/stack.Pop).link -/
def c92 : Fu := ⟨86, [],
  (.sq (.rd [⟨0, 0, [0], ⟨(some 5), none, .mv (.t 0)⟩⟩,
    ⟨1, 1, [5], ⟨(some 6), none, .nc (.t 5)⟩⟩,
    ⟨2, 3, [6], ⟨(some 7), none, .fa (.t 6) 5⟩⟩,
    ⟨3, 7, [7], ⟨(some 8), none, .ld (.t 7) 1 false⟩⟩,
    ⟨4, 15, [8], ⟨(some 9), none, .nc (.t 8)⟩⟩,
    ⟨5, 31, [9], ⟨(some 10), none, .fa (.t 9) 0⟩⟩,
    ⟨6, 63, [10], ⟨(some 11), none, .ld (.t 10) 1 false⟩⟩,
    ⟨7, 0, [0], ⟨(some 12), none, .mv (.t 0)⟩⟩,
    ⟨8, 128, [12], ⟨(some 13), none, .nc (.t 12)⟩⟩,
    ⟨9, 384, [13], ⟨(some 14), none, .fa (.t 13) 5⟩⟩,
    ⟨10, 896, [14], ⟨(some 15), none, .ld (.t 14) 1 false⟩⟩,
    ⟨11, 1920, [15], ⟨(some 16), none, .nc (.t 15)⟩⟩,
    ⟨12, 3968, [16], ⟨(some 17), none, .fa (.t 16) 2⟩⟩,
    ⟨13, 8064, [17], ⟨(some 18), none, .ld (.t 17) 1 false⟩⟩,
    ⟨14, 0, [0], ⟨(some 19), none, .mv (.t 0)⟩⟩,
    ⟨15, 16384, [19], ⟨(some 20), none, .nc (.t 19)⟩⟩,
    ⟨16, 49152, [20], ⟨(some 21), none, .fa (.t 20) 9⟩⟩,
    ⟨17, 114688, [21], ⟨(some 22), none, .ld (.t 21) 1 false⟩⟩,
    ⟨18, 0, [0], ⟨(some 23), none, .mv (.t 0)⟩⟩,
    ⟨19, 262144, [23], ⟨(some 24), none, .nc (.t 23)⟩⟩,
    ⟨20, 786432, [24], ⟨(some 25), none, .fa (.t 24) 9⟩⟩,
    ⟨21, 1835008, [25], ⟨(some 26), none, .ld (.t 25) 1 false⟩⟩,
    ⟨22, 3932160, [26], ⟨(some 27), none, .len (.t 26)⟩⟩,
    ⟨23, 8126464, [27], ⟨(some 28), none, .ib .sub (.t 27) (.c (.int .i64 1))⟩⟩,
    ⟨24, 16760832, [22, 28], ⟨(some 29), none, .ia (.t 22) (.t 28) 1⟩⟩,
    ⟨25, 33538048, [29], ⟨(some 30), none, .ld (.t 29) 1 false⟩⟩,
    ⟨26, 67108736, [18, 30], ⟨(some 31), none, .ib .add (.t 18) (.t 30)⟩⟩,
    ⟨27, 134217727, [11, 31], ⟨(some 32), none, .ca 69 [(.t 11), (.t 31)]⟩⟩,
    ⟨28, 268435455, [32], ⟨(some 4), none, .mv (.t 32)⟩⟩,
    ⟨29, 536870911, [4], ⟨(some 33), none, .ex (.t 4) 0⟩⟩,
    ⟨30, 536870911, [4], ⟨(some 34), none, .ex (.t 4) 1⟩⟩,
    ⟨31, 1073741823, [33], ⟨(some 2), none, .mv (.t 33)⟩⟩,
    ⟨32, 4294967295, [34], ⟨(some 3), none, .mv (.t 34)⟩⟩])
  (.sq (.rg [⟨(some 35), none, .mv (.t 0)⟩,
    ⟨(some 36), none, .mv (.t 0)⟩,
    ⟨(some 37), none, .nc (.t 36)⟩,
    ⟨(some 38), none, .fa (.t 37) 5⟩,
    ⟨(some 39), none, .ld (.t 38) 1 false⟩,
    ⟨(some 40), none, .mv (.t 2)⟩,
    ⟨(some 41), none, .ca 44 [(.t 39), (.t 40)]⟩,
    ⟨(some 42), none, .nc (.t 35)⟩,
    ⟨(some 43), none, .fa (.t 42) 7⟩,
    ⟨none, none, .st (.t 43) (.t 41) 1⟩])
  (.sq (.rd [⟨0, 0, [0], ⟨(some 44), none, .mv (.t 0)⟩⟩,
    ⟨1, 1, [44], ⟨(some 45), none, .nc (.t 44)⟩⟩,
    ⟨2, 3, [45], ⟨(some 46), none, .fa (.t 45) 7⟩⟩,
    ⟨3, 7, [46], ⟨(some 47), none, .ld (.t 46) 1 false⟩⟩,
    ⟨4, 15, [47], ⟨(some 48), none, .ib .geq (.t 47) (.c (.int .i64 0))⟩⟩,
    ⟨5, 31, [48], ⟨(some 49), none, .mv (.t 48)⟩⟩,
    ⟨6, 63, [0, 49], ⟨(some 50), (some (49, true)), .mv (.t 0)⟩⟩,
    ⟨7, 127, [50, 49], ⟨(some 51), (some (49, true)), .nc (.t 50)⟩⟩,
    ⟨8, 255, [51, 49], ⟨(some 52), (some (49, true)), .fa (.t 51) 9⟩⟩,
    ⟨9, 511, [52, 49], ⟨(some 53), (some (49, true)), .ld (.t 52) 1 false⟩⟩,
    ⟨10, 1023, [53, 49], ⟨(some 54), (some (49, true)), .len (.t 53)⟩⟩,
    ⟨11, 63, [0, 49], ⟨(some 55), (some (49, true)), .mv (.t 0)⟩⟩,
    ⟨12, 2111, [55, 49], ⟨(some 56), (some (49, true)), .nc (.t 55)⟩⟩,
    ⟨13, 6207, [56, 49], ⟨(some 57), (some (49, true)), .fa (.t 56) 6⟩⟩,
    ⟨14, 14399, [57, 49], ⟨(some 58), (some (49, true)), .ld (.t 57) 1 false⟩⟩,
    ⟨15, 32767, [54, 58, 49], ⟨(some 59), (some (49, true)), .ib .lss (.t 54) (.t 58)⟩⟩,
    ⟨16, 65535, [49, 59], ⟨(some 60), none, .pk (.t 49) (.t 59) (.c (.bool false))⟩⟩])
  (.cd (.t 60)
  (.sq (.rd [⟨0, 0, [0], ⟨(some 61), none, .mv (.t 0)⟩⟩,
    ⟨1, 0, [0], ⟨(some 62), none, .mv (.t 0)⟩⟩,
    ⟨2, 2, [62], ⟨(some 63), none, .nc (.t 62)⟩⟩,
    ⟨3, 6, [63], ⟨(some 64), none, .fa (.t 63) 9⟩⟩,
    ⟨4, 14, [64], ⟨(some 65), none, .ld (.t 64) 1 false⟩⟩,
    ⟨5, 0, [0], ⟨(some 66), none, .mv (.t 0)⟩⟩,
    ⟨6, 32, [66], ⟨(some 67), none, .nc (.t 66)⟩⟩,
    ⟨7, 96, [67], ⟨(some 68), none, .fa (.t 67) 7⟩⟩,
    ⟨8, 224, [68], ⟨(some 69), none, .ld (.t 68) 1 false⟩⟩,
    ⟨9, 480, [69], ⟨(some 70), none, .bs 3 1 [(.int .i64 0)] [(0, 1, (.t 69))]⟩⟩,
    ⟨10, 1022, [65, 70], ⟨(some 71), none, .ap 44 3 1 8 [(.int .i64 0)] (.t 65) (.t 70)⟩⟩,
    ⟨11, 2047, [61], ⟨(some 72), none, .nc (.t 61)⟩⟩,
    ⟨12, 4095, [72], ⟨(some 73), none, .fa (.t 72) 9⟩⟩,
    ⟨13, 8191, [73, 71], ⟨none, none, .st (.t 73) (.t 71) 1⟩⟩])
  (.rg [⟨(some 74), none, .mv (.t 0)⟩,
    ⟨(some 75), none, .nc (.t 74)⟩,
    ⟨(some 76), none, .fa (.t 75) 0⟩,
    ⟨(some 77), none, .mv (.t 0)⟩,
    ⟨(some 78), none, .mf (.func 92) [(.t 77)] []⟩,
    ⟨(some 79), none, .ca 47 [(.t 76), (.t 78)]⟩]))
  (.rg [⟨(some 80), none, .mv (.t 0)⟩,
    ⟨(some 81), none, .nc (.t 80)⟩,
    ⟨(some 82), none, .fa (.t 81) 0⟩,
    ⟨(some 83), none, .mv (.t 0)⟩,
    ⟨(some 84), none, .mf (.func 95) [(.t 83)] []⟩,
    ⟨(some 85), none, .ca 47 [(.t 82), (.t 84)]⟩])))))⟩
theorem k92 : cF Try.prog Try.f92 = some c92 := by kernel_rfl
/-- (*rundale/run.Machine).through -/
def c93 : Fu := ⟨9, [],
  (.sq (.rg [⟨(some 2), none, .mv (.t 0)⟩,
    ⟨(some 3), none, .nc (.t 2)⟩,
    ⟨(some 4), none, .fa (.t 3) 1⟩,
    ⟨(some 5), none, .ld (.t 4) 1 false⟩,
    ⟨(some 6), none, .cl (.t 5) []⟩])
  (.rg [⟨(some 7), none, .mv (.t 0)⟩,
    ⟨(some 8), none, .ca 84 [(.t 7)]⟩]))⟩
theorem k93 : cF Try.prog Try.f93 = some c93 := by kernel_rfl
/-- rundale/bits.Fits -/
def c94 : Fu := ⟨10, [.t 4],
  (.sq (.rg [⟨(some 4), none, .mv (.c (.bool false))⟩])
  (.sq (.rg [⟨(some 5), none, .mv (.t 0)⟩,
    ⟨(some 6), none, .mv (.t 1)⟩,
    ⟨(some 7), none, .ca 91 [(.t 6)]⟩,
    ⟨(some 8), none, .ib .andNot (.t 5) (.t 7)⟩,
    ⟨(some 9), none, .ib .eql (.t 8) (.c (.int .u64 0))⟩,
    ⟨(some 4), none, .mv (.t 9)⟩])
  .rt))⟩
theorem k94 : cF Try.prog Try.f94 = some c94 := by kernel_rfl
/-- (*rundale/stack.Pop).cas -/
def c95 : Fu := ⟨22, [],
  (.sq (.rd [⟨0, 0, [0], ⟨(some 2), none, .mv (.t 0)⟩⟩,
    ⟨1, 1, [2], ⟨(some 3), none, .nc (.t 2)⟩⟩,
    ⟨2, 3, [3], ⟨(some 4), none, .fa (.t 3) 5⟩⟩,
    ⟨3, 7, [4], ⟨(some 5), none, .ld (.t 4) 1 false⟩⟩,
    ⟨4, 0, [0], ⟨(some 6), none, .mv (.t 0)⟩⟩,
    ⟨5, 16, [6], ⟨(some 7), none, .nc (.t 6)⟩⟩,
    ⟨6, 48, [7], ⟨(some 8), none, .fa (.t 7) 8⟩⟩,
    ⟨7, 112, [8], ⟨(some 9), none, .ld (.t 8) 1 false⟩⟩,
    ⟨8, 0, [0], ⟨(some 10), none, .mv (.t 0)⟩⟩,
    ⟨9, 256, [10], ⟨(some 11), none, .nc (.t 10)⟩⟩,
    ⟨10, 768, [11], ⟨(some 12), none, .fa (.t 11) 7⟩⟩,
    ⟨11, 1792, [12], ⟨(some 13), none, .ld (.t 12) 1 false⟩⟩,
    ⟨12, 4095, [5, 9, 13], ⟨(some 14), none, .ca 96 [(.t 5), (.t 9), (.t 13)]⟩⟩,
    ⟨13, 8191, [14], ⟨(some 15), none, .nt (.t 14)⟩⟩])
  (.cd (.t 15)
  (.rg [⟨(some 16), none, .mv (.t 0)⟩,
    ⟨(some 17), none, .nc (.t 16)⟩,
    ⟨(some 18), none, .fa (.t 17) 0⟩,
    ⟨(some 19), none, .mv (.t 0)⟩,
    ⟨(some 20), none, .mf (.func 83) [(.t 19)] []⟩,
    ⟨(some 21), none, .ca 47 [(.t 18), (.t 20)]⟩])
  .sk))⟩
theorem k95 : cF Try.prog Try.f95 = some c95 := by kernel_rfl
/-- (*rundale/stack.Stack).exchange -/
def c96 : Fu := ⟨34, [.t 6],
  (.sq (.rg [⟨(some 6), none, .mv (.c (.bool false))⟩])
  (.sq (.rg [⟨(some 12), none, .mv (.t 1)⟩,
    ⟨(some 13), none, .ca 67 [(.t 12)]⟩,
    ⟨(some 14), none, .mv (.t 2)⟩,
    ⟨(some 15), none, .ca 97 [(.t 13), (.t 14)]⟩,
    ⟨(some 16), none, .ca 78 [(.t 15)]⟩,
    ⟨(some 11), none, .mv (.t 16)⟩,
    ⟨(some 17), none, .ex (.t 11) 0⟩,
    ⟨(some 18), none, .ex (.t 11) 1⟩,
    ⟨(some 7), none, .mv (.t 17)⟩,
    ⟨(some 8), none, .mv (.t 18)⟩])
  (.sq (.rd [⟨0, 0, [0], ⟨(some 20), none, .mv (.t 0)⟩⟩,
    ⟨1, 1, [20], ⟨(some 21), none, .nc (.t 20)⟩⟩,
    ⟨2, 3, [21], ⟨(some 22), none, .fa (.t 21) 0⟩⟩,
    ⟨3, 7, [22], ⟨(some 23), none, .ld (.t 22) 1 false⟩⟩,
    ⟨4, 0, [0], ⟨(some 24), none, .mv (.t 0)⟩⟩,
    ⟨5, 16, [24], ⟨(some 25), none, .nc (.t 24)⟩⟩,
    ⟨6, 48, [25], ⟨(some 26), none, .fa (.t 25) 1⟩⟩,
    ⟨7, 112, [26], ⟨(some 27), none, .ld (.t 26) 1 false⟩⟩,
    ⟨8, 0, [1], ⟨(some 28), none, .mv (.t 1)⟩⟩,
    ⟨9, 0, [7], ⟨(some 29), none, .mv (.t 7)⟩⟩,
    ⟨10, 1023, [23, 27, 28, 29], ⟨(some 30), none, .ca 98 [(.t 23), (.t 27), (.t 28), (.t 29)]⟩⟩,
    ⟨11, 2047, [30], ⟨(some 19), none, .mv (.t 30)⟩⟩,
    ⟨12, 4095, [19], ⟨(some 31), none, .ex (.t 19) 0⟩⟩,
    ⟨13, 4095, [19], ⟨(some 32), none, .ex (.t 19) 1⟩⟩,
    ⟨14, 8191, [31], ⟨(some 9), none, .mv (.t 31)⟩⟩,
    ⟨15, 32767, [32], ⟨(some 10), none, .mv (.t 32)⟩⟩])
  (.sq (.rg [⟨(some 33), none, .mv (.t 9)⟩,
    ⟨(some 6), none, .mv (.t 33)⟩])
  .rt))))⟩
theorem k96 : cF Try.prog Try.f96 = some c96 := by kernel_rfl
/-- rundale/word.Next -/
def c97 : Fu := ⟨15, [.c 4 2 true],
  (.sq (.rg [⟨(some 2), none, .bx 135 (.t 0)⟩,
    ⟨(some 4), none, .al 135 [(.int .i64 0), (.int .i64 0)]⟩])
  (.sq (.rg [⟨(some 5), none, .mv (.c (.int .i64 0))⟩])
  (.sq (.sq (.rg [⟨(some 6), none, .fa (.t 2) 1⟩,
    ⟨(some 7), none, .ld (.t 6) 1 false⟩,
    ⟨(some 8), none, .ca 87 [(.t 7), (.c (.int .i64 0)), (.c (.int .i64 4294967294))]⟩])
  (.cd (.t 8)
  (.rg [⟨(some 9), none, .fa (.t 2) 1⟩,
    ⟨(some 10), none, .ld (.t 9) 1 false⟩,
    ⟨(some 11), none, .ib .add (.t 10) (.c (.int .i64 1))⟩,
    ⟨(some 5), none, .mv (.t 11)⟩])
  .sk))
  (.sq (.rg [⟨(some 12), none, .mv (.t 1)⟩,
    ⟨(some 13), none, .mv (.t 5)⟩,
    ⟨(some 14), none, .bd [(.int .i64 0), (.int .i64 0)] [(0, 1, (.t 12)), (1, 1, (.t 13))]⟩,
    ⟨none, none, .st (.t 4) (.t 14) 2⟩])
  .rt))))⟩
theorem k97 : cF Try.prog Try.f97 = some c97 := by kernel_rfl
/-- (*rundale/cells.Cells).Cas -/
def c98 : Fu := ⟨37, [.t 8, .t 9],
  (.sq (.rg [⟨(some 8), none, .mv (.c (.bool false))⟩,
    ⟨(some 9), none, .mv (.c (.int .i64 0))⟩])
  (.sq (.sq (.rg [⟨(some 10), none, .mv (.t 0)⟩,
    ⟨(some 11), none, .mv (.t 1)⟩,
    ⟨(some 12), none, .ca 41 [(.t 10), (.t 11)]⟩,
    ⟨(some 13), none, .nt (.t 12)⟩])
  (.cd (.t 13)
  (.sq (.rg [⟨(some 8), none, .mv (.c (.bool false))⟩,
    ⟨(some 9), none, .mv (.c (.int .i64 1))⟩])
  .rt)
  .sk))
  (.sq (.sq (.rg [⟨(some 14), none, .mv (.t 0)⟩,
    ⟨(some 15), none, .nc (.t 14)⟩,
    ⟨(some 16), none, .fa (.t 15) 0⟩,
    ⟨(some 17), none, .ld (.t 16) 1 false⟩,
    ⟨(some 18), none, .mv (.t 1)⟩,
    ⟨(some 19), none, .ia (.t 17) (.t 18) 1⟩,
    ⟨(some 20), none, .ld (.t 19) 1 false⟩,
    ⟨(some 21), none, .mv (.t 2)⟩,
    ⟨(some 22), none, .ib .neq (.t 20) (.t 21)⟩])
  (.cd (.t 22)
  (.sq (.rg [⟨(some 23), none, .mv (.t 0)⟩,
    ⟨(some 24), none, .mv (.t 1)⟩,
    ⟨(some 25), none, .mv (.t 0)⟩,
    ⟨(some 26), none, .nc (.t 25)⟩,
    ⟨(some 27), none, .fa (.t 26) 0⟩,
    ⟨(some 28), none, .ld (.t 27) 1 false⟩,
    ⟨(some 29), none, .mv (.t 1)⟩,
    ⟨(some 30), none, .ia (.t 28) (.t 29) 1⟩,
    ⟨(some 31), none, .ld (.t 30) 1 false⟩,
    ⟨(some 32), none, .ca 82 [(.t 23), (.c (.int .i64 3)), (.t 24), (.t 31), (.c (.bool false))]⟩])
  (.sq (.rg [⟨(some 8), none, .mv (.c (.bool false))⟩,
    ⟨(some 9), none, .mv (.c (.int .i64 0))⟩])
  .rt))
  .sk))
  (.sq (.rg [⟨(some 33), none, .mv (.t 0)⟩,
    ⟨(some 34), none, .mv (.t 1)⟩,
    ⟨(some 35), none, .mv (.t 3)⟩,
    ⟨(some 36), none, .ca 82 [(.t 33), (.c (.int .i64 3)), (.t 34), (.t 35), (.c (.bool true))]⟩])
  (.sq (.rg [⟨(some 8), none, .mv (.c (.bool true))⟩,
    ⟨(some 9), none, .mv (.c (.int .i64 0))⟩])
  .rt)))))⟩
theorem k98 : cF Try.prog Try.f98 = some c98 := by kernel_rfl
end Go.Proofs.Ytnbkjcmmjgkdaaa
