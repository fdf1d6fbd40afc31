/-
  The functions' small code, as a program printed it off the translation; each held against the model's own code by the kernel.
-/
import Derived.Test.YtnbkjcmmjgkdaaaGreatSlB
import Derived.Test.YtnbkjcmmjgkdaaaGreatProg
import Derived.KernelRfl
namespace Go.Proofs.YtnbkjcmmjgkdaaaGreat
open Go
set_option maxRecDepth 100000
/-- rundale/rundalelaw17.GatherNone -/
def c3 : Fu := ⟨106, [.t 4],
  (.sq (.rg [⟨(some 4), none, .mv (.c (.bool false))⟩])
  (.sq (.rg [⟨(some 18), none, .ca 9 []⟩,
    ⟨(some 5), none, .mv (.t 18)⟩])
  (.sq (.sq (.rg [⟨(some 19), none, .mv (.t 5)⟩,
    ⟨(some 20), none, .nt (.t 19)⟩])
  (.cd (.t 20)
  (.sq (.rg [⟨(some 4), none, .mv (.c (.bool false))⟩])
  .rt)
  .sk))
  (.sq (.rg [⟨(some 21), none, .mv (.t 0)⟩,
    ⟨(some 22), none, .ca 10 [(.t 21)]⟩,
    ⟨(some 6), none, .al 24 [(.int .i64 0), (.int .i64 0), (.int .i64 0), (.int .i64 0), (.int .i64 0), (.int .i64 0)]⟩,
    ⟨none, none, .st (.t 6) (.t 22) 6⟩])
  (.sq (.rg [⟨(some 24), none, .mv (.t 1)⟩,
    ⟨(some 25), none, .ld (.t 6) 6 true⟩,
    ⟨(some 26), none, .ca 13 [(.t 25)]⟩,
    ⟨(some 27), none, .ib .sub (.t 26) (.c (.int .i64 1))⟩,
    ⟨(some 28), none, .ca 12 [(.t 24), (.t 27)]⟩,
    ⟨(some 29), none, .ib .add (.c (.int .i64 1)) (.t 28)⟩,
    ⟨(some 30), none, .ca 11 [(.t 29)]⟩,
    ⟨(some 23), none, .mv (.t 30)⟩,
    ⟨(some 31), none, .ex (.t 23) 0⟩,
    ⟨(some 32), none, .ex (.t 23) 1⟩,
    ⟨(some 7), none, .mv (.t 31)⟩,
    ⟨(some 8), none, .mv (.t 32)⟩])
  (.sq (.rg [⟨(some 34), none, .ld (.t 6) 6 true⟩,
    ⟨(some 35), none, .ca 13 [(.t 34)]⟩,
    ⟨(some 36), none, .ca 11 [(.t 35)]⟩,
    ⟨(some 33), none, .mv (.t 36)⟩,
    ⟨(some 37), none, .ex (.t 33) 0⟩,
    ⟨(some 38), none, .ex (.t 33) 1⟩,
    ⟨(some 9), none, .mv (.t 37)⟩,
    ⟨(some 10), none, .mv (.t 38)⟩])
  (.sq (.sq (.rg [⟨(some 39), none, .mv (.t 7)⟩,
    ⟨(some 40), none, .en 0 false (.t 39) (.c (.pointer none))⟩,
    ⟨(some 41), none, .mv (.t 40)⟩,
    ⟨(some 42), (some (41, false)), .mv (.t 8)⟩,
    ⟨(some 43), (some (41, false)), .ib .neq (.t 42) (.c (.int .i64 0))⟩,
    ⟨(some 44), none, .pk (.t 41) (.c (.bool true)) (.t 43)⟩,
    ⟨(some 45), none, .mv (.t 44)⟩,
    ⟨(some 46), (some (45, false)), .mv (.t 9)⟩,
    ⟨(some 47), (some (45, false)), .en 0 false (.t 46) (.c (.pointer none))⟩,
    ⟨(some 48), none, .pk (.t 45) (.c (.bool true)) (.t 47)⟩,
    ⟨(some 49), none, .mv (.t 48)⟩,
    ⟨(some 50), (some (49, false)), .mv (.t 10)⟩,
    ⟨(some 51), (some (49, false)), .ib .neq (.t 50) (.c (.int .i64 0))⟩,
    ⟨(some 52), none, .pk (.t 49) (.c (.bool true)) (.t 51)⟩])
  (.cd (.t 52)
  (.sq (.rg [⟨(some 4), none, .mv (.c (.bool false))⟩])
  .rt)
  .sk))
  (.sq (.rg [⟨(some 54), none, .mv (.t 7)⟩,
    ⟨(some 55), none, .ld (.t 6) 6 true⟩,
    ⟨(some 56), none, .ca 14 [(.t 54), (.t 55)]⟩,
    ⟨(some 53), none, .mv (.t 56)⟩,
    ⟨(some 57), none, .ex (.t 53) 0⟩,
    ⟨(some 58), none, .ex (.t 53) 1⟩,
    ⟨(some 11), none, .mv (.t 57)⟩,
    ⟨(some 12), none, .mv (.t 58)⟩])
  (.sq (.rg [⟨(some 59), none, .ld (.t 6) 6 true⟩,
    ⟨(some 13), none, .al 24 [(.int .i64 0), (.int .i64 0), (.int .i64 0), (.int .i64 0), (.int .i64 0), (.int .i64 0)]⟩,
    ⟨none, none, .st (.t 13) (.t 59) 6⟩])
  (.sq (.rg [⟨(some 60), none, .mv (.t 1)⟩,
    ⟨(some 61), none, .ca 12 [(.t 60), (.c (.int .i64 1000))]⟩,
    ⟨(some 62), none, .ng (.t 61)⟩,
    ⟨(some 63), none, .fa (.t 13) 3⟩,
    ⟨none, none, .st (.t 63) (.t 62) 1⟩])
  (.sq (.rg [⟨(some 65), none, .mv (.t 9)⟩,
    ⟨(some 66), none, .ld (.t 13) 6 true⟩,
    ⟨(some 67), none, .ca 14 [(.t 65), (.t 66)]⟩,
    ⟨(some 64), none, .mv (.t 67)⟩,
    ⟨(some 68), none, .ex (.t 64) 0⟩,
    ⟨(some 69), none, .ex (.t 64) 1⟩,
    ⟨(some 14), none, .mv (.t 68)⟩,
    ⟨(some 15), none, .mv (.t 69)⟩])
  (.sq (.rg [⟨(some 71), none, .mv (.t 9)⟩,
    ⟨(some 72), none, .ld (.t 6) 6 true⟩,
    ⟨(some 73), none, .ca 14 [(.t 71), (.t 72)]⟩,
    ⟨(some 70), none, .mv (.t 73)⟩,
    ⟨(some 74), none, .ex (.t 70) 0⟩,
    ⟨(some 75), none, .ex (.t 70) 1⟩,
    ⟨(some 16), none, .mv (.t 74)⟩,
    ⟨(some 17), none, .mv (.t 75)⟩])
  (.sq (.rg [⟨(some 76), none, .mv (.t 5)⟩,
    ⟨(some 77), none, .mv (.t 76)⟩,
    ⟨(some 78), (some (77, true)), .mv (.t 11)⟩,
    ⟨(some 79), (some (77, true)), .en 0 false (.t 78) (.c (.pointer none))⟩,
    ⟨(some 80), none, .pk (.t 77) (.t 79) (.c (.bool false))⟩,
    ⟨(some 81), none, .mv (.t 80)⟩,
    ⟨(some 82), (some (81, true)), .mv (.t 12)⟩,
    ⟨(some 83), (some (81, true)), .ib .eql (.t 82) (.c (.int .i64 1))⟩,
    ⟨(some 84), none, .pk (.t 81) (.t 83) (.c (.bool false))⟩,
    ⟨(some 85), none, .mv (.t 84)⟩,
    ⟨(some 86), (some (85, true)), .mv (.t 14)⟩,
    ⟨(some 87), (some (85, true)), .en 0 false (.t 86) (.c (.pointer none))⟩,
    ⟨(some 88), none, .pk (.t 85) (.t 87) (.c (.bool false))⟩,
    ⟨(some 89), none, .mv (.t 88)⟩,
    ⟨(some 90), (some (89, true)), .mv (.t 15)⟩,
    ⟨(some 91), (some (89, true)), .ib .eql (.t 90) (.c (.int .i64 1))⟩,
    ⟨(some 92), none, .pk (.t 89) (.t 91) (.c (.bool false))⟩,
    ⟨(some 93), none, .mv (.t 92)⟩,
    ⟨(some 94), (some (93, true)), .mv (.t 16)⟩,
    ⟨(some 95), (some (93, true)), .en 0 true (.t 94) (.c (.pointer none))⟩,
    ⟨(some 96), none, .pk (.t 93) (.t 95) (.c (.bool false))⟩,
    ⟨(some 97), none, .mv (.t 96)⟩,
    ⟨(some 98), (some (97, true)), .mv (.t 17)⟩,
    ⟨(some 99), (some (97, true)), .ib .eql (.t 98) (.c (.int .i64 0))⟩,
    ⟨(some 100), none, .pk (.t 97) (.t 99) (.c (.bool false))⟩,
    ⟨(some 101), none, .mv (.t 100)⟩,
    ⟨(some 102), (some (101, true)), .mv (.t 9)⟩,
    ⟨(some 103), (some (101, true)), .ca 15 [(.t 102)]⟩,
    ⟨(some 104), (some (101, true)), .ib .eql (.t 103) (.c (.int .i64 0))⟩,
    ⟨(some 105), none, .pk (.t 101) (.t 104) (.c (.bool false))⟩,
    ⟨(some 4), none, .mv (.t 105)⟩])
  .rt)))))))))))))⟩
theorem k3 : cF Tryz.prog Tryz.f3 = some c3 := by kernel_rfl
/-- rundale/rundalelaw13.SupplyAll -/
def c4 : Fu := ⟨179, [.t 2],
  (.sq (.rg [⟨(some 2), none, .mv (.c (.bool false))⟩])
  (.sq (.rg [⟨(some 19), none, .ca 16 []⟩,
    ⟨(some 3), none, .mv (.t 19)⟩])
  (.sq (.sq (.rg [⟨(some 20), none, .mv (.t 3)⟩,
    ⟨(some 21), none, .nt (.t 20)⟩])
  (.cd (.t 21)
  (.sq (.rg [⟨(some 2), none, .mv (.c (.bool false))⟩])
  .rt)
  .sk))
  (.sq (.rg [⟨(some 22), none, .mv (.t 0)⟩,
    ⟨(some 23), none, .ca 10 [(.t 22)]⟩,
    ⟨(some 4), none, .al 24 [(.int .i64 0), (.int .i64 0), (.int .i64 0), (.int .i64 0), (.int .i64 0), (.int .i64 0)]⟩,
    ⟨none, none, .st (.t 4) (.t 23) 6⟩])
  (.sq (.rg [⟨(some 24), none, .ld (.t 4) 6 true⟩,
    ⟨(some 25), none, .ca 17 [(.t 24), (.c (.int .i64 1))]⟩,
    ⟨(some 5), none, .mv (.t 25)⟩])
  (.sq (.sq (.rg [⟨(some 26), none, .mv (.t 5)⟩,
    ⟨(some 27), none, .en 0 false (.t 26) (.c (.pointer none))⟩])
  (.cd (.t 27)
  (.sq (.rg [⟨(some 2), none, .mv (.c (.bool false))⟩])
  .rt)
  .sk))
  (.sq (.rg [⟨(some 28), none, .mv (.t 5)⟩,
    ⟨(some 29), none, .nc (.t 28)⟩,
    ⟨(some 30), none, .fa (.t 29) 2⟩,
    ⟨(some 31), none, .ld (.t 30) 1 false⟩,
    ⟨(some 32), none, .ia (.t 31) (.c (.int .i64 0)) 1⟩,
    ⟨(some 33), none, .ld (.t 32) 1 false⟩,
    ⟨(some 6), none, .mv (.t 33)⟩])
  (.sq (.rg [⟨(some 34), none, .fa (.t 4) 1⟩,
    ⟨(some 35), none, .ld (.t 34) 1 false⟩,
    ⟨(some 36), none, .mk 4 1 1 [(.bool false)] (.t 35) (.t 35)⟩,
    ⟨(some 7), none, .mv (.t 36)⟩])
  (.sq (.sq (.rg [⟨(some 8), none, .mv (.c (.int .i64 0))⟩])
  (.bl 0
  (.lp
  (.sq (.sq (.rg [⟨(some 37), none, .mv (.t 8)⟩,
    ⟨(some 38), none, .fa (.t 4) 1⟩,
    ⟨(some 39), none, .ld (.t 38) 1 false⟩,
    ⟨(some 40), none, .ib .lss (.t 37) (.t 39)⟩])
  (.cd (.t 40)
  .sk
  (.ex 0)))
  (.sq (.bl 1
  (.sq (.rg [⟨(some 44), none, .mv (.t 6)⟩,
    ⟨(some 45), none, .ca 18 [(.t 44)]⟩,
    ⟨(some 43), none, .mv (.t 45)⟩,
    ⟨(some 46), none, .ex (.t 43) 0⟩,
    ⟨(some 47), none, .ex (.t 43) 1⟩,
    ⟨(some 48), none, .ex (.t 43) 2⟩,
    ⟨(some 9), none, .mv (.t 46)⟩,
    ⟨(some 10), none, .mv (.t 47)⟩,
    ⟨(some 11), none, .mv (.t 48)⟩])
  (.sq (.sq (.rg [⟨(some 49), none, .mv (.t 10)⟩,
    ⟨(some 50), none, .nt (.t 49)⟩,
    ⟨(some 51), none, .mv (.t 50)⟩,
    ⟨(some 52), (some (51, false)), .mv (.t 9)⟩,
    ⟨(some 53), (some (51, false)), .ib .lss (.t 52) (.c (.int .i64 0))⟩,
    ⟨(some 54), none, .pk (.t 51) (.c (.bool true)) (.t 53)⟩,
    ⟨(some 55), none, .mv (.t 54)⟩,
    ⟨(some 56), (some (55, false)), .mv (.t 9)⟩,
    ⟨(some 57), (some (55, false)), .fa (.t 4) 1⟩,
    ⟨(some 58), (some (55, false)), .ld (.t 57) 1 false⟩,
    ⟨(some 59), (some (55, false)), .ib .geq (.t 56) (.t 58)⟩,
    ⟨(some 60), none, .pk (.t 55) (.c (.bool true)) (.t 59)⟩,
    ⟨(some 61), none, .mv (.t 60)⟩,
    ⟨(some 62), (some (61, false)), .mv (.t 7)⟩,
    ⟨(some 63), (some (61, false)), .mv (.t 9)⟩,
    ⟨(some 64), (some (61, false)), .ia (.t 62) (.t 63) 1⟩,
    ⟨(some 65), (some (61, false)), .ld (.t 64) 1 false⟩,
    ⟨(some 66), none, .pk (.t 61) (.c (.bool true)) (.t 65)⟩,
    ⟨(some 67), none, .mv (.t 66)⟩,
    ⟨(some 68), (some (67, false)), .mv (.t 11)⟩,
    ⟨(some 69), (some (67, false)), .ib .lss (.t 68) (.c (.int .i64 0))⟩,
    ⟨(some 70), none, .pk (.t 67) (.c (.bool true)) (.t 69)⟩,
    ⟨(some 71), none, .mv (.t 70)⟩,
    ⟨(some 72), (some (71, false)), .mv (.t 11)⟩,
    ⟨(some 73), (some (71, false)), .fa (.t 4) 5⟩,
    ⟨(some 74), (some (71, false)), .ld (.t 73) 1 false⟩,
    ⟨(some 75), (some (71, false)), .ib .add (.t 74) (.c (.int .i64 2))⟩,
    ⟨(some 76), (some (71, false)), .ib .gtr (.t 72) (.t 75)⟩,
    ⟨(some 77), none, .pk (.t 71) (.c (.bool true)) (.t 76)⟩])
  (.cd (.t 77)
  (.sq (.rg [⟨(some 2), none, .mv (.c (.bool false))⟩])
  .rt)
  .sk))
  (.rg [⟨(some 78), none, .mv (.t 7)⟩,
    ⟨(some 79), none, .mv (.t 9)⟩,
    ⟨(some 80), none, .ia (.t 78) (.t 79) 1⟩,
    ⟨none, none, .st (.t 80) (.c (.bool true)) 1⟩]))))
  (.rg [⟨(some 41), none, .mv (.t 8)⟩,
    ⟨(some 42), none, .ib .add (.t 41) (.c (.int .i64 1))⟩,
    ⟨(some 8), none, .mv (.t 42)⟩]))))))
  (.sq (.rg [⟨(some 82), none, .mv (.t 6)⟩,
    ⟨(some 83), none, .ca 18 [(.t 82)]⟩,
    ⟨(some 81), none, .mv (.t 83)⟩,
    ⟨(some 84), none, .ex (.t 81) 0⟩,
    ⟨(some 85), none, .ex (.t 81) 1⟩,
    ⟨(some 86), none, .ex (.t 81) 2⟩,
    ⟨(some 12), none, .mv (.t 84)⟩,
    ⟨(some 13), none, .mv (.t 85)⟩,
    ⟨(some 14), none, .mv (.t 86)⟩])
  (.sq (.sq (.rg [⟨(some 87), none, .mv (.t 12)⟩,
    ⟨(some 88), none, .ib .neq (.t 87) (.c (.int .i64 0))⟩,
    ⟨(some 89), none, .mv (.t 88)⟩,
    ⟨(some 90), (some (89, false)), .mv (.t 13)⟩,
    ⟨(some 91), none, .pk (.t 89) (.c (.bool true)) (.t 90)⟩,
    ⟨(some 92), none, .mv (.t 91)⟩,
    ⟨(some 93), (some (92, false)), .mv (.t 14)⟩,
    ⟨(some 94), (some (92, false)), .ib .neq (.t 93) (.c (.int .i64 1))⟩,
    ⟨(some 95), none, .pk (.t 92) (.c (.bool true)) (.t 94)⟩,
    ⟨(some 96), none, .mv (.t 95)⟩,
    ⟨(some 97), (some (96, false)), .mv (.t 6)⟩,
    ⟨(some 98), (some (96, false)), .ca 19 [(.t 97)]⟩,
    ⟨(some 99), (some (96, false)), .len (.t 98)⟩,
    ⟨(some 100), (some (96, false)), .ib .neq (.t 99) (.c (.int .i64 0))⟩,
    ⟨(some 101), none, .pk (.t 96) (.c (.bool true)) (.t 100)⟩])
  (.cd (.t 101)
  (.sq (.rg [⟨(some 2), none, .mv (.c (.bool false))⟩])
  .rt)
  .sk))
  (.sq (.sq (.rg [⟨(some 15), none, .mv (.c (.int .i64 0))⟩])
  (.bl 2
  (.lp
  (.sq (.sq (.rg [⟨(some 102), none, .mv (.t 15)⟩,
    ⟨(some 103), none, .fa (.t 4) 1⟩,
    ⟨(some 104), none, .ld (.t 103) 1 false⟩,
    ⟨(some 105), none, .ib .lss (.t 102) (.t 104)⟩])
  (.cd (.t 105)
  .sk
  (.ex 2)))
  (.sq (.bl 3
  (.rg [⟨(some 108), none, .mv (.t 6)⟩,
    ⟨(some 109), none, .mv (.t 15)⟩,
    ⟨(some 110), none, .bs 3 1 [(.int .i64 0)] [(0, 1, (.t 109))]⟩,
    ⟨(some 111), none, .ca 20 [(.t 108), (.t 110)]⟩]))
  (.rg [⟨(some 106), none, .mv (.t 15)⟩,
    ⟨(some 107), none, .ib .add (.t 106) (.c (.int .i64 1))⟩,
    ⟨(some 15), none, .mv (.t 107)⟩]))))))
  (.sq (.rg [⟨(some 112), none, .fa (.t 4) 1⟩,
    ⟨(some 113), none, .ld (.t 112) 1 false⟩,
    ⟨(some 114), none, .fa (.t 4) 4⟩,
    ⟨(some 115), none, .ld (.t 114) 1 false⟩,
    ⟨(some 116), none, .ib .sub (.t 113) (.t 115)⟩,
    ⟨(some 117), none, .mm true (.t 116) (.c (.int .i64 0))⟩,
    ⟨(some 16), none, .mv (.t 117)⟩])
  (.sq (.rg [⟨(some 17), none, .mv (.c (.int .i64 0))⟩])
  (.sq (.sq (.rg [⟨(some 118), none, .mv (.t 16)⟩,
    ⟨(some 119), none, .ib .gtr (.t 118) (.c (.int .i64 0))⟩])
  (.cd (.t 119)
  (.rg [⟨(some 120), none, .mv (.t 16)⟩,
    ⟨(some 121), none, .ib .add (.t 120) (.c (.int .i64 2))⟩,
    ⟨(some 17), none, .mv (.t 121)⟩])
  .sk))
  (.sq (.sq (.rd [⟨0, 0, [6], ⟨(some 122), none, .mv (.t 6)⟩⟩,
    ⟨1, 1, [122], ⟨(some 123), none, .ca 22 [(.t 122)]⟩⟩,
    ⟨2, 3, [123], ⟨(some 124), none, .ca 21 [(.t 123)]⟩⟩,
    ⟨3, 0, [17], ⟨(some 125), none, .mv (.t 17)⟩⟩,
    ⟨4, 15, [124, 125], ⟨(some 126), none, .ib .neq (.t 124) (.t 125)⟩⟩,
    ⟨5, 31, [126], ⟨(some 127), none, .mv (.t 126)⟩⟩,
    ⟨6, 63, [6, 127], ⟨(some 128), (some (127, false)), .mv (.t 6)⟩⟩,
    ⟨7, 127, [128, 127], ⟨(some 129), (some (127, false)), .ca 19 [(.t 128)]⟩⟩,
    ⟨8, 255, [129, 127], ⟨(some 130), (some (127, false)), .len (.t 129)⟩⟩,
    ⟨9, 63, [4, 127], ⟨(some 131), (some (127, false)), .fa (.t 4) 1⟩⟩,
    ⟨10, 575, [131, 127], ⟨(some 132), (some (127, false)), .ld (.t 131) 1 false⟩⟩,
    ⟨11, 63, [16, 127], ⟨(some 133), (some (127, false)), .mv (.t 16)⟩⟩,
    ⟨12, 3647, [132, 133, 127], ⟨(some 134), (some (127, false)), .ib .sub (.t 132) (.t 133)⟩⟩,
    ⟨13, 8191, [130, 134, 127], ⟨(some 135), (some (127, false)), .ib .neq (.t 130) (.t 134)⟩⟩,
    ⟨14, 16383, [127, 135], ⟨(some 136), none, .pk (.t 127) (.c (.bool true)) (.t 135)⟩⟩,
    ⟨15, 32767, [136], ⟨(some 137), none, .mv (.t 136)⟩⟩,
    ⟨16, 65535, [5, 137], ⟨(some 138), (some (137, false)), .mv (.t 5)⟩⟩,
    ⟨17, 131071, [138, 137], ⟨(some 139), (some (137, false)), .nc (.t 138)⟩⟩,
    ⟨18, 262143, [139, 137], ⟨(some 140), (some (137, false)), .fa (.t 139) 1⟩⟩,
    ⟨19, 524287, [140, 137], ⟨(some 141), (some (137, false)), .ld (.t 140) 1 false⟩⟩,
    ⟨20, 1048575, [141, 137], ⟨(some 142), (some (137, false)), .ca 23 [(.t 141)]⟩⟩,
    ⟨21, 2097151, [142, 137], ⟨(some 143), (some (137, false)), .len (.t 142)⟩⟩,
    ⟨22, 65535, [16, 137], ⟨(some 144), (some (137, false)), .mv (.t 16)⟩⟩,
    ⟨23, 8388607, [143, 144, 137], ⟨(some 145), (some (137, false)), .ib .neq (.t 143) (.t 144)⟩⟩,
    ⟨24, 16777215, [137, 145], ⟨(some 146), none, .pk (.t 137) (.c (.bool true)) (.t 145)⟩⟩])
  (.cd (.t 146)
  (.sq (.rg [⟨(some 2), none, .mv (.c (.bool false))⟩])
  .rt)
  .sk))
  (.sq (.rg [⟨(some 147), none, .mv (.t 6)⟩,
    ⟨(some 148), none, .ca 19 [(.t 147)]⟩,
    ⟨(some 149), none, .len (.t 148)⟩,
    ⟨(some 18), none, .mv (.t 149)⟩])
  (.sq (.rg [⟨(some 17), none, .mv (.c (.int .i64 0))⟩])
  (.sq (.sq (.rg [⟨(some 150), none, .mv (.t 18)⟩,
    ⟨(some 151), none, .ib .gtr (.t 150) (.c (.int .i64 0))⟩])
  (.cd (.t 151)
  (.rg [⟨(some 152), none, .mv (.t 18)⟩,
    ⟨(some 153), none, .ib .add (.t 152) (.c (.int .i64 2))⟩,
    ⟨(some 17), none, .mv (.t 153)⟩])
  .sk))
  (.sq (.rd [⟨0, 0, [3], ⟨(some 154), none, .mv (.t 3)⟩⟩,
    ⟨1, 1, [154], ⟨(some 155), none, .mv (.t 154)⟩⟩,
    ⟨2, 3, [6, 155], ⟨(some 156), (some (155, true)), .mv (.t 6)⟩⟩,
    ⟨3, 7, [156, 155], ⟨(some 157), (some (155, true)), .ca 24 [(.t 156)]⟩⟩,
    ⟨4, 15, [157, 155], ⟨(some 158), (some (155, true)), .ca 21 [(.t 157)]⟩⟩,
    ⟨5, 3, [17, 155], ⟨(some 159), (some (155, true)), .mv (.t 17)⟩⟩,
    ⟨6, 63, [158, 159, 155], ⟨(some 160), (some (155, true)), .ib .eql (.t 158) (.t 159)⟩⟩,
    ⟨7, 127, [155, 160], ⟨(some 161), none, .pk (.t 155) (.t 160) (.c (.bool false))⟩⟩,
    ⟨8, 255, [161], ⟨(some 162), none, .mv (.t 161)⟩⟩,
    ⟨9, 511, [6, 162], ⟨(some 163), (some (162, true)), .mv (.t 6)⟩⟩,
    ⟨10, 1023, [163, 162], ⟨(some 164), (some (162, true)), .ca 19 [(.t 163)]⟩⟩,
    ⟨11, 2047, [164, 162], ⟨(some 165), (some (162, true)), .len (.t 164)⟩⟩,
    ⟨12, 4095, [165, 162], ⟨(some 166), (some (162, true)), .ib .eql (.t 165) (.c (.int .i64 0))⟩⟩,
    ⟨13, 8191, [162, 166], ⟨(some 167), none, .pk (.t 162) (.t 166) (.c (.bool false))⟩⟩,
    ⟨14, 16383, [167], ⟨(some 168), none, .mv (.t 167)⟩⟩,
    ⟨15, 32767, [5, 168], ⟨(some 169), (some (168, true)), .mv (.t 5)⟩⟩,
    ⟨16, 65535, [169, 168], ⟨(some 170), (some (168, true)), .nc (.t 169)⟩⟩,
    ⟨17, 131071, [170, 168], ⟨(some 171), (some (168, true)), .fa (.t 170) 1⟩⟩,
    ⟨18, 262143, [171, 168], ⟨(some 172), (some (168, true)), .ld (.t 171) 1 false⟩⟩,
    ⟨19, 524287, [172, 168], ⟨(some 173), (some (168, true)), .ca 23 [(.t 172)]⟩⟩,
    ⟨20, 1048575, [173, 168], ⟨(some 174), (some (168, true)), .len (.t 173)⟩⟩,
    ⟨21, 32767, [4, 168], ⟨(some 175), (some (168, true)), .fa (.t 4) 1⟩⟩,
    ⟨22, 2129919, [175, 168], ⟨(some 176), (some (168, true)), .ld (.t 175) 1 false⟩⟩,
    ⟨23, 8388607, [174, 176, 168], ⟨(some 177), (some (168, true)), .ib .eql (.t 174) (.t 176)⟩⟩,
    ⟨24, 16777215, [168, 177], ⟨(some 178), none, .pk (.t 168) (.t 177) (.c (.bool false))⟩⟩,
    ⟨25, 33554431, [178], ⟨(some 2), none, .mv (.t 178)⟩⟩])
  .rt))))))))))))))))))))⟩
theorem k4 : cF Tryz.prog Tryz.f4 = some c4 := by kernel_rfl
/-- rundale/rundalelaw13.SupplyPlays -/
def c5 : Fu := ⟨68, [.t 4],
  (.sq (.rg [⟨(some 4), none, .mv (.c (.bool false))⟩])
  (.sq (.rg [⟨(some 10), none, .ca 16 []⟩,
    ⟨(some 5), none, .mv (.t 10)⟩])
  (.sq (.sq (.rg [⟨(some 11), none, .mv (.t 5)⟩,
    ⟨(some 12), none, .nt (.t 11)⟩])
  (.cd (.t 12)
  (.sq (.rg [⟨(some 4), none, .mv (.c (.bool false))⟩])
  .rt)
  .sk))
  (.sq (.sq (.rg [⟨(some 13), none, .mv (.t 1)⟩,
    ⟨(some 14), none, .len (.t 13)⟩,
    ⟨(some 15), none, .ib .gtr (.t 14) (.c (.int .i64 120))⟩])
  (.cd (.t 15)
  (.sq (.rg [⟨(some 16), none, .mv (.t 5)⟩,
    ⟨(some 4), none, .mv (.t 16)⟩])
  .rt)
  .sk))
  (.sq (.rg [⟨(some 17), none, .mv (.t 0)⟩,
    ⟨(some 18), none, .ca 10 [(.t 17)]⟩,
    ⟨(some 6), none, .al 24 [(.int .i64 0), (.int .i64 0), (.int .i64 0), (.int .i64 0), (.int .i64 0), (.int .i64 0)]⟩,
    ⟨none, none, .st (.t 6) (.t 18) 6⟩])
  (.sq (.rg [⟨(some 19), none, .ld (.t 6) 6 true⟩,
    ⟨(some 20), none, .ca 17 [(.t 19), (.c (.int .i64 3))]⟩,
    ⟨(some 7), none, .mv (.t 20)⟩])
  (.sq (.sq (.rg [⟨(some 21), none, .mv (.t 7)⟩,
    ⟨(some 22), none, .en 0 false (.t 21) (.c (.pointer none))⟩])
  (.cd (.t 22)
  (.sq (.rg [⟨(some 4), none, .mv (.c (.bool false))⟩])
  .rt)
  .sk))
  (.sq (.rg [⟨(some 23), none, .bd [(.pointer none), (.pointer none), (.pointer none), (.pointer none), (.pointer none), (.pointer none), (.pointer none), (.pointer none), (.pointer none), (.pointer none), (.pointer none), (.pointer none), (.slice none 0 0), (.slice none 0 0), (.slice none 0 0), (.int .i64 0), (.int .i64 0), (.int .i64 0)] []⟩,
    ⟨(some 24), none, .bx 67 (.t 23)⟩,
    ⟨(some 8), none, .mv (.t 24)⟩])
  (.sq (.sq (.rg [⟨(some 9), none, .mv (.c (.int .i64 0))⟩])
  (.bl 0
  (.lp
  (.sq (.sq (.rg [⟨(some 25), none, .mv (.t 9)⟩,
    ⟨(some 26), none, .mv (.t 1)⟩,
    ⟨(some 27), none, .len (.t 26)⟩,
    ⟨(some 28), none, .ib .lss (.t 25) (.t 27)⟩])
  (.cd (.t 28)
  .sk
  (.ex 0)))
  (.sq (.bl 1
  (.sq (.rd [⟨0, 0, [8], ⟨(some 31), none, .mv (.t 8)⟩⟩,
    ⟨1, 0, [7], ⟨(some 32), none, .mv (.t 7)⟩⟩,
    ⟨2, 0, [1], ⟨(some 33), none, .mv (.t 1)⟩⟩,
    ⟨3, 0, [9], ⟨(some 34), none, .mv (.t 9)⟩⟩,
    ⟨4, 12, [33, 34], ⟨(some 35), none, .ia (.t 33) (.t 34) 1⟩⟩,
    ⟨5, 28, [35], ⟨(some 36), none, .ld (.t 35) 1 false⟩⟩,
    ⟨6, 60, [36], ⟨(some 37), none, .ca 12 [(.t 36), (.c (.int .i64 3))]⟩⟩,
    ⟨7, 0, [1], ⟨(some 38), none, .mv (.t 1)⟩⟩,
    ⟨8, 0, [9], ⟨(some 39), none, .mv (.t 9)⟩⟩,
    ⟨9, 384, [38, 39], ⟨(some 40), none, .ia (.t 38) (.t 39) 1⟩⟩,
    ⟨10, 896, [40], ⟨(some 41), none, .ld (.t 40) 1 false⟩⟩,
    ⟨11, 1920, [41], ⟨(some 42), none, .ib .quo (.t 41) (.c (.int .i64 3))⟩⟩,
    ⟨12, 4092, [42], ⟨(some 43), none, .ca 12 [(.t 42), (.c (.int .i64 280))]⟩⟩,
    ⟨13, 8191, [31, 32, 37, 43], ⟨(some 44), none, .ca 25 [(.t 31), (.t 32), (.t 37), (.t 43)]⟩⟩,
    ⟨14, 16383, [44], ⟨(some 45), none, .nt (.t 44)⟩⟩,
    ⟨15, 32767, [45], ⟨(some 46), none, .mv (.t 45)⟩⟩,
    ⟨16, 65535, [7, 46], ⟨(some 47), (some (46, false)), .mv (.t 7)⟩⟩,
    ⟨17, 131071, [47, 46], ⟨(some 48), (some (46, false)), .ca 26 [(.t 47)]⟩⟩,
    ⟨18, 262143, [48, 46], ⟨(some 49), (some (46, false)), .nt (.t 48)⟩⟩,
    ⟨19, 524287, [46, 49], ⟨(some 50), none, .pk (.t 46) (.c (.bool true)) (.t 49)⟩⟩])
  (.cd (.t 50)
  (.sq (.rg [⟨(some 4), none, .mv (.c (.bool false))⟩])
  .rt)
  .sk)))
  (.rg [⟨(some 29), none, .mv (.t 9)⟩,
    ⟨(some 30), none, .ib .add (.t 29) (.c (.int .i64 1))⟩,
    ⟨(some 9), none, .mv (.t 30)⟩]))))))
  (.sq (.rd [⟨0, 0, [5], ⟨(some 51), none, .mv (.t 5)⟩⟩,
    ⟨1, 1, [51], ⟨(some 52), none, .mv (.t 51)⟩⟩,
    ⟨2, 3, [7, 52], ⟨(some 53), (some (52, true)), .mv (.t 7)⟩⟩,
    ⟨3, 7, [53, 52], ⟨(some 54), (some (52, true)), .nc (.t 53)⟩⟩,
    ⟨4, 15, [54, 52], ⟨(some 55), (some (52, true)), .fa (.t 54) 1⟩⟩,
    ⟨5, 31, [55, 52], ⟨(some 56), (some (52, true)), .ld (.t 55) 1 false⟩⟩,
    ⟨6, 63, [56, 52], ⟨(some 57), (some (52, true)), .ca 23 [(.t 56)]⟩⟩,
    ⟨7, 3, [7, 52], ⟨(some 58), (some (52, true)), .mv (.t 7)⟩⟩,
    ⟨8, 131, [58, 52], ⟨(some 59), (some (52, true)), .nc (.t 58)⟩⟩,
    ⟨9, 387, [59, 52], ⟨(some 60), (some (52, true)), .fa (.t 59) 3⟩⟩,
    ⟨10, 899, [60, 52], ⟨(some 61), (some (52, true)), .ld (.t 60) 1 false⟩⟩,
    ⟨11, 1923, [61, 52], ⟨(some 62), (some (52, true)), .nc (.t 61)⟩⟩,
    ⟨12, 3971, [62, 52], ⟨(some 63), (some (52, true)), .fa (.t 62) 7⟩⟩,
    ⟨13, 8067, [63, 52], ⟨(some 64), (some (52, true)), .ld (.t 63) 1 false⟩⟩,
    ⟨14, 16383, [64, 52], ⟨(some 65), (some (52, true)), .ca 28 [(.t 64)]⟩⟩,
    ⟨15, 32767, [57, 65, 52], ⟨(some 66), (some (52, true)), .ca 27 [(.t 57), (.t 65)]⟩⟩,
    ⟨16, 65535, [52, 66], ⟨(some 67), none, .pk (.t 52) (.t 66) (.c (.bool false))⟩⟩,
    ⟨17, 131071, [67], ⟨(some 4), none, .mv (.t 67)⟩⟩])
  .rt))))))))))⟩
theorem k5 : cF Tryz.prog Tryz.f5 = some c5 := by kernel_rfl
/-- rundale/rundalelaw17.GatherCosts -/
def c6 : Fu := ⟨128, [.t 4],
  (.sq (.rg [⟨(some 4), none, .mv (.c (.bool false))⟩])
  (.sq (.rg [⟨(some 15), none, .ca 9 []⟩,
    ⟨(some 5), none, .mv (.t 15)⟩])
  (.sq (.sq (.rg [⟨(some 16), none, .mv (.t 5)⟩,
    ⟨(some 17), none, .nt (.t 16)⟩])
  (.cd (.t 17)
  (.sq (.rg [⟨(some 4), none, .mv (.c (.bool false))⟩])
  .rt)
  .sk))
  (.sq (.rg [⟨(some 18), none, .mv (.t 0)⟩,
    ⟨(some 19), none, .ca 10 [(.t 18)]⟩,
    ⟨(some 20), none, .ca 29 [(.t 19)]⟩,
    ⟨(some 6), none, .mv (.t 20)⟩])
  (.sq (.sq (.rg [⟨(some 21), none, .mv (.t 6)⟩,
    ⟨(some 22), none, .en 0 false (.t 21) (.c (.pointer none))⟩])
  (.cd (.t 22)
  (.sq (.rg [⟨(some 4), none, .mv (.c (.bool false))⟩])
  .rt)
  .sk))
  (.sq (.rg [⟨(some 23), none, .mv (.t 1)⟩,
    ⟨(some 24), none, .mv (.t 6)⟩,
    ⟨(some 25), none, .nc (.t 24)⟩,
    ⟨(some 26), none, .fa (.t 25) 0⟩,
    ⟨(some 27), none, .fa (.t 26) 1⟩,
    ⟨(some 28), none, .ld (.t 27) 1 false⟩,
    ⟨(some 29), none, .ib .add (.t 28) (.c (.int .i64 1))⟩,
    ⟨(some 30), none, .ca 12 [(.t 23), (.t 29)]⟩,
    ⟨(some 7), none, .mv (.t 30)⟩])
  (.sq (.rg [⟨(some 8), none, .mv (.c (.slice none 0 0))⟩])
  (.sq (.sq (.rg [⟨(some 9), none, .mv (.c (.int .i64 0))⟩])
  (.bl 0
  (.lp
  (.sq (.sq (.rg [⟨(some 31), none, .mv (.t 9)⟩,
    ⟨(some 32), none, .mv (.t 7)⟩,
    ⟨(some 33), none, .ib .lss (.t 31) (.t 32)⟩])
  (.cd (.t 33)
  .sk
  (.ex 0)))
  (.sq (.bl 1
  (.sq (.rg [⟨(some 37), none, .mv (.t 6)⟩,
    ⟨(some 38), none, .ca 30 [(.t 37), (.c (.int .i64 0))]⟩,
    ⟨(some 36), none, .mv (.t 38)⟩,
    ⟨(some 39), none, .ex (.t 36) 0⟩,
    ⟨(some 40), none, .ex (.t 36) 1⟩,
    ⟨(some 10), none, .mv (.t 39)⟩,
    ⟨(some 11), none, .mv (.t 40)⟩])
  (.sq (.sq (.rg [⟨(some 41), none, .mv (.t 11)⟩,
    ⟨(some 42), none, .nt (.t 41)⟩])
  (.cd (.t 42)
  (.sq (.rg [⟨(some 4), none, .mv (.c (.bool false))⟩])
  .rt)
  .sk))
  (.rg [⟨(some 43), none, .mv (.t 8)⟩,
    ⟨(some 44), none, .mv (.t 10)⟩,
    ⟨(some 45), none, .bs 3 1 [(.int .i64 0)] [(0, 1, (.t 44))]⟩,
    ⟨(some 46), none, .ap 49 3 1 8 [(.int .i64 0)] (.t 43) (.t 45)⟩,
    ⟨(some 8), none, .mv (.t 46)⟩]))))
  (.rg [⟨(some 34), none, .mv (.t 9)⟩,
    ⟨(some 35), none, .ib .add (.t 34) (.c (.int .i64 1))⟩,
    ⟨(some 9), none, .mv (.t 35)⟩]))))))
  (.sq (.rg [⟨(some 47), none, .mv (.t 6)⟩,
    ⟨(some 48), none, .nc (.t 47)⟩,
    ⟨(some 49), none, .fa (.t 48) 10⟩,
    ⟨(some 50), none, .ld (.t 49) 1 false⟩,
    ⟨(some 51), none, .ia (.t 50) (.c (.int .i64 0)) 1⟩,
    ⟨(some 52), none, .ld (.t 51) 1 false⟩,
    ⟨(some 53), none, .mv (.t 8)⟩,
    ⟨(some 54), none, .ca 20 [(.t 52), (.t 53)]⟩])
  (.sq (.rg [⟨(some 55), none, .mv (.t 6)⟩,
    ⟨(some 56), none, .nc (.t 55)⟩,
    ⟨(some 57), none, .fa (.t 56) 0⟩,
    ⟨(some 58), none, .fa (.t 57) 0⟩,
    ⟨(some 59), none, .ld (.t 58) 1 false⟩,
    ⟨(some 60), none, .ib .add (.t 59) (.c (.int .i64 3))⟩,
    ⟨(some 12), none, .mv (.t 60)⟩])
  (.sq (.sq (.rg [⟨(some 61), none, .mv (.t 6)⟩,
    ⟨(some 62), none, .nc (.t 61)⟩,
    ⟨(some 63), none, .fa (.t 62) 10⟩,
    ⟨(some 64), none, .ld (.t 63) 1 false⟩,
    ⟨(some 65), none, .ia (.t 64) (.c (.int .i64 0)) 1⟩,
    ⟨(some 66), none, .ld (.t 65) 1 false⟩,
    ⟨(some 67), none, .ca 19 [(.t 66)]⟩,
    ⟨(some 68), none, .len (.t 67)⟩,
    ⟨(some 69), none, .ib .gtr (.t 68) (.c (.int .i64 0))⟩])
  (.cd (.t 69)
  (.rg [⟨(some 70), none, .mv (.t 12)⟩,
    ⟨(some 71), none, .mv (.t 6)⟩,
    ⟨(some 72), none, .nc (.t 71)⟩,
    ⟨(some 73), none, .fa (.t 72) 10⟩,
    ⟨(some 74), none, .ld (.t 73) 1 false⟩,
    ⟨(some 75), none, .ia (.t 74) (.c (.int .i64 0)) 1⟩,
    ⟨(some 76), none, .ld (.t 75) 1 false⟩,
    ⟨(some 77), none, .ca 19 [(.t 76)]⟩,
    ⟨(some 78), none, .len (.t 77)⟩,
    ⟨(some 79), none, .ib .add (.t 70) (.t 78)⟩,
    ⟨(some 80), none, .ib .add (.t 79) (.c (.int .i64 2))⟩,
    ⟨(some 12), none, .mv (.t 80)⟩])
  .sk))
  (.sq (.rg [⟨(some 82), none, .mv (.t 6)⟩,
    ⟨(some 83), none, .ca 31 [(.t 82), (.c (.int .i64 0))]⟩,
    ⟨(some 81), none, .mv (.t 83)⟩,
    ⟨(some 84), none, .ex (.t 81) 0⟩,
    ⟨(some 85), none, .ex (.t 81) 1⟩,
    ⟨(some 13), none, .mv (.t 84)⟩,
    ⟨(some 14), none, .mv (.t 85)⟩])
  (.sq (.rd [⟨0, 0, [5], ⟨(some 86), none, .mv (.t 5)⟩⟩,
    ⟨1, 1, [86], ⟨(some 87), none, .mv (.t 86)⟩⟩,
    ⟨2, 3, [13, 87], ⟨(some 88), (some (87, true)), .mv (.t 13)⟩⟩,
    ⟨3, 7, [87, 88], ⟨(some 89), none, .pk (.t 87) (.t 88) (.c (.bool false))⟩⟩,
    ⟨4, 15, [89], ⟨(some 90), none, .mv (.t 89)⟩⟩,
    ⟨5, 31, [14, 90], ⟨(some 91), (some (90, true)), .mv (.t 14)⟩⟩,
    ⟨6, 31, [12, 90], ⟨(some 92), (some (90, true)), .mv (.t 12)⟩⟩,
    ⟨7, 127, [91, 92, 90], ⟨(some 93), (some (90, true)), .ib .eql (.t 91) (.t 92)⟩⟩,
    ⟨8, 255, [90, 93], ⟨(some 94), none, .pk (.t 90) (.t 93) (.c (.bool false))⟩⟩,
    ⟨9, 511, [94], ⟨(some 95), none, .mv (.t 94)⟩⟩,
    ⟨10, 1023, [6, 95], ⟨(some 96), (some (95, true)), .mv (.t 6)⟩⟩,
    ⟨11, 2047, [96, 95], ⟨(some 97), (some (95, true)), .nc (.t 96)⟩⟩,
    ⟨12, 4095, [97, 95], ⟨(some 98), (some (95, true)), .fa (.t 97) 10⟩⟩,
    ⟨13, 8191, [98, 95], ⟨(some 99), (some (95, true)), .ld (.t 98) 1 false⟩⟩,
    ⟨14, 16383, [99, 95], ⟨(some 100), (some (95, true)), .ia (.t 99) (.c (.int .i64 0)) 1⟩⟩,
    ⟨15, 32767, [100, 95], ⟨(some 101), (some (95, true)), .ld (.t 100) 1 false⟩⟩,
    ⟨16, 65535, [101, 95], ⟨(some 102), (some (95, true)), .ca 19 [(.t 101)]⟩⟩,
    ⟨17, 131071, [102, 95], ⟨(some 103), (some (95, true)), .len (.t 102)⟩⟩,
    ⟨18, 262143, [103, 95], ⟨(some 104), (some (95, true)), .ib .eql (.t 103) (.c (.int .i64 0))⟩⟩,
    ⟨19, 524287, [95, 104], ⟨(some 105), none, .pk (.t 95) (.t 104) (.c (.bool false))⟩⟩,
    ⟨20, 1048575, [105], ⟨(some 106), none, .mv (.t 105)⟩⟩,
    ⟨21, 2097151, [6, 106], ⟨(some 107), (some (106, true)), .mv (.t 6)⟩⟩,
    ⟨22, 4194303, [107, 106], ⟨(some 108), (some (106, true)), .nc (.t 107)⟩⟩,
    ⟨23, 8388607, [108, 106], ⟨(some 109), (some (106, true)), .fa (.t 108) 9⟩⟩,
    ⟨24, 16777215, [109, 106], ⟨(some 110), (some (106, true)), .ld (.t 109) 1 false⟩⟩,
    ⟨25, 33554431, [110, 106], ⟨(some 111), (some (106, true)), .ca 23 [(.t 110)]⟩⟩,
    ⟨26, 67108863, [111, 106], ⟨(some 112), (some (106, true)), .len (.t 111)⟩⟩,
    ⟨27, 2097151, [6, 106], ⟨(some 113), (some (106, true)), .mv (.t 6)⟩⟩,
    ⟨28, 136314879, [113, 106], ⟨(some 114), (some (106, true)), .nc (.t 113)⟩⟩,
    ⟨29, 404750335, [114, 106], ⟨(some 115), (some (106, true)), .fa (.t 114) 0⟩⟩,
    ⟨30, 941621247, [115, 106], ⟨(some 116), (some (106, true)), .fa (.t 115) 1⟩⟩,
    ⟨31, 2015363071, [116, 106], ⟨(some 117), (some (106, true)), .ld (.t 116) 1 false⟩⟩,
    ⟨32, 4294967295, [112, 117, 106], ⟨(some 118), (some (106, true)), .ib .eql (.t 112) (.t 117)⟩⟩,
    ⟨33, 8589934591, [106, 118], ⟨(some 119), none, .pk (.t 106) (.t 118) (.c (.bool false))⟩⟩,
    ⟨34, 17179869183, [119], ⟨(some 120), none, .mv (.t 119)⟩⟩,
    ⟨35, 34359738367, [6, 120], ⟨(some 121), (some (120, true)), .mv (.t 6)⟩⟩,
    ⟨36, 68719476735, [121, 120], ⟨(some 122), (some (120, true)), .nc (.t 121)⟩⟩,
    ⟨37, 137438953471, [122, 120], ⟨(some 123), (some (120, true)), .fa (.t 122) 7⟩⟩,
    ⟨38, 274877906943, [123, 120], ⟨(some 124), (some (120, true)), .ld (.t 123) 1 false⟩⟩,
    ⟨39, 549755813887, [124, 120], ⟨(some 125), (some (120, true)), .ca 32 [(.t 124)]⟩⟩,
    ⟨40, 1099511627775, [125, 120], ⟨(some 126), (some (120, true)), .ib .eql (.t 125) (.c (.int .i64 1))⟩⟩,
    ⟨41, 2199023255551, [120, 126], ⟨(some 127), none, .pk (.t 120) (.t 126) (.c (.bool false))⟩⟩,
    ⟨42, 4398046511103, [127], ⟨(some 4), none, .mv (.t 127)⟩⟩])
  .rt)))))))))))))⟩
theorem k6 : cF Tryz.prog Tryz.f6 = some c6 := by kernel_rfl
/-- rundale/rundalemake.Config -/
def c10 : Fu := ⟨43, [.c 2 6 true],
  (.sq (.rg [⟨(some 2), none, .al 24 [(.int .i64 0), (.int .i64 0), (.int .i64 0), (.int .i64 0), (.int .i64 0), (.int .i64 0)]⟩])
  (.sq (.rg [⟨(some 4), none, .mv (.t 0)⟩,
    ⟨(some 5), none, .ca 12 [(.t 4), (.c (.int .i64 4))]⟩,
    ⟨(some 6), none, .mv (.t 0)⟩,
    ⟨(some 7), none, .ib .quo (.t 6) (.c (.int .i64 4))⟩,
    ⟨(some 8), none, .ca 12 [(.t 7), (.c (.int .i64 8))]⟩,
    ⟨(some 9), none, .mv (.t 0)⟩,
    ⟨(some 10), none, .ib .quo (.t 9) (.c (.int .i64 32))⟩,
    ⟨(some 11), none, .ca 12 [(.t 10), (.c (.int .i64 2))]⟩,
    ⟨(some 12), none, .mv (.t 0)⟩,
    ⟨(some 13), none, .ib .quo (.t 12) (.c (.int .i64 64))⟩,
    ⟨(some 14), none, .ca 12 [(.t 13), (.c (.int .i64 4))]⟩,
    ⟨(some 15), none, .mv (.t 0)⟩,
    ⟨(some 16), none, .ib .quo (.t 15) (.c (.int .i64 256))⟩,
    ⟨(some 17), none, .ca 12 [(.t 16), (.c (.int .i64 4))]⟩,
    ⟨(some 18), none, .mv (.t 0)⟩,
    ⟨(some 19), none, .ib .quo (.t 18) (.c (.int .i64 1024))⟩,
    ⟨(some 20), none, .ca 12 [(.t 19), (.c (.int .i64 3))]⟩,
    ⟨(some 21), none, .bs 3 6 [(.int .i64 0), (.int .i64 0), (.int .i64 0), (.int .i64 0), (.int .i64 0), (.int .i64 0)] [(0, 1, (.t 5)), (1, 1, (.t 8)), (2, 1, (.t 11)), (3, 1, (.t 14)), (4, 1, (.t 17)), (5, 1, (.t 20))]⟩,
    ⟨(some 22), none, .bd [(.slice none 0 0), (.int .i64 0)] [(0, 1, (.t 21))]⟩,
    ⟨(some 23), none, .bx 117 (.t 22)⟩,
    ⟨(some 3), none, .mv (.t 23)⟩])
  (.sq (.rg [⟨(some 24), none, .mv (.t 3)⟩,
    ⟨(some 25), none, .ca 55 [(.t 24), (.c (.int .i64 4))]⟩,
    ⟨(some 26), none, .ib .add (.c (.int .i64 1)) (.t 25)⟩,
    ⟨(some 27), none, .mv (.t 3)⟩,
    ⟨(some 28), none, .ca 55 [(.t 27), (.c (.int .i64 8))]⟩,
    ⟨(some 29), none, .ib .add (.c (.int .i64 1)) (.t 28)⟩,
    ⟨(some 30), none, .mv (.t 3)⟩,
    ⟨(some 31), none, .ca 55 [(.t 30), (.c (.int .i64 2))]⟩,
    ⟨(some 32), none, .ib .mul (.c (.int .i64 8)) (.t 31)⟩,
    ⟨(some 33), none, .ib .add (.c (.int .i64 8)) (.t 32)⟩,
    ⟨(some 34), none, .mv (.t 3)⟩,
    ⟨(some 35), none, .ca 55 [(.t 34), (.c (.int .i64 4))]⟩,
    ⟨(some 36), none, .ib .add (.c (.int .i64 1)) (.t 35)⟩,
    ⟨(some 37), none, .mv (.t 3)⟩,
    ⟨(some 38), none, .ca 55 [(.t 37), (.c (.int .i64 4))]⟩,
    ⟨(some 39), none, .mv (.t 3)⟩,
    ⟨(some 40), none, .ca 55 [(.t 39), (.c (.int .i64 3))]⟩,
    ⟨(some 41), none, .ib .add (.c (.int .i64 1)) (.t 40)⟩,
    ⟨(some 42), none, .bd [(.int .i64 0), (.int .i64 0), (.int .i64 0), (.int .i64 0), (.int .i64 0), (.int .i64 0)] [(0, 1, (.t 26)), (1, 1, (.t 29)), (2, 1, (.t 33)), (3, 1, (.t 36)), (4, 1, (.t 38)), (5, 1, (.t 41))]⟩,
    ⟨none, none, .st (.t 2) (.t 42) 6⟩])
  .rt)))⟩
theorem k10 : cF Tryz.prog Tryz.f10 = some c10 := by kernel_rfl
/-- rundale/cells.New -/
def c11 : Fu := ⟨14, [.t 2, .t 3],
  (.sq (.rg [⟨(some 2), none, .mv (.c (.pointer none))⟩,
    ⟨(some 3), none, .mv (.c (.int .i64 0))⟩])
  (.sq (.sq (.rg [⟨(some 4), none, .mv (.t 0)⟩,
    ⟨(some 5), none, .ib .lss (.t 4) (.c (.int .i64 1))⟩,
    ⟨(some 6), none, .mv (.t 5)⟩,
    ⟨(some 7), (some (6, false)), .mv (.t 0)⟩,
    ⟨(some 8), (some (6, false)), .ib .gtr (.t 7) (.c (.int .i64 8388608))⟩,
    ⟨(some 9), none, .pk (.t 6) (.c (.bool true)) (.t 8)⟩])
  (.cd (.t 9)
  (.sq (.rg [⟨(some 2), none, .mv (.c (.pointer none))⟩,
    ⟨(some 3), none, .mv (.c (.int .i64 1))⟩])
  .rt)
  .sk))
  (.sq (.rg [⟨(some 10), none, .mv (.t 0)⟩,
    ⟨(some 11), none, .mk 103 1 8 [(.int .u64 0)] (.t 10) (.t 10)⟩,
    ⟨(some 12), none, .bd [(.slice none 0 0), (.int .i64 0), (.int .i64 0), (.int .i64 0), (.int .u64 0), (.int .u64 0), (.bool false)] [(0, 1, (.t 11))]⟩,
    ⟨(some 13), none, .bx 122 (.t 12)⟩,
    ⟨(some 2), none, .mv (.t 13)⟩,
    ⟨(some 3), none, .mv (.c (.int .i64 0))⟩])
  .rt)))⟩
theorem k11 : cF Tryz.prog Tryz.f11 = some c11 := by kernel_rfl
/-- rundale/rundalemake.Number -/
def c12 : Fu := ⟨15, [.t 4],
  (.sq (.rg [⟨(some 4), none, .mv (.c (.int .i64 0))⟩])
  (.sq (.rg [⟨(some 6), none, .mv (.t 0)⟩,
    ⟨(some 7), none, .mv (.t 1)⟩,
    ⟨(some 8), none, .ib .rem (.t 6) (.t 7)⟩,
    ⟨(some 5), none, .mv (.t 8)⟩])
  (.sq (.sq (.rg [⟨(some 9), none, .mv (.t 5)⟩,
    ⟨(some 10), none, .ib .lss (.t 9) (.c (.int .i64 0))⟩])
  (.cd (.t 10)
  (.rg [⟨(some 11), none, .mv (.t 5)⟩,
    ⟨(some 12), none, .mv (.t 1)⟩,
    ⟨(some 13), none, .ib .add (.t 11) (.t 12)⟩,
    ⟨(some 5), none, .mv (.t 13)⟩])
  .sk))
  (.sq (.rg [⟨(some 14), none, .mv (.t 5)⟩,
    ⟨(some 4), none, .mv (.t 14)⟩])
  .rt))))⟩
theorem k12 : cF Tryz.prog Tryz.f12 = some c12 := by kernel_rfl
/-- rundale/lay.Len -/
def c13 : Fu := ⟨17, [.t 2],
  (.sq (.rg [⟨(some 1), none, .bx 24 (.t 0)⟩,
    ⟨(some 2), none, .mv (.c (.int .i64 0))⟩])
  (.sq (.sq (.rg [⟨(some 5), none, .ld (.t 1) 6 true⟩,
    ⟨(some 6), none, .ca 56 [(.t 5)]⟩,
    ⟨(some 7), none, .nt (.t 6)⟩])
  (.cd (.t 7)
  (.sq (.rg [⟨(some 2), none, .mv (.c (.int .i64 0))⟩])
  .rt)
  .sk))
  (.sq (.rg [⟨(some 8), none, .ld (.t 1) 6 true⟩,
    ⟨(some 9), none, .ca 57 [(.t 8)]⟩,
    ⟨(some 3), none, .al 126 [(.int .i64 0), (.int .i64 0), (.int .i64 0), (.int .i64 0), (.int .i64 0), (.int .i64 0), (.int .i64 0), (.int .i64 0), (.int .i64 0), (.int .i64 0), (.int .i64 0), (.int .i64 0), (.int .i64 0), (.int .i64 0), (.int .i64 0)]⟩,
    ⟨none, none, .st (.t 3) (.t 9) 15⟩])
  (.sq (.rg [⟨(some 10), none, .iaa (.t 3) (.c (.int .i64 4)) 5 3⟩,
    ⟨(some 11), none, .ld (.t 10) 3 true⟩,
    ⟨(some 4), none, .al 125 [(.int .i64 0), (.int .i64 0), (.int .i64 0)]⟩,
    ⟨none, none, .st (.t 4) (.t 11) 3⟩])
  (.sq (.rg [⟨(some 12), none, .fa (.t 4) 1⟩,
    ⟨(some 13), none, .ld (.t 12) 1 false⟩,
    ⟨(some 14), none, .fa (.t 4) 2⟩,
    ⟨(some 15), none, .ld (.t 14) 1 false⟩,
    ⟨(some 16), none, .ib .add (.t 13) (.t 15)⟩,
    ⟨(some 2), none, .mv (.t 16)⟩])
  .rt)))))⟩
theorem k13 : cF Tryz.prog Tryz.f13 = some c13 := by kernel_rfl
/-- (*rundale/cells.Cells).Count -/
def c15 : Fu := ⟨7, [.t 2],
  (.sq (.rg [⟨(some 2), none, .mv (.c (.int .i64 0))⟩])
  (.sq (.rg [⟨(some 3), none, .mv (.t 0)⟩,
    ⟨(some 4), none, .nc (.t 3)⟩,
    ⟨(some 5), none, .fa (.t 4) 1⟩,
    ⟨(some 6), none, .ld (.t 5) 1 false⟩,
    ⟨(some 2), none, .mv (.t 6)⟩])
  .rt))⟩
theorem k15 : cF Tryz.prog Tryz.f15 = some c15 := by kernel_rfl
/-- rundale/rundalelaw13.first -/
def c16 : Fu := ⟨70, [.t 0],
  (.sq (.rg [⟨(some 0), none, .mv (.c (.bool false))⟩])
  (.sq (.rg [⟨(some 10), none, .ca 11 [(.c (.int .i64 100))]⟩,
    ⟨(some 9), none, .mv (.t 10)⟩,
    ⟨(some 11), none, .ex (.t 9) 0⟩,
    ⟨(some 12), none, .ex (.t 9) 1⟩,
    ⟨(some 1), none, .mv (.t 11)⟩,
    ⟨(some 2), none, .mv (.t 12)⟩])
  (.sq (.rg [⟨(some 13), none, .bd [(.int .i64 0), (.int .i64 0), (.int .i64 0), (.int .i64 0), (.int .i64 0), (.int .i64 0)] [(0, 1, (.c (.int .i64 1))), (1, 1, (.c (.int .i64 2))), (2, 1, (.c (.int .i64 8))), (3, 1, (.c (.int .i64 1))), (5, 1, (.c (.int .i64 1)))]⟩,
    ⟨(some 3), none, .al 24 [(.int .i64 0), (.int .i64 0), (.int .i64 0), (.int .i64 0), (.int .i64 0), (.int .i64 0)]⟩,
    ⟨none, none, .st (.t 3) (.t 13) 6⟩])
  (.sq (.sq (.rg [⟨(some 14), none, .mv (.t 1)⟩,
    ⟨(some 15), none, .en 0 false (.t 14) (.c (.pointer none))⟩,
    ⟨(some 16), none, .mv (.t 15)⟩,
    ⟨(some 17), (some (16, false)), .mv (.t 2)⟩,
    ⟨(some 18), (some (16, false)), .ib .neq (.t 17) (.c (.int .i64 0))⟩,
    ⟨(some 19), none, .pk (.t 16) (.c (.bool true)) (.t 18)⟩])
  (.cd (.t 19)
  (.sq (.rg [⟨(some 0), none, .mv (.c (.bool false))⟩])
  .rt)
  .sk))
  (.sq (.rg [⟨(some 21), none, .mv (.t 1)⟩,
    ⟨(some 22), none, .ld (.t 3) 6 true⟩,
    ⟨(some 23), none, .ca 60 [(.t 21), (.t 22)]⟩,
    ⟨(some 20), none, .mv (.t 23)⟩,
    ⟨(some 24), none, .ex (.t 20) 0⟩,
    ⟨(some 25), none, .ex (.t 20) 1⟩,
    ⟨(some 4), none, .mv (.t 24)⟩,
    ⟨(some 5), none, .mv (.t 25)⟩])
  (.sq (.sq (.rg [⟨(some 26), none, .mv (.t 4)⟩,
    ⟨(some 27), none, .en 0 false (.t 26) (.c (.pointer none))⟩,
    ⟨(some 28), none, .mv (.t 27)⟩,
    ⟨(some 29), (some (28, false)), .mv (.t 5)⟩,
    ⟨(some 30), (some (28, false)), .ib .neq (.t 29) (.c (.int .i64 0))⟩,
    ⟨(some 31), none, .pk (.t 28) (.c (.bool true)) (.t 30)⟩])
  (.cd (.t 31)
  (.sq (.rg [⟨(some 0), none, .mv (.c (.bool false))⟩])
  .rt)
  .sk))
  (.sq (.rg [⟨(some 32), none, .mv (.t 4)⟩,
    ⟨(some 33), none, .ca 61 [(.t 32)]⟩,
    ⟨(some 6), none, .mv (.t 33)⟩])
  (.sq (.sq (.rg [⟨(some 34), none, .mv (.t 6)⟩,
    ⟨(some 35), none, .en 0 false (.t 34) (.c (.pointer none))⟩,
    ⟨(some 36), none, .mv (.t 35)⟩,
    ⟨(some 37), (some (36, false)), .mv (.t 6)⟩,
    ⟨(some 38), (some (36, false)), .ca 62 [(.t 37)]⟩,
    ⟨(some 39), none, .pk (.t 36) (.c (.bool true)) (.t 38)⟩,
    ⟨(some 40), none, .mv (.t 39)⟩,
    ⟨(some 41), (some (40, false)), .mv (.t 6)⟩,
    ⟨(some 42), (some (40, false)), .ca 63 [(.t 41)]⟩,
    ⟨(some 43), (some (40, false)), .nt (.t 42)⟩,
    ⟨(some 44), none, .pk (.t 40) (.c (.bool true)) (.t 43)⟩])
  (.cd (.t 44)
  (.sq (.rg [⟨(some 0), none, .mv (.c (.bool false))⟩])
  .rt)
  .sk))
  (.sq (.rg [⟨(some 46), none, .mv (.t 6)⟩,
    ⟨(some 47), none, .ca 64 [(.t 46)]⟩,
    ⟨(some 45), none, .mv (.t 47)⟩,
    ⟨(some 48), none, .ex (.t 45) 0⟩,
    ⟨(some 49), none, .ex (.t 45) 1⟩,
    ⟨(some 7), none, .mv (.t 48)⟩,
    ⟨(some 8), none, .mv (.t 49)⟩])
  (.sq (.rg [⟨(some 50), none, .mv (.t 6)⟩,
    ⟨(some 51), none, .ca 62 [(.t 50)]⟩,
    ⟨(some 52), none, .mv (.t 51)⟩,
    ⟨(some 53), (some (52, true)), .mv (.t 7)⟩,
    ⟨(some 54), (some (52, true)), .ib .eql (.t 53) (.c (.int .i64 0))⟩,
    ⟨(some 55), none, .pk (.t 52) (.t 54) (.c (.bool false))⟩,
    ⟨(some 56), none, .mv (.t 55)⟩,
    ⟨(some 57), (some (56, true)), .mv (.t 8)⟩,
    ⟨(some 58), (some (56, true)), .nt (.t 57)⟩,
    ⟨(some 59), none, .pk (.t 56) (.t 58) (.c (.bool false))⟩,
    ⟨(some 60), none, .mv (.t 59)⟩,
    ⟨(some 61), (some (60, true)), .mv (.t 6)⟩,
    ⟨(some 62), (some (60, true)), .ca 65 [(.t 61)]⟩,
    ⟨(some 63), (some (60, true)), .ib .eql (.t 62) (.c (.int .i64 (-1)))⟩,
    ⟨(some 64), none, .pk (.t 60) (.t 63) (.c (.bool false))⟩,
    ⟨(some 65), none, .mv (.t 64)⟩,
    ⟨(some 66), (some (65, true)), .mv (.t 1)⟩,
    ⟨(some 67), (some (65, true)), .ca 15 [(.t 66)]⟩,
    ⟨(some 68), (some (65, true)), .ib .eql (.t 67) (.c (.int .i64 1))⟩,
    ⟨(some 69), none, .pk (.t 65) (.t 68) (.c (.bool false))⟩,
    ⟨(some 0), none, .mv (.t 69)⟩])
  .rt))))))))))⟩
theorem k16 : cF Tryz.prog Tryz.f16 = some c16 := by kernel_rfl
/-- rundale/rundalelaw13.made -/
def c17 : Fu := ⟨125, [.t 4],
  (.sq (.rg [⟨(some 2), none, .bx 24 (.t 0)⟩,
    ⟨(some 4), none, .mv (.c (.pointer none))⟩])
  (.sq (.rg [⟨(some 15), none, .ld (.t 2) 6 true⟩,
    ⟨(some 16), none, .ca 13 [(.t 15)]⟩,
    ⟨(some 17), none, .ca 11 [(.t 16)]⟩,
    ⟨(some 14), none, .mv (.t 17)⟩,
    ⟨(some 18), none, .ex (.t 14) 0⟩,
    ⟨(some 19), none, .ex (.t 14) 1⟩,
    ⟨(some 5), none, .mv (.t 18)⟩,
    ⟨(some 6), none, .mv (.t 19)⟩])
  (.sq (.sq (.rg [⟨(some 20), none, .mv (.t 5)⟩,
    ⟨(some 21), none, .en 0 false (.t 20) (.c (.pointer none))⟩,
    ⟨(some 22), none, .mv (.t 21)⟩,
    ⟨(some 23), (some (22, false)), .mv (.t 6)⟩,
    ⟨(some 24), (some (22, false)), .ib .neq (.t 23) (.c (.int .i64 0))⟩,
    ⟨(some 25), none, .pk (.t 22) (.c (.bool true)) (.t 24)⟩])
  (.cd (.t 25)
  (.sq (.rg [⟨(some 4), none, .mv (.c (.pointer none))⟩])
  .rt)
  .sk))
  (.sq (.rg [⟨(some 27), none, .mv (.t 5)⟩,
    ⟨(some 28), none, .ld (.t 2) 6 true⟩,
    ⟨(some 29), none, .ca 66 [(.t 27), (.t 28)]⟩,
    ⟨(some 26), none, .mv (.t 29)⟩,
    ⟨(some 30), none, .ex (.t 26) 0⟩,
    ⟨(some 31), none, .ex (.t 26) 1⟩,
    ⟨(some 7), none, .mv (.t 30)⟩,
    ⟨(some 8), none, .mv (.t 31)⟩])
  (.sq (.sq (.rg [⟨(some 32), none, .mv (.t 7)⟩,
    ⟨(some 33), none, .en 0 false (.t 32) (.c (.pointer none))⟩,
    ⟨(some 34), none, .mv (.t 33)⟩,
    ⟨(some 35), (some (34, false)), .mv (.t 8)⟩,
    ⟨(some 36), (some (34, false)), .ib .neq (.t 35) (.c (.int .i64 0))⟩,
    ⟨(some 37), none, .pk (.t 34) (.c (.bool true)) (.t 36)⟩,
    ⟨(some 38), none, .mv (.t 37)⟩,
    ⟨(some 39), (some (38, false)), .mv (.t 7)⟩,
    ⟨(some 40), (some (38, false)), .ca 67 [(.t 39)]⟩,
    ⟨(some 41), (some (38, false)), .en 0 false (.t 40) (.c (.pointer none))⟩,
    ⟨(some 42), none, .pk (.t 38) (.c (.bool true)) (.t 41)⟩])
  (.cd (.t 42)
  (.sq (.rg [⟨(some 4), none, .mv (.c (.pointer none))⟩])
  .rt)
  .sk))
  (.sq (.rg [⟨(some 43), none, .mv (.t 7)⟩,
    ⟨(some 44), none, .ca 68 [(.t 43)]⟩])
  (.sq (.rd [⟨0, 0, [5], ⟨(some 45), none, .mv (.t 5)⟩⟩,
    ⟨1, 0, [7], ⟨(some 46), none, .mv (.t 7)⟩⟩,
    ⟨2, 2, [46], ⟨(some 47), none, .ca 67 [(.t 46)]⟩⟩,
    ⟨3, 0, [2], ⟨(some 48), none, .ld (.t 2) 6 true⟩⟩,
    ⟨4, 14, [48], ⟨(some 49), none, .ca 69 [(.t 48)]⟩⟩,
    ⟨5, 31, [45, 47, 49], ⟨(some 50), none, .bd [(.pointer none), (.pointer none), (.slice none 0 0), (.pointer none), (.slice none 0 0)] [(0, 1, (.t 45)), (1, 1, (.t 47)), (3, 1, (.t 49))]⟩⟩,
    ⟨6, 63, [50], ⟨(some 51), none, .bx 45 (.t 50)⟩⟩,
    ⟨7, 127, [51], ⟨(some 9), none, .mv (.t 51)⟩⟩])
  (.sq (.sq (.rg [⟨(some 10), none, .mv (.c (.int .i64 0))⟩])
  (.bl 0
  (.lp
  (.sq (.sq (.rg [⟨(some 52), none, .mv (.t 10)⟩,
    ⟨(some 53), none, .mv (.t 1)⟩,
    ⟨(some 54), none, .ib .lss (.t 52) (.t 53)⟩])
  (.cd (.t 54)
  .sk
  (.ex 0)))
  (.sq (.bl 1
  (.sq (.rg [⟨(some 58), none, .mv (.t 5)⟩,
    ⟨(some 59), none, .ld (.t 2) 6 true⟩,
    ⟨(some 60), none, .ca 60 [(.t 58), (.t 59)]⟩,
    ⟨(some 57), none, .mv (.t 60)⟩,
    ⟨(some 61), none, .ex (.t 57) 0⟩,
    ⟨(some 62), none, .ex (.t 57) 1⟩,
    ⟨(some 11), none, .mv (.t 61)⟩,
    ⟨(some 12), none, .mv (.t 62)⟩])
  (.sq (.sq (.rg [⟨(some 63), none, .mv (.t 11)⟩,
    ⟨(some 64), none, .en 0 false (.t 63) (.c (.pointer none))⟩,
    ⟨(some 65), none, .mv (.t 64)⟩,
    ⟨(some 66), (some (65, false)), .mv (.t 12)⟩,
    ⟨(some 67), (some (65, false)), .ib .neq (.t 66) (.c (.int .i64 0))⟩,
    ⟨(some 68), none, .pk (.t 65) (.c (.bool true)) (.t 67)⟩])
  (.cd (.t 68)
  (.sq (.rg [⟨(some 4), none, .mv (.c (.pointer none))⟩])
  .rt)
  .sk))
  (.sq (.rg [⟨(some 69), none, .mv (.t 9)⟩,
    ⟨(some 70), none, .mv (.t 9)⟩,
    ⟨(some 71), none, .nc (.t 70)⟩,
    ⟨(some 72), none, .fa (.t 71) 2⟩,
    ⟨(some 73), none, .ld (.t 72) 1 false⟩,
    ⟨(some 74), none, .mv (.t 11)⟩,
    ⟨(some 75), none, .bs 39 1 [(.pointer none)] [(0, 1, (.t 74))]⟩,
    ⟨(some 76), none, .ap 41 39 1 8 [(.pointer none)] (.t 73) (.t 75)⟩,
    ⟨(some 77), none, .nc (.t 69)⟩,
    ⟨(some 78), none, .fa (.t 77) 2⟩,
    ⟨none, none, .st (.t 78) (.t 76) 1⟩])
  (.rd [⟨0, 0, [9], ⟨(some 79), none, .mv (.t 9)⟩⟩,
    ⟨1, 0, [9], ⟨(some 80), none, .mv (.t 9)⟩⟩,
    ⟨2, 2, [80], ⟨(some 81), none, .nc (.t 80)⟩⟩,
    ⟨3, 6, [81], ⟨(some 82), none, .fa (.t 81) 4⟩⟩,
    ⟨4, 14, [82], ⟨(some 83), none, .ld (.t 82) 1 false⟩⟩,
    ⟨5, 0, [9], ⟨(some 84), none, .mv (.t 9)⟩⟩,
    ⟨6, 32, [84], ⟨(some 85), none, .nc (.t 84)⟩⟩,
    ⟨7, 96, [85], ⟨(some 86), none, .fa (.t 85) 3⟩⟩,
    ⟨8, 224, [86], ⟨(some 87), none, .ld (.t 86) 1 false⟩⟩,
    ⟨9, 480, [87], ⟨(some 88), none, .ca 70 [(.t 87)]⟩⟩,
    ⟨10, 992, [88], ⟨(some 89), none, .bs 89 1 [(.pointer none)] [(0, 1, (.t 88))]⟩⟩,
    ⟨11, 2046, [83, 89], ⟨(some 90), none, .ap 43 89 1 8 [(.pointer none)] (.t 83) (.t 89)⟩⟩,
    ⟨12, 4095, [79], ⟨(some 91), none, .nc (.t 79)⟩⟩,
    ⟨13, 8191, [91], ⟨(some 92), none, .fa (.t 91) 4⟩⟩,
    ⟨14, 16383, [92, 90], ⟨none, none, .st (.t 92) (.t 90) 1⟩⟩])))))
  (.rg [⟨(some 55), none, .mv (.t 10)⟩,
    ⟨(some 56), none, .ib .add (.t 55) (.c (.int .i64 1))⟩,
    ⟨(some 10), none, .mv (.t 56)⟩]))))))
  (.sq (.sq (.rg [⟨(some 13), none, .mv (.c (.int .i64 0))⟩])
  (.bl 2
  (.lp
  (.sq (.sq (.rg [⟨(some 93), none, .mv (.t 13)⟩,
    ⟨(some 94), none, .fa (.t 2) 3⟩,
    ⟨(some 95), none, .ld (.t 94) 1 false⟩,
    ⟨(some 96), none, .ib .lss (.t 93) (.t 95)⟩])
  (.cd (.t 96)
  .sk
  (.ex 2)))
  (.sq (.bl 3
  (.rd [⟨0, 0, [9], ⟨(some 99), none, .mv (.t 9)⟩⟩,
    ⟨1, 1, [99], ⟨(some 100), none, .nc (.t 99)⟩⟩,
    ⟨2, 3, [100], ⟨(some 101), none, .fa (.t 100) 3⟩⟩,
    ⟨3, 7, [101], ⟨(some 102), none, .ld (.t 101) 1 false⟩⟩,
    ⟨4, 15, [102], ⟨(some 103), none, .nc (.t 102)⟩⟩,
    ⟨5, 31, [103], ⟨(some 104), none, .fa (.t 103) 6⟩⟩,
    ⟨6, 63, [104], ⟨(some 105), none, .ld (.t 104) 1 false⟩⟩,
    ⟨7, 127, [105], ⟨(some 106), none, .nc (.t 105)⟩⟩,
    ⟨8, 255, [106], ⟨(some 107), none, .fa (.t 106) 0⟩⟩,
    ⟨9, 511, [107], ⟨(some 108), none, .ld (.t 107) 1 false⟩⟩,
    ⟨10, 0, [2], ⟨(some 109), none, .ld (.t 2) 6 true⟩⟩,
    ⟨11, 0, [13], ⟨(some 110), none, .mv (.t 13)⟩⟩,
    ⟨12, 3072, [109, 110], ⟨(some 111), none, .ca 71 [(.t 109), (.t 110)]⟩⟩,
    ⟨13, 8191, [108, 111], ⟨(some 112), none, .ia (.t 108) (.t 111) 1⟩⟩,
    ⟨14, 16383, [112], ⟨none, none, .st (.t 112) (.c (.int .u64 0)) 1⟩⟩]))
  (.rg [⟨(some 97), none, .mv (.t 13)⟩,
    ⟨(some 98), none, .ib .add (.t 97) (.c (.int .i64 1))⟩,
    ⟨(some 13), none, .mv (.t 98)⟩]))))))
  (.sq (.rg [⟨(some 113), none, .mv (.t 9)⟩,
    ⟨(some 114), none, .nc (.t 113)⟩,
    ⟨(some 115), none, .fa (.t 114) 3⟩,
    ⟨(some 116), none, .ld (.t 115) 1 false⟩,
    ⟨(some 117), none, .nc (.t 116)⟩,
    ⟨(some 118), none, .fa (.t 117) 6⟩,
    ⟨(some 119), none, .ld (.t 118) 1 false⟩,
    ⟨(some 120), none, .nc (.t 119)⟩,
    ⟨(some 121), none, .fa (.t 120) 0⟩,
    ⟨(some 122), none, .ld (.t 121) 1 false⟩,
    ⟨(some 123), none, .ia (.t 122) (.c (.int .i64 1)) 1⟩,
    ⟨none, none, .st (.t 123) (.c (.int .u64 0)) 1⟩])
  (.sq (.rg [⟨(some 124), none, .mv (.t 9)⟩,
    ⟨(some 4), none, .mv (.t 124)⟩])
  .rt)))))))))))⟩
theorem k17 : cF Tryz.prog Tryz.f17 = some c17 := by kernel_rfl
/-- rundale/rundalelaw13.take -/
def c18 : Fu := ⟨32, [.t 2, .t 3, .t 4],
  (.sq (.rg [⟨(some 2), none, .mv (.c (.int .i64 0))⟩,
    ⟨(some 3), none, .mv (.c (.bool false))⟩,
    ⟨(some 4), none, .mv (.c (.int .i64 0))⟩])
  (.sq (.rg [⟨(some 10), none, .mv (.t 0)⟩,
    ⟨(some 11), none, .ca 61 [(.t 10)]⟩,
    ⟨(some 5), none, .mv (.t 11)⟩])
  (.sq (.sq (.rg [⟨(some 12), none, .mv (.t 5)⟩,
    ⟨(some 13), none, .en 0 false (.t 12) (.c (.pointer none))⟩])
  (.cd (.t 13)
  (.sq (.rg [⟨(some 2), none, .mv (.c (.int .i64 0))⟩,
    ⟨(some 3), none, .mv (.c (.bool false))⟩,
    ⟨(some 4), none, .mv (.c (.int .i64 (-1)))⟩])
  .rt)
  .sk))
  (.sq (.rg [⟨(some 6), none, .mv (.c (.int .i64 0))⟩])
  (.sq (.sq (.rg [⟨(some 7), none, .mv (.c (.int .i64 0))⟩])
  (.bl 0
  (.lp
  (.sq (.sq (.rg [⟨(some 14), none, .mv (.t 7)⟩,
    ⟨(some 15), none, .ib .lss (.t 14) (.c (.int .i64 60))⟩,
    ⟨(some 16), none, .mv (.t 15)⟩,
    ⟨(some 17), (some (16, true)), .mv (.t 5)⟩,
    ⟨(some 18), (some (16, true)), .ca 63 [(.t 17)]⟩,
    ⟨(some 19), none, .pk (.t 16) (.t 18) (.c (.bool false))⟩])
  (.cd (.t 19)
  .sk
  (.ex 0)))
  (.sq (.bl 1
  (.rg [⟨(some 22), none, .mv (.t 6)⟩,
    ⟨(some 23), none, .ib .add (.t 22) (.c (.int .i64 1))⟩,
    ⟨(some 6), none, .mv (.t 23)⟩]))
  (.rg [⟨(some 20), none, .mv (.t 7)⟩,
    ⟨(some 21), none, .ib .add (.t 20) (.c (.int .i64 1))⟩,
    ⟨(some 7), none, .mv (.t 21)⟩]))))))
  (.sq (.rg [⟨(some 25), none, .mv (.t 5)⟩,
    ⟨(some 26), none, .ca 64 [(.t 25)]⟩,
    ⟨(some 24), none, .mv (.t 26)⟩,
    ⟨(some 27), none, .ex (.t 24) 0⟩,
    ⟨(some 28), none, .ex (.t 24) 1⟩,
    ⟨(some 8), none, .mv (.t 27)⟩,
    ⟨(some 9), none, .mv (.t 28)⟩])
  (.sq (.rg [⟨(some 29), none, .mv (.t 8)⟩,
    ⟨(some 30), none, .mv (.t 9)⟩,
    ⟨(some 31), none, .mv (.t 6)⟩,
    ⟨(some 2), none, .mv (.t 29)⟩,
    ⟨(some 3), none, .mv (.t 30)⟩,
    ⟨(some 4), none, .mv (.t 31)⟩])
  .rt)))))))⟩
theorem k18 : cF Tryz.prog Tryz.f18 = some c18 := by kernel_rfl
/-- (*rundale/supply.Supply).Stash -/
def c19 : Fu := ⟨8, [.t 2],
  (.sq (.rg [⟨(some 2), none, .mv (.c (.slice none 0 0))⟩])
  (.sq (.rg [⟨(some 3), none, .mv (.t 0)⟩,
    ⟨(some 4), none, .nc (.t 3)⟩,
    ⟨(some 5), none, .fa (.t 4) 8⟩,
    ⟨(some 6), none, .ld (.t 5) 1 false⟩,
    ⟨(some 7), none, .ca 72 [(.t 6)]⟩,
    ⟨(some 2), none, .mv (.t 7)⟩])
  .rt))⟩
theorem k19 : cF Tryz.prog Tryz.f19 = some c19 := by kernel_rfl
/-- (*rundale/supply.Supply).Put -/
def c20 : Fu := ⟨10, [],
  (.rg [⟨(some 4), none, .mv (.t 0)⟩,
    ⟨(some 5), none, .nc (.t 4)⟩,
    ⟨(some 6), none, .fa (.t 5) 8⟩,
    ⟨(some 7), none, .ld (.t 6) 1 false⟩,
    ⟨(some 8), none, .mv (.t 1)⟩,
    ⟨(some 9), none, .ca 73 [(.t 7), (.t 8)]⟩])⟩
theorem k20 : cF Tryz.prog Tryz.f20 = some c20 := by kernel_rfl
/-- rundale/rundalelaw13.gives -/
def c21 : Fu := ⟨18, [.t 2],
  (.sq (.rg [⟨(some 2), none, .mv (.c (.int .i64 0))⟩])
  (.sq (.sq (.rg [⟨(some 5), none, .mv (.t 0)⟩,
    ⟨(some 6), none, .en 0 false (.t 5) (.c (.pointer none))⟩])
  (.cd (.t 6)
  (.sq (.rg [⟨(some 2), none, .mv (.c (.int .i64 (-1)))⟩])
  .rt)
  .sk))
  (.sq (.rg [⟨(some 3), none, .mv (.c (.int .i64 0))⟩])
  (.sq (.sq (.rg [⟨(some 4), none, .mv (.c (.int .i64 0))⟩])
  (.bl 0
  (.lp
  (.sq (.sq (.rg [⟨(some 7), none, .mv (.t 4)⟩,
    ⟨(some 8), none, .ib .lss (.t 7) (.c (.int .i64 400))⟩,
    ⟨(some 9), none, .mv (.t 8)⟩,
    ⟨(some 10), (some (9, true)), .mv (.t 0)⟩,
    ⟨(some 11), (some (9, true)), .ca 74 [(.t 10)]⟩,
    ⟨(some 12), none, .pk (.t 9) (.t 11) (.c (.bool false))⟩])
  (.cd (.t 12)
  .sk
  (.ex 0)))
  (.sq (.bl 1
  (.rg [⟨(some 15), none, .mv (.t 3)⟩,
    ⟨(some 16), none, .ib .add (.t 15) (.c (.int .i64 1))⟩,
    ⟨(some 3), none, .mv (.t 16)⟩]))
  (.rg [⟨(some 13), none, .mv (.t 4)⟩,
    ⟨(some 14), none, .ib .add (.t 13) (.c (.int .i64 1))⟩,
    ⟨(some 4), none, .mv (.t 14)⟩]))))))
  (.sq (.rg [⟨(some 17), none, .mv (.t 3)⟩,
    ⟨(some 2), none, .mv (.t 17)⟩])
  .rt)))))⟩
theorem k21 : cF Tryz.prog Tryz.f21 = some c21 := by kernel_rfl
/-- (*rundale/supply.Supply).Spill -/
def c22 : Fu := ⟨10, [.t 2],
  (.sq (.rg [⟨(some 2), none, .mv (.c (.pointer none))⟩])
  (.sq (.rg [⟨(some 3), none, .mv (.t 0)⟩,
    ⟨(some 4), none, .mv (.t 0)⟩,
    ⟨(some 5), none, .nc (.t 4)⟩,
    ⟨(some 6), none, .fa (.t 5) 8⟩,
    ⟨(some 7), none, .ld (.t 6) 1 false⟩,
    ⟨(some 8), none, .ca 76 [(.t 7)]⟩,
    ⟨(some 9), none, .ca 75 [(.t 3), (.t 8)]⟩,
    ⟨(some 2), none, .mv (.t 9)⟩])
  .rt))⟩
theorem k22 : cF Tryz.prog Tryz.f22 = some c22 := by kernel_rfl
/-- (*rundale/stack.Stack).List -/
def c23 : Fu := ⟨45, [.t 2],
  (.sq (.rg [⟨(some 2), none, .mv (.c (.slice none 0 0))⟩])
  (.sq (.rg [⟨(some 3), none, .mv (.c (.slice none 0 0))⟩])
  (.sq (.sq (.rd [⟨0, 0, [0], ⟨(some 5), none, .mv (.t 0)⟩⟩,
    ⟨1, 0, [0], ⟨(some 6), none, .mv (.t 0)⟩⟩,
    ⟨2, 2, [6], ⟨(some 7), none, .nc (.t 6)⟩⟩,
    ⟨3, 6, [7], ⟨(some 8), none, .fa (.t 7) 0⟩⟩,
    ⟨4, 14, [8], ⟨(some 9), none, .ld (.t 8) 1 false⟩⟩,
    ⟨5, 0, [0], ⟨(some 10), none, .mv (.t 0)⟩⟩,
    ⟨6, 32, [10], ⟨(some 11), none, .nc (.t 10)⟩⟩,
    ⟨7, 96, [11], ⟨(some 12), none, .fa (.t 11) 1⟩⟩,
    ⟨8, 224, [12], ⟨(some 13), none, .ld (.t 12) 1 false⟩⟩,
    ⟨9, 510, [9, 13], ⟨(some 14), none, .ca 78 [(.t 9), (.t 13)]⟩⟩,
    ⟨10, 1023, [5, 14], ⟨(some 15), none, .ca 77 [(.t 5), (.t 14)]⟩⟩,
    ⟨11, 2047, [15], ⟨(some 4), none, .mv (.t 15)⟩⟩])
  (.bl 0
  (.lp
  (.sq (.sq (.rg [⟨(some 16), none, .mv (.t 4)⟩,
    ⟨(some 17), none, .ib .geq (.t 16) (.c (.int .i64 0))⟩,
    ⟨(some 18), none, .mv (.t 17)⟩,
    ⟨(some 19), (some (18, true)), .mv (.t 3)⟩,
    ⟨(some 20), (some (18, true)), .len (.t 19)⟩,
    ⟨(some 21), (some (18, true)), .mv (.t 0)⟩,
    ⟨(some 22), (some (18, true)), .nc (.t 21)⟩,
    ⟨(some 23), (some (18, true)), .fa (.t 22) 3⟩,
    ⟨(some 24), (some (18, true)), .ld (.t 23) 1 false⟩,
    ⟨(some 25), (some (18, true)), .ib .lss (.t 20) (.t 24)⟩,
    ⟨(some 26), none, .pk (.t 18) (.t 25) (.c (.bool false))⟩])
  (.cd (.t 26)
  .sk
  (.ex 0)))
  (.sq (.bl 1
  (.rg [⟨(some 40), none, .mv (.t 3)⟩,
    ⟨(some 41), none, .mv (.t 4)⟩,
    ⟨(some 42), none, .bs 3 1 [(.int .i64 0)] [(0, 1, (.t 41))]⟩,
    ⟨(some 43), none, .ap 49 3 1 8 [(.int .i64 0)] (.t 40) (.t 42)⟩,
    ⟨(some 3), none, .mv (.t 43)⟩]))
  (.rd [⟨0, 0, [0], ⟨(some 27), none, .mv (.t 0)⟩⟩,
    ⟨1, 0, [0], ⟨(some 28), none, .mv (.t 0)⟩⟩,
    ⟨2, 2, [28], ⟨(some 29), none, .nc (.t 28)⟩⟩,
    ⟨3, 6, [29], ⟨(some 30), none, .fa (.t 29) 0⟩⟩,
    ⟨4, 14, [30], ⟨(some 31), none, .ld (.t 30) 1 false⟩⟩,
    ⟨5, 0, [0], ⟨(some 32), none, .mv (.t 0)⟩⟩,
    ⟨6, 32, [32], ⟨(some 33), none, .nc (.t 32)⟩⟩,
    ⟨7, 96, [33], ⟨(some 34), none, .fa (.t 33) 2⟩⟩,
    ⟨8, 224, [34], ⟨(some 35), none, .ld (.t 34) 1 false⟩⟩,
    ⟨9, 0, [4], ⟨(some 36), none, .mv (.t 4)⟩⟩,
    ⟨10, 992, [35, 36], ⟨(some 37), none, .ib .add (.t 35) (.t 36)⟩⟩,
    ⟨11, 2046, [31, 37], ⟨(some 38), none, .ca 78 [(.t 31), (.t 37)]⟩⟩,
    ⟨12, 4095, [27, 38], ⟨(some 39), none, .ca 79 [(.t 27), (.t 38)]⟩⟩,
    ⟨13, 8191, [39], ⟨(some 4), none, .mv (.t 39)⟩⟩]))))))
  (.sq (.rg [⟨(some 44), none, .mv (.t 3)⟩,
    ⟨(some 2), none, .mv (.t 44)⟩])
  .rt))))⟩
theorem k23 : cF Tryz.prog Tryz.f23 = some c23 := by kernel_rfl
/-- (*rundale/supply.Supply).All -/
def c24 : Fu := ⟨10, [.t 2],
  (.sq (.rg [⟨(some 2), none, .mv (.c (.pointer none))⟩])
  (.sq (.rg [⟨(some 3), none, .mv (.t 0)⟩,
    ⟨(some 4), none, .mv (.t 0)⟩,
    ⟨(some 5), none, .nc (.t 4)⟩,
    ⟨(some 6), none, .fa (.t 5) 8⟩,
    ⟨(some 7), none, .ld (.t 6) 1 false⟩,
    ⟨(some 8), none, .ca 80 [(.t 7)]⟩,
    ⟨(some 9), none, .ca 75 [(.t 3), (.t 8)]⟩,
    ⟨(some 2), none, .mv (.t 9)⟩])
  .rt))⟩
theorem k24 : cF Tryz.prog Tryz.f24 = some c24 := by kernel_rfl
/-- rundale/rundaleref1.SameInts -/
def c27 : Fu := ⟨26, [.t 4],
  (.sq (.rg [⟨(some 4), none, .mv (.c (.bool false))⟩])
  (.sq (.sq (.rg [⟨(some 6), none, .mv (.t 0)⟩,
    ⟨(some 7), none, .len (.t 6)⟩,
    ⟨(some 8), none, .mv (.t 1)⟩,
    ⟨(some 9), none, .len (.t 8)⟩,
    ⟨(some 10), none, .ib .neq (.t 7) (.t 9)⟩])
  (.cd (.t 10)
  (.sq (.rg [⟨(some 4), none, .mv (.c (.bool false))⟩])
  .rt)
  .sk))
  (.sq (.sq (.rg [⟨(some 5), none, .mv (.c (.int .i64 0))⟩])
  (.bl 0
  (.lp
  (.sq (.sq (.rg [⟨(some 11), none, .mv (.t 5)⟩,
    ⟨(some 12), none, .mv (.t 0)⟩,
    ⟨(some 13), none, .len (.t 12)⟩,
    ⟨(some 14), none, .ib .lss (.t 11) (.t 13)⟩])
  (.cd (.t 14)
  .sk
  (.ex 0)))
  (.sq (.bl 1
  (.sq (.rd [⟨0, 0, [0], ⟨(some 17), none, .mv (.t 0)⟩⟩,
    ⟨1, 0, [5], ⟨(some 18), none, .mv (.t 5)⟩⟩,
    ⟨2, 3, [17, 18], ⟨(some 19), none, .ia (.t 17) (.t 18) 1⟩⟩,
    ⟨3, 7, [19], ⟨(some 20), none, .ld (.t 19) 1 false⟩⟩,
    ⟨4, 0, [1], ⟨(some 21), none, .mv (.t 1)⟩⟩,
    ⟨5, 0, [5], ⟨(some 22), none, .mv (.t 5)⟩⟩,
    ⟨6, 48, [21, 22], ⟨(some 23), none, .ia (.t 21) (.t 22) 1⟩⟩,
    ⟨7, 112, [23], ⟨(some 24), none, .ld (.t 23) 1 false⟩⟩,
    ⟨8, 255, [20, 24], ⟨(some 25), none, .ib .neq (.t 20) (.t 24)⟩⟩])
  (.cd (.t 25)
  (.sq (.rg [⟨(some 4), none, .mv (.c (.bool false))⟩])
  .rt)
  .sk)))
  (.rg [⟨(some 15), none, .mv (.t 5)⟩,
    ⟨(some 16), none, .ib .add (.t 15) (.c (.int .i64 1))⟩,
    ⟨(some 5), none, .mv (.t 16)⟩]))))))
  (.sq (.rg [⟨(some 4), none, .mv (.c (.bool true))⟩])
  .rt))))⟩
theorem k27 : cF Tryz.prog Tryz.f27 = some c27 := by kernel_rfl
/-- (*rundale/supply.Supply).Retire -/
def c42 : Fu := ⟨26, [.t 6],
  (.sq (.rg [⟨(some 6), none, .mv (.c (.int .i64 0))⟩])
  (.sq (.rg [⟨(some 10), none, .mv (.t 0)⟩,
    ⟨(some 11), none, .nc (.t 10)⟩,
    ⟨(some 12), none, .fa (.t 11) 9⟩,
    ⟨(some 13), none, .ld (.t 12) 1 false⟩,
    ⟨(some 14), none, .mv (.t 1)⟩,
    ⟨(some 15), none, .mv (.t 2)⟩,
    ⟨(some 16), none, .ca 106 [(.t 13), (.t 14), (.t 15)]⟩,
    ⟨(some 9), none, .mv (.t 16)⟩,
    ⟨(some 17), none, .ex (.t 9) 0⟩,
    ⟨(some 18), none, .ex (.t 9) 1⟩,
    ⟨(some 7), none, .mv (.t 17)⟩,
    ⟨(some 8), none, .mv (.t 18)⟩])
  (.sq (.rg [⟨(some 19), none, .mv (.t 0)⟩,
    ⟨(some 20), none, .nc (.t 19)⟩,
    ⟨(some 21), none, .fa (.t 20) 8⟩,
    ⟨(some 22), none, .ld (.t 21) 1 false⟩,
    ⟨(some 23), none, .mv (.t 7)⟩,
    ⟨(some 24), none, .ca 73 [(.t 22), (.t 23)]⟩])
  (.sq (.rg [⟨(some 25), none, .mv (.t 8)⟩,
    ⟨(some 6), none, .mv (.t 25)⟩])
  .rt))))⟩
theorem k42 : cF Tryz.prog Tryz.f42 = some c42 := by kernel_rfl
/-- (*rundale/rundaleref5.Stash).Give -/
def c45 : Fu := ⟨14, [],
  (.rg [⟨(some 4), none, .mv (.t 0)⟩,
    ⟨(some 5), none, .mv (.t 0)⟩,
    ⟨(some 6), none, .nc (.t 5)⟩,
    ⟨(some 7), none, .fa (.t 6) 1⟩,
    ⟨(some 8), none, .ld (.t 7) 1 false⟩,
    ⟨(some 9), none, .ap 49 3 1 8 [(.int .i64 0)] (.c (.slice none 0 0)) (.t 8)⟩,
    ⟨(some 10), none, .mv (.t 1)⟩,
    ⟨(some 11), none, .ap 49 3 1 8 [(.int .i64 0)] (.t 9) (.t 10)⟩,
    ⟨(some 12), none, .nc (.t 4)⟩,
    ⟨(some 13), none, .fa (.t 12) 1⟩,
    ⟨none, none, .st (.t 13) (.t 11) 1⟩])⟩
theorem k45 : cF Tryz.prog Tryz.f45 = some c45 := by kernel_rfl
/-- rundale/rundaleref1.Pin -/
def c47 : Fu := ⟨10, [.t 4],
  (.sq (.rg [⟨(some 2), none, .bx 24 (.t 0)⟩,
    ⟨(some 4), none, .mv (.c (.int .i64 0))⟩])
  (.sq (.rg [⟨(some 5), none, .ld (.t 2) 6 true⟩,
    ⟨(some 6), none, .fa (.t 2) 0⟩,
    ⟨(some 7), none, .ld (.t 6) 1 false⟩,
    ⟨(some 8), none, .mv (.t 1)⟩,
    ⟨(some 9), none, .ca 109 [(.t 5), (.c (.int .i64 3)), (.t 7), (.t 8)]⟩,
    ⟨(some 4), none, .mv (.t 9)⟩])
  .rt))⟩
theorem k47 : cF Tryz.prog Tryz.f47 = some c47 := by kernel_rfl
/-- (*rundale/cells.Cells).Lay -/
def c48 : Fu := ⟨18, [.t 6],
  (.sq (.rg [⟨(some 6), none, .mv (.c (.int .i64 0))⟩])
  (.sq (.sq (.rg [⟨(some 7), none, .mv (.t 0)⟩,
    ⟨(some 8), none, .mv (.t 1)⟩,
    ⟨(some 9), none, .ca 110 [(.t 7), (.t 8)]⟩,
    ⟨(some 10), none, .nt (.t 9)⟩])
  (.cd (.t 10)
  (.sq (.rg [⟨(some 6), none, .mv (.c (.int .i64 1))⟩])
  .rt)
  .sk))
  (.sq (.rg [⟨(some 11), none, .mv (.t 0)⟩,
    ⟨(some 12), none, .nc (.t 11)⟩,
    ⟨(some 13), none, .fa (.t 12) 0⟩,
    ⟨(some 14), none, .ld (.t 13) 1 false⟩,
    ⟨(some 15), none, .mv (.t 1)⟩,
    ⟨(some 16), none, .mv (.t 2)⟩,
    ⟨(some 17), none, .ia (.t 14) (.t 15) 1⟩,
    ⟨none, none, .st (.t 17) (.t 16) 1⟩])
  (.sq (.rg [⟨(some 6), none, .mv (.c (.int .i64 0))⟩])
  .rt))))⟩
theorem k48 : cF Tryz.prog Tryz.f48 = some c48 := by kernel_rfl
/-- rundale/lay.Pin -/
def c49 : Fu := ⟨8, [.t 4],
  (.sq (.rg [⟨(some 2), none, .bx 24 (.t 0)⟩,
    ⟨(some 4), none, .mv (.c (.int .i64 0))⟩])
  (.sq (.rg [⟨(some 5), none, .ld (.t 2) 6 true⟩,
    ⟨(some 6), none, .mv (.t 1)⟩,
    ⟨(some 7), none, .ca 111 [(.t 5), (.c (.int .i64 3)), (.t 6)]⟩,
    ⟨(some 4), none, .mv (.t 7)⟩])
  .rt))⟩
theorem k49 : cF Tryz.prog Tryz.f49 = some c49 := by kernel_rfl
/-- (*rundale/supply.Supply).Bucket -/
def c54 : Fu := ⟨14, [.t 4, .t 5],
  (.sq (.rg [⟨(some 4), none, .mv (.c (.int .i64 0))⟩,
    ⟨(some 5), none, .mv (.c (.slice none 0 0))⟩])
  (.sq (.rg [⟨(some 6), none, .mv (.t 0)⟩,
    ⟨(some 7), none, .nc (.t 6)⟩,
    ⟨(some 8), none, .fa (.t 7) 9⟩,
    ⟨(some 9), none, .ld (.t 8) 1 false⟩,
    ⟨(some 10), none, .mv (.t 1)⟩,
    ⟨(some 11), none, .ca 116 [(.t 9), (.t 10)]⟩,
    ⟨(some 12), none, .ex (.t 11) 0⟩,
    ⟨(some 13), none, .ex (.t 11) 1⟩,
    ⟨(some 4), none, .mv (.t 12)⟩,
    ⟨(some 5), none, .mv (.t 13)⟩])
  .rt))⟩
theorem k54 : cF Tryz.prog Tryz.f54 = some c54 := by kernel_rfl
/-- (*rundale/rundalemake.Seq).N -/
def c55 : Fu := ⟨36, [.t 4],
  (.sq (.rg [⟨(some 4), none, .mv (.c (.int .i64 0))⟩])
  (.sq (.rg [⟨(some 5), none, .mv (.c (.int .i64 0))⟩])
  (.sq (.sq (.rd [⟨0, 0, [0], ⟨(some 6), none, .mv (.t 0)⟩⟩,
    ⟨1, 1, [6], ⟨(some 7), none, .nc (.t 6)⟩⟩,
    ⟨2, 3, [7], ⟨(some 8), none, .fa (.t 7) 1⟩⟩,
    ⟨3, 7, [8], ⟨(some 9), none, .ld (.t 8) 1 false⟩⟩,
    ⟨4, 0, [0], ⟨(some 10), none, .mv (.t 0)⟩⟩,
    ⟨5, 16, [10], ⟨(some 11), none, .nc (.t 10)⟩⟩,
    ⟨6, 48, [11], ⟨(some 12), none, .fa (.t 11) 0⟩⟩,
    ⟨7, 112, [12], ⟨(some 13), none, .ld (.t 12) 1 false⟩⟩,
    ⟨8, 240, [13], ⟨(some 14), none, .len (.t 13)⟩⟩,
    ⟨9, 511, [9, 14], ⟨(some 15), none, .ib .lss (.t 9) (.t 14)⟩⟩])
  (.cd (.t 15)
  (.rd [⟨0, 0, [0], ⟨(some 16), none, .mv (.t 0)⟩⟩,
    ⟨1, 1, [16], ⟨(some 17), none, .nc (.t 16)⟩⟩,
    ⟨2, 3, [17], ⟨(some 18), none, .fa (.t 17) 0⟩⟩,
    ⟨3, 7, [18], ⟨(some 19), none, .ld (.t 18) 1 false⟩⟩,
    ⟨4, 0, [0], ⟨(some 20), none, .mv (.t 0)⟩⟩,
    ⟨5, 16, [20], ⟨(some 21), none, .nc (.t 20)⟩⟩,
    ⟨6, 48, [21], ⟨(some 22), none, .fa (.t 21) 1⟩⟩,
    ⟨7, 112, [22], ⟨(some 23), none, .ld (.t 22) 1 false⟩⟩,
    ⟨8, 255, [19, 23], ⟨(some 24), none, .ia (.t 19) (.t 23) 1⟩⟩,
    ⟨9, 511, [24], ⟨(some 25), none, .ld (.t 24) 1 false⟩⟩,
    ⟨10, 1023, [25], ⟨(some 5), none, .mv (.t 25)⟩⟩])
  .sk))
  (.sq (.rg [⟨(some 26), none, .mv (.t 0)⟩,
    ⟨(some 27), none, .nc (.t 26)⟩,
    ⟨(some 28), none, .fa (.t 27) 1⟩,
    ⟨(some 29), none, .ld (.t 28) 1 false⟩,
    ⟨(some 30), none, .ib .add (.t 29) (.c (.int .i64 1))⟩,
    ⟨(some 31), none, .nc (.t 26)⟩,
    ⟨(some 32), none, .fa (.t 31) 1⟩,
    ⟨none, none, .st (.t 32) (.t 30) 1⟩])
  (.sq (.rg [⟨(some 33), none, .mv (.t 5)⟩,
    ⟨(some 34), none, .mv (.t 1)⟩,
    ⟨(some 35), none, .ca 12 [(.t 33), (.t 34)]⟩,
    ⟨(some 4), none, .mv (.t 35)⟩])
  .rt)))))⟩
theorem k55 : cF Tryz.prog Tryz.f55 = some c55 := by kernel_rfl
/-- rundale/lay.May -/
def c56 : Fu := ⟨37, [.t 2],
  (.sq (.rg [⟨(some 1), none, .bx 24 (.t 0)⟩,
    ⟨(some 2), none, .mv (.c (.bool false))⟩])
  (.sq (.rg [⟨(some 3), none, .fa (.t 1) 0⟩,
    ⟨(some 4), none, .ld (.t 3) 1 false⟩,
    ⟨(some 5), none, .ca 117 [(.t 4), (.c (.int .i64 1)), (.c (.int .i64 64))]⟩,
    ⟨(some 6), none, .mv (.t 5)⟩,
    ⟨(some 7), (some (6, true)), .fa (.t 1) 1⟩,
    ⟨(some 8), (some (6, true)), .ld (.t 7) 1 false⟩,
    ⟨(some 9), (some (6, true)), .ca 117 [(.t 8), (.c (.int .i64 1)), (.c (.int .i64 4096))]⟩,
    ⟨(some 10), none, .pk (.t 6) (.t 9) (.c (.bool false))⟩,
    ⟨(some 11), none, .mv (.t 10)⟩,
    ⟨(some 12), (some (11, true)), .fa (.t 1) 2⟩,
    ⟨(some 13), (some (11, true)), .ld (.t 12) 1 false⟩,
    ⟨(some 14), (some (11, true)), .ca 117 [(.t 13), (.c (.int .i64 8)), (.c (.int .i64 1024))]⟩,
    ⟨(some 15), none, .pk (.t 11) (.t 14) (.c (.bool false))⟩,
    ⟨(some 16), none, .mv (.t 15)⟩,
    ⟨(some 17), (some (16, true)), .fa (.t 1) 2⟩,
    ⟨(some 18), (some (16, true)), .ld (.t 17) 1 false⟩,
    ⟨(some 19), (some (16, true)), .ib .rem (.t 18) (.c (.int .i64 8))⟩,
    ⟨(some 20), (some (16, true)), .ib .eql (.t 19) (.c (.int .i64 0))⟩,
    ⟨(some 21), none, .pk (.t 16) (.t 20) (.c (.bool false))⟩,
    ⟨(some 22), none, .mv (.t 21)⟩,
    ⟨(some 23), (some (22, true)), .fa (.t 1) 3⟩,
    ⟨(some 24), (some (22, true)), .ld (.t 23) 1 false⟩,
    ⟨(some 25), (some (22, true)), .ca 117 [(.t 24), (.c (.int .i64 1)), (.c (.int .i64 4096))]⟩,
    ⟨(some 26), none, .pk (.t 22) (.t 25) (.c (.bool false))⟩,
    ⟨(some 27), none, .mv (.t 26)⟩,
    ⟨(some 28), (some (27, true)), .fa (.t 1) 4⟩,
    ⟨(some 29), (some (27, true)), .ld (.t 28) 1 false⟩,
    ⟨(some 30), (some (27, true)), .ca 117 [(.t 29), (.c (.int .i64 0)), (.c (.int .i64 64))]⟩,
    ⟨(some 31), none, .pk (.t 27) (.t 30) (.c (.bool false))⟩,
    ⟨(some 32), none, .mv (.t 31)⟩,
    ⟨(some 33), (some (32, true)), .fa (.t 1) 5⟩,
    ⟨(some 34), (some (32, true)), .ld (.t 33) 1 false⟩,
    ⟨(some 35), (some (32, true)), .ca 117 [(.t 34), (.c (.int .i64 1)), (.c (.int .i64 8))]⟩,
    ⟨(some 36), none, .pk (.t 32) (.t 35) (.c (.bool false))⟩,
    ⟨(some 2), none, .mv (.t 36)⟩])
  .rt))⟩
theorem k56 : cF Tryz.prog Tryz.f56 = some c56 := by kernel_rfl
/-- rundale/lay.parts -/
def c57 : Fu := ⟨40, [.c 2 15 true],
  (.sq (.rg [⟨(some 1), none, .bx 24 (.t 0)⟩,
    ⟨(some 2), none, .al 126 [(.int .i64 0), (.int .i64 0), (.int .i64 0), (.int .i64 0), (.int .i64 0), (.int .i64 0), (.int .i64 0), (.int .i64 0), (.int .i64 0), (.int .i64 0), (.int .i64 0), (.int .i64 0), (.int .i64 0), (.int .i64 0), (.int .i64 0)]⟩])
  (.sq (.rg [⟨(some 6), none, .fa (.t 1) 0⟩,
    ⟨(some 7), none, .ld (.t 6) 1 false⟩,
    ⟨(some 8), none, .bd [(.int .i64 0), (.int .i64 0), (.int .i64 0)] [(0, 1, (.c (.int .i64 3))), (2, 1, (.t 7))]⟩,
    ⟨(some 9), none, .fa (.t 1) 3⟩,
    ⟨(some 10), none, .ld (.t 9) 1 false⟩,
    ⟨(some 11), none, .bd [(.int .i64 0), (.int .i64 0), (.int .i64 0)] [(0, 1, (.c (.int .i64 4))), (2, 1, (.t 10))]⟩,
    ⟨(some 12), none, .fa (.t 1) 3⟩,
    ⟨(some 13), none, .ld (.t 12) 1 false⟩,
    ⟨(some 14), none, .bd [(.int .i64 0), (.int .i64 0), (.int .i64 0)] [(0, 1, (.c (.int .i64 5))), (2, 1, (.t 13))]⟩,
    ⟨(some 15), none, .fa (.t 1) 1⟩,
    ⟨(some 16), none, .ld (.t 15) 1 false⟩,
    ⟨(some 17), none, .bd [(.int .i64 0), (.int .i64 0), (.int .i64 0)] [(0, 1, (.c (.int .i64 6))), (2, 1, (.t 16))]⟩,
    ⟨(some 18), none, .fa (.t 1) 1⟩,
    ⟨(some 19), none, .ld (.t 18) 1 false⟩,
    ⟨(some 20), none, .fa (.t 1) 2⟩,
    ⟨(some 21), none, .ld (.t 20) 1 false⟩,
    ⟨(some 22), none, .ib .mul (.t 19) (.t 21)⟩,
    ⟨(some 23), none, .bd [(.int .i64 0), (.int .i64 0), (.int .i64 0)] [(0, 1, (.c (.int .i64 7))), (2, 1, (.t 22))]⟩,
    ⟨(some 24), none, .bd [(.int .i64 0), (.int .i64 0), (.int .i64 0), (.int .i64 0), (.int .i64 0), (.int .i64 0), (.int .i64 0), (.int .i64 0), (.int .i64 0), (.int .i64 0), (.int .i64 0), (.int .i64 0), (.int .i64 0), (.int .i64 0), (.int .i64 0)] [(0, 3, (.t 8)), (3, 3, (.t 11)), (6, 3, (.t 14)), (9, 3, (.t 17)), (12, 3, (.t 23))]⟩,
    ⟨(some 3), none, .al 126 [(.int .i64 0), (.int .i64 0), (.int .i64 0), (.int .i64 0), (.int .i64 0), (.int .i64 0), (.int .i64 0), (.int .i64 0), (.int .i64 0), (.int .i64 0), (.int .i64 0), (.int .i64 0), (.int .i64 0), (.int .i64 0), (.int .i64 0)]⟩,
    ⟨none, none, .st (.t 3) (.t 24) 15⟩])
  (.sq (.rg [⟨(some 4), none, .mv (.c (.int .i64 3))⟩])
  (.sq (.sq (.rg [⟨(some 25), none, .mv (.c (.int .i64 0))⟩])
  (.bl 0
  (.lp
  (.sq (.rg [⟨(some 26), none, .ib .lss (.t 25) (.c (.int .i64 5))⟩])
  (.sq (.cd (.t 26)
  .sk
  (.ex 0))
  (.sq (.bl 1
  (.sq (.rg [⟨(some 27), none, .mv (.t 25)⟩,
    ⟨(some 5), none, .mv (.t 27)⟩])
  (.sq (.rg [⟨(some 28), none, .mv (.t 5)⟩,
    ⟨(some 29), none, .mv (.t 4)⟩,
    ⟨(some 30), none, .iaa (.t 3) (.t 28) 5 3⟩,
    ⟨(some 31), none, .fa (.t 30) 1⟩,
    ⟨none, none, .st (.t 31) (.t 29) 1⟩])
  (.rg [⟨(some 32), none, .mv (.t 4)⟩,
    ⟨(some 33), none, .mv (.t 5)⟩,
    ⟨(some 34), none, .iaa (.t 3) (.t 33) 5 3⟩,
    ⟨(some 35), none, .fa (.t 34) 2⟩,
    ⟨(some 36), none, .ld (.t 35) 1 false⟩,
    ⟨(some 37), none, .ib .add (.t 32) (.t 36)⟩,
    ⟨(some 4), none, .mv (.t 37)⟩]))))
  (.rg [⟨(some 38), none, .ib .add (.t 25) (.c (.int .i64 1))⟩,
    ⟨(some 25), none, .mv (.t 38)⟩])))))))
  (.sq (.rg [⟨(some 39), none, .ld (.t 3) 15 true⟩,
    ⟨none, none, .st (.t 2) (.t 39) 15⟩])
  .rt)))))⟩
theorem k57 : cF Tryz.prog Tryz.f57 = some c57 := by kernel_rfl
/-- (*rundale/cells.Cells).Len -/
def c58 : Fu := ⟨8, [.t 2],
  (.sq (.rg [⟨(some 2), none, .mv (.c (.int .i64 0))⟩])
  (.sq (.rg [⟨(some 3), none, .mv (.t 0)⟩,
    ⟨(some 4), none, .nc (.t 3)⟩,
    ⟨(some 5), none, .fa (.t 4) 0⟩,
    ⟨(some 6), none, .ld (.t 5) 1 false⟩,
    ⟨(some 7), none, .len (.t 6)⟩,
    ⟨(some 2), none, .mv (.t 7)⟩])
  .rt))⟩
theorem k58 : cF Tryz.prog Tryz.f58 = some c58 := by kernel_rfl
/-- rundale/supply.New -/
def c60 : Fu := ⟨27, [.t 4, .t 5],
  (.sq (.rg [⟨(some 3), none, .bx 24 (.t 1)⟩,
    ⟨(some 4), none, .mv (.c (.pointer none))⟩,
    ⟨(some 5), none, .mv (.c (.int .i64 0))⟩])
  (.sq (.rg [⟨(some 9), none, .mv (.t 0)⟩,
    ⟨(some 10), none, .ld (.t 3) 6 true⟩,
    ⟨(some 11), none, .ca 66 [(.t 9), (.t 10)]⟩,
    ⟨(some 8), none, .mv (.t 11)⟩,
    ⟨(some 12), none, .ex (.t 8) 0⟩,
    ⟨(some 13), none, .ex (.t 8) 1⟩,
    ⟨(some 6), none, .mv (.t 12)⟩,
    ⟨(some 7), none, .mv (.t 13)⟩])
  (.sq (.sq (.rg [⟨(some 14), none, .mv (.t 7)⟩,
    ⟨(some 15), none, .ib .neq (.t 14) (.c (.int .i64 0))⟩])
  (.cd (.t 15)
  (.sq (.rg [⟨(some 16), none, .mv (.t 7)⟩,
    ⟨(some 4), none, .mv (.c (.pointer none))⟩,
    ⟨(some 5), none, .mv (.t 16)⟩])
  .rt)
  .sk))
  (.sq (.rd [⟨0, 0, [0], ⟨(some 17), none, .mv (.t 0)⟩⟩,
    ⟨1, 0, [3], ⟨(some 18), none, .ld (.t 3) 6 true⟩⟩,
    ⟨2, 0, [6], ⟨(some 19), none, .mv (.t 6)⟩⟩,
    ⟨3, 4, [19], ⟨(some 20), none, .ca 67 [(.t 19)]⟩⟩,
    ⟨4, 0, [3], ⟨(some 21), none, .fa (.t 3) 4⟩⟩,
    ⟨5, 16, [21], ⟨(some 22), none, .ld (.t 21) 1 false⟩⟩,
    ⟨6, 60, [22], ⟨(some 23), none, .ca 119 [(.t 22)]⟩⟩,
    ⟨7, 124, [], ⟨(some 24), none, .ca 120 []⟩⟩,
    ⟨8, 255, [17, 18, 20, 23, 24], ⟨(some 25), none, .bd [(.pointer none), (.int .i64 0), (.int .i64 0), (.int .i64 0), (.int .i64 0), (.int .i64 0), (.int .i64 0), (.pointer none), (.pointer none), (.pointer none)] [(0, 1, (.t 17)), (1, 6, (.t 18)), (7, 1, (.t 20)), (8, 1, (.t 23)), (9, 1, (.t 24))]⟩⟩,
    ⟨9, 511, [25], ⟨(some 26), none, .bx 145 (.t 25)⟩⟩,
    ⟨10, 1023, [26], ⟨(some 4), none, .mv (.t 26)⟩⟩,
    ⟨11, 2047, [], ⟨(some 5), none, .mv (.c (.int .i64 0))⟩⟩])
  .rt))))⟩
theorem k60 : cF Tryz.prog Tryz.f60 = some c60 := by kernel_rfl
/-- (*rundale/supply.Supply).Take -/
def c61 : Fu := ⟨26, [.t 2],
  (.sq (.rg [⟨(some 2), none, .mv (.c (.pointer none))⟩])
  (.sq (.rg [⟨(some 4), none, .mv (.t 0)⟩,
    ⟨(some 5), none, .bd [.nilFunc, .nilFunc, .nilFunc, .nilFunc, (.int .i64 0), (.pointer none), (.pointer none), (.int .i64 0), (.int .i64 0), (.bool false)] [(5, 1, (.t 4)), (8, 1, (.c (.int .i64 (-1))))]⟩,
    ⟨(some 6), none, .bx 194 (.t 5)⟩,
    ⟨(some 3), none, .mv (.t 6)⟩])
  (.sq (.bl 0
  (.sq (.rg [⟨(some 10), none, .mv (.t 3)⟩,
    ⟨(some 11), none, .ca 121 [(.t 10)]⟩,
    ⟨(some 9), none, .mv (.t 11)⟩])
  (.cd (.t 9)
  .sk
  (.sq (.rg [⟨(some 13), none, .mv (.t 0)⟩,
    ⟨(some 14), none, .nc (.t 13)⟩,
    ⟨(some 15), none, .fa (.t 14) 9⟩,
    ⟨(some 16), none, .ld (.t 15) 1 false⟩,
    ⟨(some 17), none, .ca 122 [(.t 16)]⟩,
    ⟨(some 18), none, .ib .gtr (.t 17) (.c (.int .i64 0))⟩,
    ⟨(some 12), none, .mv (.t 18)⟩])
  (.cd (.t 12)
  (.rg [⟨(some 19), none, .mv (.t 3)⟩,
    ⟨(some 20), none, .nc (.t 19)⟩,
    ⟨(some 21), none, .fa (.t 20) 0⟩,
    ⟨(some 22), none, .mv (.t 3)⟩,
    ⟨(some 23), none, .mf (.func 123) [(.t 22)] []⟩,
    ⟨(some 24), none, .ca 114 [(.t 21), (.t 23)]⟩])
  (.rg [⟨(some 7), none, .mv (.t 3)⟩,
    ⟨(some 8), none, .ca 124 [(.t 7)]⟩]))))))
  (.sq (.rg [⟨(some 25), none, .mv (.t 3)⟩,
    ⟨(some 2), none, .mv (.t 25)⟩])
  .rt))))⟩
theorem k61 : cF Tryz.prog Tryz.f61 = some c61 := by kernel_rfl
/-- (*rundale/supply.Take).Done -/
def c62 : Fu := ⟨7, [.t 2],
  (.sq (.rg [⟨(some 2), none, .mv (.c (.bool false))⟩])
  (.sq (.rg [⟨(some 3), none, .mv (.t 0)⟩,
    ⟨(some 4), none, .nc (.t 3)⟩,
    ⟨(some 5), none, .fa (.t 4) 0⟩,
    ⟨(some 6), none, .ca 97 [(.t 5)]⟩,
    ⟨(some 2), none, .mv (.t 6)⟩])
  .rt))⟩
theorem k62 : cF Tryz.prog Tryz.f62 = some c62 := by kernel_rfl
/-- (*rundale/supply.Take).Step -/
def c63 : Fu := ⟨7, [.t 2],
  (.sq (.rg [⟨(some 2), none, .mv (.c (.bool false))⟩])
  (.sq (.rg [⟨(some 3), none, .mv (.t 0)⟩,
    ⟨(some 4), none, .nc (.t 3)⟩,
    ⟨(some 5), none, .fa (.t 4) 0⟩,
    ⟨(some 6), none, .ca 93 [(.t 5)]⟩,
    ⟨(some 2), none, .mv (.t 6)⟩])
  .rt))⟩
theorem k63 : cF Tryz.prog Tryz.f63 = some c63 := by kernel_rfl
/-- (*rundale/supply.Take).Chunk -/
def c64 : Fu := ⟨15, [.t 2, .t 3],
  (.sq (.rg [⟨(some 2), none, .mv (.c (.int .i64 0))⟩,
    ⟨(some 3), none, .mv (.c (.bool false))⟩])
  (.sq (.sq (.rg [⟨(some 4), none, .mv (.t 0)⟩,
    ⟨(some 5), none, .ca 62 [(.t 4)]⟩,
    ⟨(some 6), none, .nt (.t 5)⟩])
  (.cd (.t 6)
  (.sq (.rg [⟨(some 2), none, .mv (.c (.int .i64 0))⟩,
    ⟨(some 3), none, .mv (.c (.bool false))⟩])
  .rt)
  .sk))
  (.sq (.rd [⟨0, 0, [0], ⟨(some 7), none, .mv (.t 0)⟩⟩,
    ⟨1, 1, [7], ⟨(some 8), none, .nc (.t 7)⟩⟩,
    ⟨2, 3, [8], ⟨(some 9), none, .fa (.t 8) 7⟩⟩,
    ⟨3, 7, [9], ⟨(some 10), none, .ld (.t 9) 1 false⟩⟩,
    ⟨4, 0, [0], ⟨(some 11), none, .mv (.t 0)⟩⟩,
    ⟨5, 16, [11], ⟨(some 12), none, .nc (.t 11)⟩⟩,
    ⟨6, 48, [12], ⟨(some 13), none, .fa (.t 12) 9⟩⟩,
    ⟨7, 112, [13], ⟨(some 14), none, .ld (.t 13) 1 false⟩⟩,
    ⟨8, 15, [10], ⟨(some 2), none, .mv (.t 10)⟩⟩,
    ⟨9, 511, [14], ⟨(some 3), none, .mv (.t 14)⟩⟩])
  .rt)))⟩
theorem k64 : cF Tryz.prog Tryz.f64 = some c64 := by kernel_rfl
/-- (*rundale/supply.Take).Seen -/
def c65 : Fu := ⟨7, [.t 2],
  (.sq (.rg [⟨(some 2), none, .mv (.c (.int .i64 0))⟩])
  (.sq (.rg [⟨(some 3), none, .mv (.t 0)⟩,
    ⟨(some 4), none, .nc (.t 3)⟩,
    ⟨(some 5), none, .fa (.t 4) 8⟩,
    ⟨(some 6), none, .ld (.t 5) 1 false⟩,
    ⟨(some 2), none, .mv (.t 6)⟩])
  .rt))⟩
theorem k65 : cF Tryz.prog Tryz.f65 = some c65 := by kernel_rfl
/-- rundale/chain.New -/
def c66 : Fu := ⟨35, [.t 4, .t 5],
  (.sq (.rg [⟨(some 3), none, .bx 24 (.t 1)⟩,
    ⟨(some 4), none, .mv (.c (.pointer none))⟩,
    ⟨(some 5), none, .mv (.c (.int .i64 0))⟩])
  (.sq (.sq (.rd [⟨0, 0, [3], ⟨(some 8), none, .ld (.t 3) 6 true⟩⟩,
    ⟨1, 1, [8], ⟨(some 9), none, .ca 56 [(.t 8)]⟩⟩,
    ⟨2, 3, [9], ⟨(some 10), none, .nt (.t 9)⟩⟩,
    ⟨3, 7, [10], ⟨(some 11), none, .mv (.t 10)⟩⟩,
    ⟨4, 15, [0, 11], ⟨(some 12), (some (11, false)), .mv (.t 0)⟩⟩,
    ⟨5, 31, [12, 11], ⟨(some 13), (some (11, false)), .ca 58 [(.t 12)]⟩⟩,
    ⟨6, 15, [3, 11], ⟨(some 14), (some (11, false)), .ld (.t 3) 6 true⟩⟩,
    ⟨7, 127, [14, 11], ⟨(some 15), (some (11, false)), .ca 13 [(.t 14)]⟩⟩,
    ⟨8, 255, [13, 15, 11], ⟨(some 16), (some (11, false)), .ib .lss (.t 13) (.t 15)⟩⟩,
    ⟨9, 511, [11, 16], ⟨(some 17), none, .pk (.t 11) (.c (.bool true)) (.t 16)⟩⟩])
  (.cd (.t 17)
  (.sq (.rg [⟨(some 4), none, .mv (.c (.pointer none))⟩,
    ⟨(some 5), none, .mv (.c (.int .i64 1))⟩])
  .rt)
  .sk))
  (.sq (.rd [⟨0, 0, [0], ⟨(some 19), none, .mv (.t 0)⟩⟩,
    ⟨1, 0, [3], ⟨(some 20), none, .ld (.t 3) 6 true⟩⟩,
    ⟨2, 2, [20], ⟨(some 21), none, .ca 126 [(.t 20), (.c (.int .i64 0))]⟩⟩,
    ⟨3, 0, [3], ⟨(some 22), none, .fa (.t 3) 1⟩⟩,
    ⟨4, 8, [22], ⟨(some 23), none, .ld (.t 22) 1 false⟩⟩,
    ⟨5, 31, [19, 21, 23], ⟨(some 24), none, .ca 125 [(.t 19), (.c (.int .i64 0)), (.t 21), (.t 23)]⟩⟩,
    ⟨6, 63, [24], ⟨(some 18), none, .mv (.t 24)⟩⟩,
    ⟨7, 127, [18], ⟨(some 25), none, .ex (.t 18) 0⟩⟩,
    ⟨8, 127, [18], ⟨(some 26), none, .ex (.t 18) 1⟩⟩,
    ⟨9, 255, [25], ⟨(some 6), none, .mv (.t 25)⟩⟩,
    ⟨10, 1023, [26], ⟨(some 7), none, .mv (.t 26)⟩⟩])
  (.sq (.sq (.rg [⟨(some 27), none, .mv (.t 7)⟩,
    ⟨(some 28), none, .ib .neq (.t 27) (.c (.int .i64 0))⟩])
  (.cd (.t 28)
  (.sq (.rg [⟨(some 29), none, .mv (.t 7)⟩,
    ⟨(some 4), none, .mv (.c (.pointer none))⟩,
    ⟨(some 5), none, .mv (.t 29)⟩])
  .rt)
  .sk))
  (.sq (.rg [⟨(some 30), none, .mv (.t 0)⟩,
    ⟨(some 31), none, .ld (.t 3) 6 true⟩,
    ⟨(some 32), none, .mv (.t 6)⟩,
    ⟨(some 33), none, .bd [(.pointer none), (.int .i64 0), (.int .i64 0), (.int .i64 0), (.int .i64 0), (.int .i64 0), (.int .i64 0), (.pointer none)] [(0, 1, (.t 30)), (1, 6, (.t 31)), (7, 1, (.t 32))]⟩,
    ⟨(some 34), none, .bx 198 (.t 33)⟩,
    ⟨(some 4), none, .mv (.t 34)⟩,
    ⟨(some 5), none, .mv (.c (.int .i64 0))⟩])
  .rt)))))⟩
theorem k66 : cF Tryz.prog Tryz.f66 = some c66 := by kernel_rfl
/-- (*rundale/chain.Chains).Pool -/
def c67 : Fu := ⟨7, [.t 2],
  (.sq (.rg [⟨(some 2), none, .mv (.c (.pointer none))⟩])
  (.sq (.rg [⟨(some 3), none, .mv (.t 0)⟩,
    ⟨(some 4), none, .nc (.t 3)⟩,
    ⟨(some 5), none, .fa (.t 4) 7⟩,
    ⟨(some 6), none, .ld (.t 5) 1 false⟩,
    ⟨(some 2), none, .mv (.t 6)⟩])
  .rt))⟩
theorem k67 : cF Tryz.prog Tryz.f67 = some c67 := by kernel_rfl
/-- (*rundale/chain.Chains).Fill -/
def c68 : Fu := ⟨7, [],
  (.rg [⟨(some 2), none, .mv (.t 0)⟩,
    ⟨(some 3), none, .nc (.t 2)⟩,
    ⟨(some 4), none, .fa (.t 3) 7⟩,
    ⟨(some 5), none, .ld (.t 4) 1 false⟩,
    ⟨(some 6), none, .ca 127 [(.t 5)]⟩])⟩
theorem k68 : cF Tryz.prog Tryz.f68 = some c68 := by kernel_rfl
/-- rundale/rundaleref11.New -/
def c69 : Fu := ⟨53, [.t 2],
  (.sq (.rg [⟨(some 1), none, .bx 24 (.t 0)⟩,
    ⟨(some 2), none, .mv (.c (.pointer none))⟩])
  (.sq (.rg [⟨(some 5), none, .ld (.t 1) 6 true⟩,
    ⟨(some 6), none, .ca 129 [(.t 5)]⟩,
    ⟨(some 7), none, .ca 128 [(.t 6)]⟩,
    ⟨(some 3), none, .mv (.t 7)⟩])
  (.sq (.rg [⟨(some 8), none, .ld (.t 1) 6 true⟩,
    ⟨(some 9), none, .mv (.t 3)⟩,
    ⟨(some 10), none, .bd [(.int .i64 0), (.int .i64 0), (.int .i64 0), (.int .i64 0), (.int .i64 0), (.int .i64 0), (.pointer none), (.pointer none), (.pointer none), (.pointer none)] [(0, 6, (.t 8)), (6, 1, (.t 9))]⟩,
    ⟨(some 11), none, .bx 74 (.t 10)⟩,
    ⟨(some 4), none, .mv (.t 11)⟩])
  (.sq (.rd [⟨0, 0, [4], ⟨(some 12), none, .mv (.t 4)⟩⟩,
    ⟨1, 0, [3], ⟨(some 13), none, .mv (.t 3)⟩⟩,
    ⟨2, 0, [1], ⟨(some 14), none, .ld (.t 1) 6 true⟩⟩,
    ⟨3, 4, [14], ⟨(some 15), none, .ca 130 [(.t 14), (.c (.int .i64 0))]⟩⟩,
    ⟨4, 0, [1], ⟨(some 16), none, .fa (.t 1) 1⟩⟩,
    ⟨5, 16, [16], ⟨(some 17), none, .ld (.t 16) 1 false⟩⟩,
    ⟨6, 62, [13, 15, 17], ⟨(some 18), none, .bd [(.pointer none), (.int .i64 0), (.int .i64 0), (.int .i64 0)] [(0, 1, (.t 13)), (1, 1, (.c (.int .i64 0))), (2, 1, (.t 15)), (3, 1, (.t 17))]⟩⟩,
    ⟨7, 126, [18], ⟨(some 19), none, .bx 156 (.t 18)⟩⟩,
    ⟨8, 255, [12], ⟨(some 20), none, .nc (.t 12)⟩⟩,
    ⟨9, 511, [20], ⟨(some 21), none, .fa (.t 20) 7⟩⟩,
    ⟨10, 1023, [21, 19], ⟨none, none, .st (.t 21) (.t 19) 1⟩⟩])
  (.sq (.rd [⟨0, 0, [4], ⟨(some 22), none, .mv (.t 4)⟩⟩,
    ⟨1, 0, [3], ⟨(some 23), none, .mv (.t 3)⟩⟩,
    ⟨2, 0, [1], ⟨(some 24), none, .ld (.t 1) 6 true⟩⟩,
    ⟨3, 4, [24], ⟨(some 25), none, .ca 71 [(.t 24), (.c (.int .i64 0))]⟩⟩,
    ⟨4, 0, [1], ⟨(some 26), none, .fa (.t 1) 3⟩⟩,
    ⟨5, 16, [26], ⟨(some 27), none, .ld (.t 26) 1 false⟩⟩,
    ⟨6, 62, [23, 25, 27], ⟨(some 28), none, .bd [(.pointer none), (.int .i64 0), (.int .i64 0), (.int .i64 0)] [(0, 1, (.t 23)), (1, 1, (.c (.int .i64 1))), (2, 1, (.t 25)), (3, 1, (.t 27))]⟩⟩,
    ⟨7, 126, [28], ⟨(some 29), none, .bx 156 (.t 28)⟩⟩,
    ⟨8, 255, [22], ⟨(some 30), none, .nc (.t 22)⟩⟩,
    ⟨9, 511, [30], ⟨(some 31), none, .fa (.t 30) 8⟩⟩,
    ⟨10, 1023, [31, 29], ⟨none, none, .st (.t 31) (.t 29) 1⟩⟩])
  (.sq (.rd [⟨0, 0, [4], ⟨(some 32), none, .mv (.t 4)⟩⟩,
    ⟨1, 0, [3], ⟨(some 33), none, .mv (.t 3)⟩⟩,
    ⟨2, 0, [1], ⟨(some 34), none, .ld (.t 1) 6 true⟩⟩,
    ⟨3, 4, [34], ⟨(some 35), none, .ca 47 [(.t 34), (.c (.int .i64 0))]⟩⟩,
    ⟨4, 0, [1], ⟨(some 36), none, .fa (.t 1) 0⟩⟩,
    ⟨5, 16, [36], ⟨(some 37), none, .ld (.t 36) 1 false⟩⟩,
    ⟨6, 62, [33, 35, 37], ⟨(some 38), none, .bd [(.pointer none), (.int .i64 0), (.int .i64 0), (.int .i64 0)] [(0, 1, (.t 33)), (1, 1, (.c (.int .i64 2))), (2, 1, (.t 35)), (3, 1, (.t 37))]⟩⟩,
    ⟨7, 126, [38], ⟨(some 39), none, .bx 175 (.t 38)⟩⟩,
    ⟨8, 255, [32], ⟨(some 40), none, .nc (.t 32)⟩⟩,
    ⟨9, 511, [40], ⟨(some 41), none, .fa (.t 40) 9⟩⟩,
    ⟨10, 1023, [41, 39], ⟨none, none, .st (.t 41) (.t 39) 1⟩⟩])
  (.sq (.rg [⟨(some 42), none, .mv (.t 4)⟩,
    ⟨(some 43), none, .nc (.t 42)⟩,
    ⟨(some 44), none, .fa (.t 43) 7⟩,
    ⟨(some 45), none, .ld (.t 44) 1 false⟩,
    ⟨(some 46), none, .ca 131 [(.t 45)]⟩])
  (.sq (.rg [⟨(some 47), none, .mv (.t 4)⟩,
    ⟨(some 48), none, .nc (.t 47)⟩,
    ⟨(some 49), none, .fa (.t 48) 8⟩,
    ⟨(some 50), none, .ld (.t 49) 1 false⟩,
    ⟨(some 51), none, .ca 131 [(.t 50)]⟩])
  (.sq (.rg [⟨(some 52), none, .mv (.t 4)⟩,
    ⟨(some 2), none, .mv (.t 52)⟩])
  .rt)))))))))⟩
theorem k69 : cF Tryz.prog Tryz.f69 = some c69 := by kernel_rfl
/-- (*rundale/rundaleref11.W).Supply -/
def c70 : Fu := ⟨13, [.t 2],
  (.sq (.rg [⟨(some 2), none, .mv (.c (.pointer none))⟩])
  (.sq (.rg [⟨(some 3), none, .mv (.t 0)⟩,
    ⟨(some 4), none, .mv (.t 0)⟩,
    ⟨(some 5), none, .nc (.t 4)⟩,
    ⟨(some 6), none, .fa (.t 5) 0⟩,
    ⟨(some 7), none, .fa (.t 6) 4⟩,
    ⟨(some 8), none, .ld (.t 7) 1 false⟩,
    ⟨(some 9), none, .ca 132 [(.t 8)]⟩,
    ⟨(some 10), none, .ca 133 []⟩,
    ⟨(some 11), none, .bd [(.pointer none), (.pointer none), (.pointer none)] [(0, 1, (.t 3)), (1, 1, (.t 9)), (2, 1, (.t 10))]⟩,
    ⟨(some 12), none, .bx 100 (.t 11)⟩,
    ⟨(some 2), none, .mv (.t 12)⟩])
  .rt))⟩
theorem k70 : cF Tryz.prog Tryz.f70 = some c70 := by kernel_rfl
/-- rundale/rundaleref1.Slot -/
def c71 : Fu := ⟨16, [.t 4],
  (.sq (.rg [⟨(some 2), none, .bx 24 (.t 0)⟩,
    ⟨(some 4), none, .mv (.c (.int .i64 0))⟩])
  (.sq (.rg [⟨(some 5), none, .ld (.t 2) 6 true⟩,
    ⟨(some 6), none, .fa (.t 2) 0⟩,
    ⟨(some 7), none, .ld (.t 6) 1 false⟩,
    ⟨(some 8), none, .ib .add (.c (.int .i64 3)) (.t 7)⟩,
    ⟨(some 9), none, .fa (.t 2) 3⟩,
    ⟨(some 10), none, .ld (.t 9) 1 false⟩,
    ⟨(some 11), none, .ib .add (.t 8) (.t 10)⟩,
    ⟨(some 12), none, .fa (.t 2) 3⟩,
    ⟨(some 13), none, .ld (.t 12) 1 false⟩,
    ⟨(some 14), none, .mv (.t 1)⟩,
    ⟨(some 15), none, .ca 109 [(.t 5), (.t 11), (.t 13), (.t 14)]⟩,
    ⟨(some 4), none, .mv (.t 15)⟩])
  .rt))⟩
theorem k71 : cF Tryz.prog Tryz.f71 = some c71 := by kernel_rfl
/-- (*rundale/stash.Stash).List -/
def c72 : Fu := ⟨8, [.t 2],
  (.sq (.rg [⟨(some 2), none, .mv (.c (.slice none 0 0))⟩])
  (.sq (.rg [⟨(some 3), none, .mv (.t 0)⟩,
    ⟨(some 4), none, .nc (.t 3)⟩,
    ⟨(some 5), none, .fa (.t 4) 1⟩,
    ⟨(some 6), none, .ld (.t 5) 1 false⟩,
    ⟨(some 7), none, .ca 134 [(.t 6)]⟩,
    ⟨(some 2), none, .mv (.t 7)⟩])
  .rt))⟩
theorem k72 : cF Tryz.prog Tryz.f72 = some c72 := by kernel_rfl
/-- (*rundale/stash.Stash).Give -/
def c73 : Fu := ⟨13, [],
  (.rg [⟨(some 4), none, .mv (.t 0)⟩,
    ⟨(some 5), none, .mv (.t 0)⟩,
    ⟨(some 6), none, .nc (.t 5)⟩,
    ⟨(some 7), none, .fa (.t 6) 1⟩,
    ⟨(some 8), none, .ld (.t 7) 1 false⟩,
    ⟨(some 9), none, .mv (.t 1)⟩,
    ⟨(some 10), none, .ap 49 3 1 8 [(.int .i64 0)] (.t 8) (.t 9)⟩,
    ⟨(some 11), none, .nc (.t 4)⟩,
    ⟨(some 12), none, .fa (.t 11) 1⟩,
    ⟨none, none, .st (.t 12) (.t 10) 1⟩])⟩
theorem k73 : cF Tryz.prog Tryz.f73 = some c73 := by kernel_rfl
/-- (*rundale/supply.Give).Step -/
def c74 : Fu := ⟨7, [.t 2],
  (.sq (.rg [⟨(some 2), none, .mv (.c (.bool false))⟩])
  (.sq (.rg [⟨(some 3), none, .mv (.t 0)⟩,
    ⟨(some 4), none, .nc (.t 3)⟩,
    ⟨(some 5), none, .fa (.t 4) 0⟩,
    ⟨(some 6), none, .ca 93 [(.t 5)]⟩,
    ⟨(some 2), none, .mv (.t 6)⟩])
  .rt))⟩
theorem k74 : cF Tryz.prog Tryz.f74 = some c74 := by kernel_rfl
/-- (*rundale/supply.Supply).give -/
def c75 : Fu := ⟨33, [.t 4],
  (.sq (.rg [⟨(some 4), none, .mv (.c (.pointer none))⟩])
  (.sq (.rg [⟨(some 8), none, .mv (.t 1)⟩,
    ⟨(some 9), none, .bd [.nilFunc, .nilFunc, .nilFunc, .nilFunc, (.int .i64 0), (.slice none 0 0)] [(5, 1, (.t 8))]⟩,
    ⟨(some 10), none, .bx 206 (.t 9)⟩,
    ⟨(some 5), none, .mv (.t 10)⟩])
  (.sq (.sq (.rg [⟨(some 12), none, .mv (.t 0)⟩,
    ⟨(some 13), none, .nc (.t 12)⟩,
    ⟨(some 14), none, .fa (.t 13) 7⟩,
    ⟨(some 15), none, .ld (.t 14) 1 false⟩,
    ⟨(some 16), none, .mv (.t 1)⟩,
    ⟨(some 17), none, .ca 135 [(.t 15), (.t 16)]⟩,
    ⟨(some 11), none, .mv (.t 17)⟩,
    ⟨(some 18), none, .ex (.t 11) 0⟩,
    ⟨(some 19), none, .ex (.t 11) 1⟩,
    ⟨(some 6), none, .mv (.t 18)⟩,
    ⟨(some 7), none, .mv (.t 19)⟩])
  (.sq (.rg [⟨(some 20), none, .mv (.t 7)⟩,
    ⟨(some 21), none, .ib .eql (.t 20) (.c (.int .i64 0))⟩])
  (.cd (.t 21)
  (.rg [⟨(some 22), none, .mv (.t 5)⟩,
    ⟨(some 23), none, .nc (.t 22)⟩,
    ⟨(some 24), none, .fa (.t 23) 0⟩,
    ⟨(some 25), none, .mv (.t 6)⟩,
    ⟨(some 26), none, .mf (.func 136) [(.t 25)] []⟩,
    ⟨(some 27), none, .mv (.t 6)⟩,
    ⟨(some 28), none, .mf (.func 137) [(.t 27)] []⟩,
    ⟨(some 29), none, .mv (.t 5)⟩,
    ⟨(some 30), none, .mf (.func 138) [(.t 29)] []⟩,
    ⟨(some 31), none, .ca 102 [(.t 24), (.t 26), (.t 28), (.t 30)]⟩])
  .sk)))
  (.sq (.rg [⟨(some 32), none, .mv (.t 5)⟩,
    ⟨(some 4), none, .mv (.t 32)⟩])
  .rt))))⟩
theorem k75 : cF Tryz.prog Tryz.f75 = some c75 := by kernel_rfl
/-- (*rundale/stash.Stash).Over -/
def c76 : Fu := ⟨16, [.t 2],
  (.sq (.rg [⟨(some 2), none, .mv (.c (.slice none 0 0))⟩])
  (.sq (.rd [⟨0, 0, [0], ⟨(some 3), none, .mv (.t 0)⟩⟩,
    ⟨1, 0, [0], ⟨(some 4), none, .mv (.t 0)⟩⟩,
    ⟨2, 2, [4], ⟨(some 5), none, .nc (.t 4)⟩⟩,
    ⟨3, 6, [5], ⟨(some 6), none, .fa (.t 5) 1⟩⟩,
    ⟨4, 14, [6], ⟨(some 7), none, .ld (.t 6) 1 false⟩⟩,
    ⟨5, 30, [7], ⟨(some 8), none, .len (.t 7)⟩⟩,
    ⟨6, 0, [0], ⟨(some 9), none, .mv (.t 0)⟩⟩,
    ⟨7, 64, [9], ⟨(some 10), none, .nc (.t 9)⟩⟩,
    ⟨8, 192, [10], ⟨(some 11), none, .fa (.t 10) 0⟩⟩,
    ⟨9, 448, [11], ⟨(some 12), none, .ld (.t 11) 1 false⟩⟩,
    ⟨10, 1022, [8, 12], ⟨(some 13), none, .ib .sub (.t 8) (.t 12)⟩⟩,
    ⟨11, 2046, [13], ⟨(some 14), none, .mm true (.t 13) (.c (.int .i64 0))⟩⟩,
    ⟨12, 4095, [3, 14], ⟨(some 15), none, .ca 139 [(.t 3), (.t 14)]⟩⟩,
    ⟨13, 8191, [15], ⟨(some 2), none, .mv (.t 15)⟩⟩])
  .rt))⟩
theorem k76 : cF Tryz.prog Tryz.f76 = some c76 := by kernel_rfl
/-- (*rundale/stack.Stack).top -/
def c77 : Fu := ⟨17, [.t 4],
  (.sq (.rg [⟨(some 4), none, .mv (.c (.int .i64 0))⟩])
  (.sq (.sq (.rg [⟨(some 6), none, .mv (.t 1)⟩,
    ⟨(some 7), none, .ca 140 [(.t 6)]⟩,
    ⟨(some 5), none, .al 212 [(.int .i64 0), (.int .i64 0)]⟩,
    ⟨none, none, .st (.t 5) (.t 7) 2⟩])
  (.sq (.rd [⟨0, 0, [5], ⟨(some 8), none, .fa (.t 5) 0⟩⟩,
    ⟨1, 1, [8], ⟨(some 9), none, .ld (.t 8) 1 false⟩⟩,
    ⟨2, 0, [0], ⟨(some 10), none, .mv (.t 0)⟩⟩,
    ⟨3, 4, [10], ⟨(some 11), none, .nc (.t 10)⟩⟩,
    ⟨4, 12, [11], ⟨(some 12), none, .fa (.t 11) 3⟩⟩,
    ⟨5, 28, [12], ⟨(some 13), none, .ld (.t 12) 1 false⟩⟩,
    ⟨6, 63, [9, 13], ⟨(some 14), none, .ib .lss (.t 9) (.t 13)⟩⟩])
  (.cd (.t 14)
  (.sq (.rg [⟨(some 15), none, .fa (.t 5) 0⟩,
    ⟨(some 16), none, .ld (.t 15) 1 false⟩,
    ⟨(some 4), none, .mv (.t 16)⟩])
  .rt)
  .sk)))
  (.sq (.rg [⟨(some 4), none, .mv (.c (.int .i64 (-1)))⟩])
  .rt)))⟩
theorem k77 : cF Tryz.prog Tryz.f77 = some c77 := by kernel_rfl
/-- (*rundale/cells.Cells).Peek -/
def c78 : Fu := ⟨16, [.t 4],
  (.sq (.rg [⟨(some 4), none, .mv (.c (.int .u64 0))⟩])
  (.sq (.sq (.rg [⟨(some 5), none, .mv (.t 0)⟩,
    ⟨(some 6), none, .mv (.t 1)⟩,
    ⟨(some 7), none, .ca 110 [(.t 5), (.t 6)]⟩,
    ⟨(some 8), none, .nt (.t 7)⟩])
  (.cd (.t 8)
  (.sq (.rg [⟨(some 4), none, .mv (.c (.int .u64 0))⟩])
  .rt)
  .sk))
  (.sq (.rg [⟨(some 9), none, .mv (.t 0)⟩,
    ⟨(some 10), none, .nc (.t 9)⟩,
    ⟨(some 11), none, .fa (.t 10) 0⟩,
    ⟨(some 12), none, .ld (.t 11) 1 false⟩,
    ⟨(some 13), none, .mv (.t 1)⟩,
    ⟨(some 14), none, .ia (.t 12) (.t 13) 1⟩,
    ⟨(some 15), none, .ld (.t 14) 1 false⟩,
    ⟨(some 4), none, .mv (.t 15)⟩])
  .rt)))⟩
theorem k78 : cF Tryz.prog Tryz.f78 = some c78 := by kernel_rfl
/-- (*rundale/stack.Stack).below -/
def c79 : Fu := ⟨15, [.t 4],
  (.sq (.rg [⟨(some 4), none, .mv (.c (.int .i64 0))⟩])
  (.sq (.sq (.rg [⟨(some 5), none, .mv (.t 1)⟩,
    ⟨(some 6), none, .mv (.t 0)⟩,
    ⟨(some 7), none, .nc (.t 6)⟩,
    ⟨(some 8), none, .fa (.t 7) 3⟩,
    ⟨(some 9), none, .ld (.t 8) 1 false⟩,
    ⟨(some 10), none, .cv .u64 (.t 9)⟩,
    ⟨(some 11), none, .ib .gtr (.t 5) (.t 10)⟩])
  (.cd (.t 11)
  (.sq (.rg [⟨(some 4), none, .mv (.c (.int .i64 (-1)))⟩])
  .rt)
  .sk))
  (.sq (.rg [⟨(some 12), none, .mv (.t 1)⟩,
    ⟨(some 13), none, .cv .i64 (.t 12)⟩,
    ⟨(some 14), none, .ib .sub (.t 13) (.c (.int .i64 1))⟩,
    ⟨(some 4), none, .mv (.t 14)⟩])
  .rt)))⟩
theorem k79 : cF Tryz.prog Tryz.f79 = some c79 := by kernel_rfl
/-- (*rundale/stash.Stash).All -/
def c80 : Fu := ⟨10, [.t 2],
  (.sq (.rg [⟨(some 2), none, .mv (.c (.slice none 0 0))⟩])
  (.sq (.rg [⟨(some 3), none, .mv (.t 0)⟩,
    ⟨(some 4), none, .mv (.t 0)⟩,
    ⟨(some 5), none, .nc (.t 4)⟩,
    ⟨(some 6), none, .fa (.t 5) 1⟩,
    ⟨(some 7), none, .ld (.t 6) 1 false⟩,
    ⟨(some 8), none, .len (.t 7)⟩,
    ⟨(some 9), none, .ca 139 [(.t 3), (.t 8)]⟩,
    ⟨(some 2), none, .mv (.t 9)⟩])
  .rt))⟩
theorem k80 : cF Tryz.prog Tryz.f80 = some c80 := by kernel_rfl
/-- (*rundale/supply.Supply).Ready -/
def c88 : Fu := ⟨20, [.t 4],
  (.sq (.rg [⟨(some 4), none, .mv (.c (.int .i64 0))⟩])
  (.sq (.rg [⟨(some 6), none, .mv (.t 0)⟩,
    ⟨(some 7), none, .nc (.t 6)⟩,
    ⟨(some 8), none, .fa (.t 7) 9⟩,
    ⟨(some 9), none, .ld (.t 8) 1 false⟩,
    ⟨(some 10), none, .mv (.t 1)⟩,
    ⟨(some 11), none, .ca 151 [(.t 9), (.t 10)]⟩,
    ⟨(some 5), none, .mv (.t 11)⟩])
  (.sq (.rg [⟨(some 12), none, .mv (.t 0)⟩,
    ⟨(some 13), none, .nc (.t 12)⟩,
    ⟨(some 14), none, .fa (.t 13) 8⟩,
    ⟨(some 15), none, .ld (.t 14) 1 false⟩,
    ⟨(some 16), none, .mv (.t 5)⟩,
    ⟨(some 17), none, .ca 73 [(.t 15), (.t 16)]⟩])
  (.sq (.rg [⟨(some 18), none, .mv (.t 5)⟩,
    ⟨(some 19), none, .len (.t 18)⟩,
    ⟨(some 4), none, .mv (.t 19)⟩])
  .rt))))⟩
theorem k88 : cF Tryz.prog Tryz.f88 = some c88 := by kernel_rfl
/-- rundale/epoch.Cut -/
def c92 : Fu := ⟨6, [.t 2],
  (.sq (.rg [⟨(some 2), none, .mv (.c (.int .i64 0))⟩])
  (.sq (.rg [⟨(some 3), none, .mv (.t 0)⟩,
    ⟨(some 4), none, .mm false (.t 3) (.c (.int .u64 4611686018427387903))⟩,
    ⟨(some 5), none, .cv .i64 (.t 4)⟩,
    ⟨(some 2), none, .mv (.t 5)⟩])
  .rt))⟩
theorem k92 : cF Tryz.prog Tryz.f92 = some c92 := by kernel_rfl
/-- (*rundale/run.Machine).Step -/
def c93 : Fu := ⟨25, [.t 2],
  (.sq (.rg [⟨(some 2), none, .mv (.c (.bool false))⟩])
  (.sq (.sq (.rg [⟨(some 4), none, .mv (.t 0)⟩,
    ⟨(some 5), none, .nc (.t 4)⟩,
    ⟨(some 6), none, .fa (.t 5) 0⟩,
    ⟨(some 7), none, .ld (.t 6) 1 false⟩,
    ⟨(some 8), none, .en 2 false (.t 7) (.c .nilFunc)⟩])
  (.cd (.t 8)
  (.sq (.rg [⟨(some 2), none, .mv (.c (.bool false))⟩])
  .rt)
  .sk))
  (.sq (.rg [⟨(some 9), none, .mv (.t 0)⟩,
    ⟨(some 10), none, .nc (.t 9)⟩,
    ⟨(some 11), none, .fa (.t 10) 0⟩,
    ⟨(some 12), none, .ld (.t 11) 1 false⟩,
    ⟨(some 3), none, .mv (.t 12)⟩])
  (.sq (.rg [⟨(some 13), none, .mv (.t 0)⟩,
    ⟨(some 14), none, .nc (.t 13)⟩,
    ⟨(some 15), none, .fa (.t 14) 0⟩,
    ⟨none, none, .st (.t 15) (.c .nilFunc) 1⟩])
  (.sq (.rg [⟨(some 16), none, .mv (.t 0)⟩,
    ⟨(some 17), none, .nc (.t 16)⟩,
    ⟨(some 18), none, .fa (.t 17) 4⟩,
    ⟨(some 19), none, .ld (.t 18) 1 false⟩,
    ⟨(some 20), none, .ib .add (.t 19) (.c (.int .i64 1))⟩,
    ⟨(some 21), none, .nc (.t 16)⟩,
    ⟨(some 22), none, .fa (.t 21) 4⟩,
    ⟨none, none, .st (.t 22) (.t 20) 1⟩])
  (.sq (.rg [⟨(some 23), none, .mv (.t 3)⟩,
    ⟨(some 24), none, .cl (.t 23) []⟩])
  (.sq (.rg [⟨(some 2), none, .mv (.c (.bool true))⟩])
  .rt)))))))⟩
theorem k93 : cF Tryz.prog Tryz.f93 = some c93 := by kernel_rfl
/-- (*rundale/run.Machine).Done -/
def c97 : Fu := ⟨8, [.t 2],
  (.sq (.rg [⟨(some 2), none, .mv (.c (.bool false))⟩])
  (.sq (.rg [⟨(some 3), none, .mv (.t 0)⟩,
    ⟨(some 4), none, .nc (.t 3)⟩,
    ⟨(some 5), none, .fa (.t 4) 0⟩,
    ⟨(some 6), none, .ld (.t 5) 1 false⟩,
    ⟨(some 7), none, .en 2 false (.t 6) (.c .nilFunc)⟩,
    ⟨(some 2), none, .mv (.t 7)⟩])
  .rt))⟩
theorem k97 : cF Tryz.prog Tryz.f97 = some c97 := by kernel_rfl
/-- (*rundale/run.Machine).Through -/
def c102 : Fu := ⟨22, [],
  (.sq (.rg [⟨(some 8), none, .mv (.t 0)⟩,
    ⟨(some 9), none, .mv (.t 0)⟩,
    ⟨(some 10), none, .mv (.t 0)⟩,
    ⟨(some 11), none, .mv (.t 1)⟩,
    ⟨(some 12), none, .mv (.t 2)⟩,
    ⟨(some 13), none, .mv (.t 3)⟩,
    ⟨(some 14), none, .nc (.t 8)⟩,
    ⟨(some 15), none, .fa (.t 14) 1⟩,
    ⟨none, none, .st (.t 15) (.t 11) 1⟩,
    ⟨(some 16), none, .nc (.t 9)⟩,
    ⟨(some 17), none, .fa (.t 16) 2⟩,
    ⟨none, none, .st (.t 17) (.t 12) 1⟩,
    ⟨(some 18), none, .nc (.t 10)⟩,
    ⟨(some 19), none, .fa (.t 18) 3⟩,
    ⟨none, none, .st (.t 19) (.t 13) 1⟩])
  (.rg [⟨(some 20), none, .mv (.t 0)⟩,
    ⟨(some 21), none, .ca 157 [(.t 20)]⟩]))⟩
theorem k102 : cF Tryz.prog Tryz.f102 = some c102 := by kernel_rfl
/-- (*rundale/limbo.Limbo).Retire -/
def c106 : Fu := ⟨66, [.t 6, .t 7],
  (.sq (.rg [⟨(some 6), none, .mv (.c (.slice none 0 0))⟩,
    ⟨(some 7), none, .mv (.c (.int .i64 0))⟩])
  (.sq (.sq (.rg [⟨(some 10), none, .mv (.t 2)⟩,
    ⟨(some 11), none, .len (.t 10)⟩,
    ⟨(some 12), none, .ib .eql (.t 11) (.c (.int .i64 0))⟩,
    ⟨(some 13), none, .mv (.t 12)⟩,
    ⟨(some 14), (some (13, false)), .mv (.t 1)⟩,
    ⟨(some 15), (some (13, false)), .ib .lss (.t 14) (.c (.int .i64 0))⟩,
    ⟨(some 16), none, .pk (.t 13) (.c (.bool true)) (.t 15)⟩,
    ⟨(some 17), none, .mv (.t 16)⟩,
    ⟨(some 18), (some (17, false)), .mv (.t 1)⟩,
    ⟨(some 19), (some (17, false)), .ib .gtr (.t 18) (.c (.int .i64 4611686018427387903))⟩,
    ⟨(some 20), none, .pk (.t 17) (.c (.bool true)) (.t 19)⟩,
    ⟨(some 21), none, .mv (.t 20)⟩,
    ⟨(some 22), (some (21, false)), .mv (.t 1)⟩,
    ⟨(some 23), (some (21, false)), .mv (.t 0)⟩,
    ⟨(some 24), (some (21, false)), .nc (.t 23)⟩,
    ⟨(some 25), (some (21, false)), .fa (.t 24) 6⟩,
    ⟨(some 26), (some (21, false)), .ld (.t 25) 1 false⟩,
    ⟨(some 27), (some (21, false)), .ib .lss (.t 22) (.t 26)⟩,
    ⟨(some 28), none, .pk (.t 21) (.c (.bool true)) (.t 27)⟩])
  (.cd (.t 28)
  (.sq (.rg [⟨(some 6), none, .mv (.c (.slice none 0 0))⟩,
    ⟨(some 7), none, .mv (.c (.int .i64 1))⟩])
  .rt)
  .sk))
  (.sq (.rg [⟨(some 29), none, .mv (.t 0)⟩,
    ⟨(some 30), none, .mv (.t 1)⟩,
    ⟨(some 31), none, .nc (.t 29)⟩,
    ⟨(some 32), none, .fa (.t 31) 6⟩,
    ⟨none, none, .st (.t 32) (.t 30) 1⟩])
  (.sq (.rg [⟨(some 33), none, .mv (.t 0)⟩,
    ⟨(some 34), none, .mv (.t 1)⟩,
    ⟨(some 35), none, .ib .rem (.t 34) (.c (.int .i64 3))⟩,
    ⟨(some 36), none, .nc (.t 33)⟩,
    ⟨(some 37), none, .fa (.t 36) 0⟩,
    ⟨(some 38), none, .iaa (.t 37) (.t 35) 3 2⟩,
    ⟨(some 8), none, .mv (.t 38)⟩])
  (.sq (.rg [⟨(some 9), none, .mv (.c (.slice none 0 0))⟩])
  (.sq (.sq (.rg [⟨(some 39), none, .mv (.t 8)⟩,
    ⟨(some 40), none, .nc (.t 39)⟩,
    ⟨(some 41), none, .fa (.t 40) 0⟩,
    ⟨(some 42), none, .ld (.t 41) 1 false⟩,
    ⟨(some 43), none, .mv (.t 1)⟩,
    ⟨(some 44), none, .ib .lss (.t 42) (.t 43)⟩])
  (.cd (.t 44)
  (.sq (.rg [⟨(some 45), none, .mv (.t 8)⟩,
    ⟨(some 46), none, .nc (.t 45)⟩,
    ⟨(some 47), none, .fa (.t 46) 1⟩,
    ⟨(some 48), none, .ld (.t 47) 1 false⟩,
    ⟨(some 9), none, .mv (.t 48)⟩])
  (.rg [⟨(some 49), none, .mv (.t 8)⟩,
    ⟨(some 50), none, .nc (.t 49)⟩,
    ⟨(some 51), none, .fa (.t 50) 1⟩,
    ⟨none, none, .st (.t 51) (.c (.slice none 0 0)) 1⟩]))
  .sk))
  (.sq (.rg [⟨(some 52), none, .mv (.t 8)⟩,
    ⟨(some 53), none, .mv (.t 1)⟩,
    ⟨(some 54), none, .nc (.t 52)⟩,
    ⟨(some 55), none, .fa (.t 54) 0⟩,
    ⟨none, none, .st (.t 55) (.t 53) 1⟩])
  (.sq (.rg [⟨(some 56), none, .mv (.t 8)⟩,
    ⟨(some 57), none, .mv (.t 8)⟩,
    ⟨(some 58), none, .nc (.t 57)⟩,
    ⟨(some 59), none, .fa (.t 58) 1⟩,
    ⟨(some 60), none, .ld (.t 59) 1 false⟩,
    ⟨(some 61), none, .mv (.t 2)⟩,
    ⟨(some 62), none, .ap 49 3 1 8 [(.int .i64 0)] (.t 60) (.t 61)⟩,
    ⟨(some 63), none, .nc (.t 56)⟩,
    ⟨(some 64), none, .fa (.t 63) 1⟩,
    ⟨none, none, .st (.t 64) (.t 62) 1⟩])
  (.sq (.rg [⟨(some 65), none, .mv (.t 9)⟩,
    ⟨(some 6), none, .mv (.t 65)⟩,
    ⟨(some 7), none, .mv (.c (.int .i64 0))⟩])
  .rt)))))))))⟩
theorem k106 : cF Tryz.prog Tryz.f106 = some c106 := by kernel_rfl
/-- rundale/rundaleref1.in -/
def c108 : Fu := ⟨15, [.t 6],
  (.sq (.rg [⟨(some 6), none, .mv (.c (.bool false))⟩])
  (.sq (.rg [⟨(some 7), none, .mv (.t 0)⟩,
    ⟨(some 8), none, .mv (.t 1)⟩,
    ⟨(some 9), none, .ib .geq (.t 7) (.t 8)⟩,
    ⟨(some 10), none, .mv (.t 9)⟩,
    ⟨(some 11), (some (10, true)), .mv (.t 0)⟩,
    ⟨(some 12), (some (10, true)), .mv (.t 2)⟩,
    ⟨(some 13), (some (10, true)), .ib .leq (.t 11) (.t 12)⟩,
    ⟨(some 14), none, .pk (.t 10) (.t 13) (.c (.bool false))⟩,
    ⟨(some 6), none, .mv (.t 14)⟩])
  .rt))⟩
theorem k108 : cF Tryz.prog Tryz.f108 = some c108 := by kernel_rfl
/-- rundale/rundaleref1.at -/
def c109 : Fu := ⟨24, [.t 8],
  (.sq (.rg [⟨(some 4), none, .bx 24 (.t 0)⟩,
    ⟨(some 8), none, .mv (.c (.int .i64 0))⟩])
  (.sq (.sq (.rg [⟨(some 9), none, .ld (.t 4) 6 true⟩,
    ⟨(some 10), none, .ca 159 [(.t 9)]⟩,
    ⟨(some 11), none, .nt (.t 10)⟩,
    ⟨(some 12), none, .mv (.t 11)⟩,
    ⟨(some 13), (some (12, false)), .mv (.t 3)⟩,
    ⟨(some 14), (some (12, false)), .ib .lss (.t 13) (.c (.int .i64 0))⟩,
    ⟨(some 15), none, .pk (.t 12) (.c (.bool true)) (.t 14)⟩,
    ⟨(some 16), none, .mv (.t 15)⟩,
    ⟨(some 17), (some (16, false)), .mv (.t 3)⟩,
    ⟨(some 18), (some (16, false)), .mv (.t 2)⟩,
    ⟨(some 19), (some (16, false)), .ib .geq (.t 17) (.t 18)⟩,
    ⟨(some 20), none, .pk (.t 16) (.c (.bool true)) (.t 19)⟩])
  (.cd (.t 20)
  (.sq (.rg [⟨(some 8), none, .mv (.c (.int .i64 (-1)))⟩])
  .rt)
  .sk))
  (.sq (.rg [⟨(some 21), none, .mv (.t 1)⟩,
    ⟨(some 22), none, .mv (.t 3)⟩,
    ⟨(some 23), none, .ib .add (.t 21) (.t 22)⟩,
    ⟨(some 8), none, .mv (.t 23)⟩])
  .rt)))⟩
theorem k109 : cF Tryz.prog Tryz.f109 = some c109 := by kernel_rfl
/-- (*rundale/cells.Cells).is -/
def c110 : Fu := ⟨16, [.t 4],
  (.sq (.rg [⟨(some 4), none, .mv (.c (.bool false))⟩])
  (.sq (.rg [⟨(some 5), none, .mv (.t 1)⟩,
    ⟨(some 6), none, .ib .geq (.t 5) (.c (.int .i64 0))⟩,
    ⟨(some 7), none, .mv (.t 6)⟩,
    ⟨(some 8), (some (7, true)), .mv (.t 1)⟩,
    ⟨(some 9), (some (7, true)), .mv (.t 0)⟩,
    ⟨(some 10), (some (7, true)), .nc (.t 9)⟩,
    ⟨(some 11), (some (7, true)), .fa (.t 10) 0⟩,
    ⟨(some 12), (some (7, true)), .ld (.t 11) 1 false⟩,
    ⟨(some 13), (some (7, true)), .len (.t 12)⟩,
    ⟨(some 14), (some (7, true)), .ib .lss (.t 8) (.t 13)⟩,
    ⟨(some 15), none, .pk (.t 7) (.t 14) (.c (.bool false))⟩,
    ⟨(some 4), none, .mv (.t 15)⟩])
  .rt))⟩
theorem k110 : cF Tryz.prog Tryz.f110 = some c110 := by kernel_rfl
/-- rundale/lay.cell -/
def c111 : Fu := ⟨33, [.t 6],
  (.sq (.rg [⟨(some 3), none, .bx 24 (.t 0)⟩,
    ⟨(some 6), none, .mv (.c (.int .i64 0))⟩])
  (.sq (.sq (.rg [⟨(some 9), none, .ld (.t 3) 6 true⟩,
    ⟨(some 10), none, .ca 56 [(.t 9)]⟩,
    ⟨(some 11), none, .nt (.t 10)⟩])
  (.cd (.t 11)
  (.sq (.rg [⟨(some 6), none, .mv (.c (.int .i64 (-1)))⟩])
  .rt)
  .sk))
  (.sq (.sq (.rg [⟨(some 12), none, .ld (.t 3) 6 true⟩,
    ⟨(some 13), none, .ca 57 [(.t 12)]⟩,
    ⟨(some 14), none, .mv (.c (.int .i64 0))⟩])
  (.bl 0
  (.lp
  (.sq (.rg [⟨(some 15), none, .ib .lss (.t 14) (.c (.int .i64 5))⟩])
  (.sq (.cd (.t 15)
  .sk
  (.ex 0))
  (.sq (.bl 1
  (.sq (.rg [⟨(some 16), none, .iv (.t 13) (.t 14) 5 3 true⟩,
    ⟨(some 8), none, .al 125 [(.int .i64 0), (.int .i64 0), (.int .i64 0)]⟩,
    ⟨none, none, .st (.t 8) (.t 16) 3⟩])
  (.sq (.rg [⟨(some 17), none, .fa (.t 8) 0⟩,
    ⟨(some 18), none, .ld (.t 17) 1 false⟩,
    ⟨(some 19), none, .mv (.t 1)⟩,
    ⟨(some 20), none, .ib .eql (.t 18) (.t 19)⟩,
    ⟨(some 21), none, .mv (.t 20)⟩,
    ⟨(some 22), (some (21, true)), .mv (.t 2)⟩,
    ⟨(some 23), (some (21, true)), .fa (.t 8) 2⟩,
    ⟨(some 24), (some (21, true)), .ld (.t 23) 1 false⟩,
    ⟨(some 25), (some (21, true)), .ib .sub (.t 24) (.c (.int .i64 1))⟩,
    ⟨(some 26), (some (21, true)), .ca 117 [(.t 22), (.c (.int .i64 0)), (.t 25)]⟩,
    ⟨(some 27), none, .pk (.t 21) (.t 26) (.c (.bool false))⟩])
  (.cd (.t 27)
  (.sq (.rg [⟨(some 28), none, .fa (.t 8) 1⟩,
    ⟨(some 29), none, .ld (.t 28) 1 false⟩,
    ⟨(some 30), none, .mv (.t 2)⟩,
    ⟨(some 31), none, .ib .add (.t 29) (.t 30)⟩,
    ⟨(some 6), none, .mv (.t 31)⟩])
  .rt)
  .sk))))
  (.rg [⟨(some 32), none, .ib .add (.t 14) (.c (.int .i64 1))⟩,
    ⟨(some 14), none, .mv (.t 32)⟩])))))))
  (.sq (.rg [⟨(some 6), none, .mv (.c (.int .i64 (-1)))⟩])
  .rt))))⟩
theorem k111 : cF Tryz.prog Tryz.f111 = some c111 := by kernel_rfl
/-- (*rundale/run.Machine).Go -/
def c114 : Fu := ⟨8, [],
  (.rg [⟨(some 4), none, .mv (.t 0)⟩,
    ⟨(some 5), none, .mv (.t 1)⟩,
    ⟨(some 6), none, .nc (.t 4)⟩,
    ⟨(some 7), none, .fa (.t 6) 0⟩,
    ⟨none, none, .st (.t 7) (.t 5) 1⟩])⟩
theorem k114 : cF Tryz.prog Tryz.f114 = some c114 := by kernel_rfl
/-- (*rundale/limbo.Limbo).Bucket -/
def c116 : Fu := ⟨38, [.t 4, .t 5],
  (.sq (.rg [⟨(some 4), none, .mv (.c (.int .i64 0))⟩,
    ⟨(some 5), none, .mv (.c (.slice none 0 0))⟩])
  (.sq (.sq (.rg [⟨(some 6), none, .mv (.t 1)⟩,
    ⟨(some 7), none, .ib .lss (.t 6) (.c (.int .i64 0))⟩,
    ⟨(some 8), none, .mv (.t 7)⟩,
    ⟨(some 9), (some (8, false)), .mv (.t 1)⟩,
    ⟨(some 10), (some (8, false)), .ib .geq (.t 9) (.c (.int .i64 3))⟩,
    ⟨(some 11), none, .pk (.t 8) (.c (.bool true)) (.t 10)⟩,
    ⟨(some 12), none, .mv (.t 11)⟩,
    ⟨(some 13), (some (12, false)), .mv (.t 0)⟩,
    ⟨(some 14), (some (12, false)), .mv (.t 1)⟩,
    ⟨(some 15), (some (12, false)), .nc (.t 13)⟩,
    ⟨(some 16), (some (12, false)), .fa (.t 15) 0⟩,
    ⟨(some 17), (some (12, false)), .iaa (.t 16) (.t 14) 3 2⟩,
    ⟨(some 18), (some (12, false)), .fa (.t 17) 1⟩,
    ⟨(some 19), (some (12, false)), .ld (.t 18) 1 false⟩,
    ⟨(some 20), (some (12, false)), .len (.t 19)⟩,
    ⟨(some 21), (some (12, false)), .ib .eql (.t 20) (.c (.int .i64 0))⟩,
    ⟨(some 22), none, .pk (.t 12) (.c (.bool true)) (.t 21)⟩])
  (.cd (.t 22)
  (.sq (.rg [⟨(some 4), none, .mv (.c (.int .i64 0))⟩,
    ⟨(some 5), none, .mv (.c (.slice none 0 0))⟩])
  .rt)
  .sk))
  (.sq (.rd [⟨0, 0, [0], ⟨(some 23), none, .mv (.t 0)⟩⟩,
    ⟨1, 0, [1], ⟨(some 24), none, .mv (.t 1)⟩⟩,
    ⟨2, 1, [23], ⟨(some 25), none, .nc (.t 23)⟩⟩,
    ⟨3, 5, [25], ⟨(some 26), none, .fa (.t 25) 0⟩⟩,
    ⟨4, 15, [26, 24], ⟨(some 27), none, .iaa (.t 26) (.t 24) 3 2⟩⟩,
    ⟨5, 31, [27], ⟨(some 28), none, .fa (.t 27) 0⟩⟩,
    ⟨6, 63, [28], ⟨(some 29), none, .ld (.t 28) 1 false⟩⟩,
    ⟨7, 0, [0], ⟨(some 30), none, .mv (.t 0)⟩⟩,
    ⟨8, 0, [1], ⟨(some 31), none, .mv (.t 1)⟩⟩,
    ⟨9, 128, [30], ⟨(some 32), none, .nc (.t 30)⟩⟩,
    ⟨10, 640, [32], ⟨(some 33), none, .fa (.t 32) 0⟩⟩,
    ⟨11, 1920, [33, 31], ⟨(some 34), none, .iaa (.t 33) (.t 31) 3 2⟩⟩,
    ⟨12, 3968, [34], ⟨(some 35), none, .fa (.t 34) 1⟩⟩,
    ⟨13, 8064, [35], ⟨(some 36), none, .ld (.t 35) 1 false⟩⟩,
    ⟨14, 16256, [36], ⟨(some 37), none, .ca 134 [(.t 36)]⟩⟩,
    ⟨15, 32767, [29], ⟨(some 4), none, .mv (.t 29)⟩⟩,
    ⟨16, 65535, [37], ⟨(some 5), none, .mv (.t 37)⟩⟩])
  .rt)))⟩
theorem k116 : cF Tryz.prog Tryz.f116 = some c116 := by kernel_rfl
/-- rundale/lay.within -/
def c117 : Fu := ⟨15, [.t 6],
  (.sq (.rg [⟨(some 6), none, .mv (.c (.bool false))⟩])
  (.sq (.rg [⟨(some 7), none, .mv (.t 0)⟩,
    ⟨(some 8), none, .mv (.t 1)⟩,
    ⟨(some 9), none, .ib .geq (.t 7) (.t 8)⟩,
    ⟨(some 10), none, .mv (.t 9)⟩,
    ⟨(some 11), (some (10, true)), .mv (.t 0)⟩,
    ⟨(some 12), (some (10, true)), .mv (.t 2)⟩,
    ⟨(some 13), (some (10, true)), .ib .leq (.t 11) (.t 12)⟩,
    ⟨(some 14), none, .pk (.t 10) (.t 13) (.c (.bool false))⟩,
    ⟨(some 6), none, .mv (.t 14)⟩])
  .rt))⟩
theorem k117 : cF Tryz.prog Tryz.f117 = some c117 := by kernel_rfl
/-- rundale/stash.New -/
def c119 : Fu := ⟨8, [.t 2],
  (.sq (.rg [⟨(some 2), none, .mv (.c (.pointer none))⟩])
  (.sq (.rg [⟨(some 3), none, .mv (.t 0)⟩,
    ⟨(some 4), none, .mm true (.t 3) (.c (.int .i64 0))⟩,
    ⟨(some 5), none, .mm false (.t 4) (.c (.int .i64 64))⟩,
    ⟨(some 6), none, .bd [(.int .i64 0), (.slice none 0 0)] [(0, 1, (.t 5))]⟩,
    ⟨(some 7), none, .bx 204 (.t 6)⟩,
    ⟨(some 2), none, .mv (.t 7)⟩])
  .rt))⟩
theorem k119 : cF Tryz.prog Tryz.f119 = some c119 := by kernel_rfl
/-- rundale/limbo.New -/
def c120 : Fu := ⟨3, [.t 0],
  (.sq (.rg [⟨(some 0), none, .mv (.c (.pointer none))⟩])
  (.sq (.rg [⟨(some 1), none, .bd [(.int .i64 0), (.slice none 0 0), (.int .i64 0), (.slice none 0 0), (.int .i64 0), (.slice none 0 0), (.int .i64 0)] []⟩,
    ⟨(some 2), none, .bx 230 (.t 1)⟩,
    ⟨(some 0), none, .mv (.t 2)⟩])
  .rt))⟩
theorem k120 : cF Tryz.prog Tryz.f120 = some c120 := by kernel_rfl
/-- (*rundale/supply.Take).kept -/
def c121 : Fu := ⟨24, [.t 2],
  (.sq (.rg [⟨(some 2), none, .mv (.c (.bool false))⟩])
  (.sq (.rg [⟨(some 4), none, .mv (.t 0)⟩,
    ⟨(some 5), none, .mv (.t 0)⟩,
    ⟨(some 6), none, .mv (.t 0)⟩,
    ⟨(some 7), none, .nc (.t 6)⟩,
    ⟨(some 8), none, .fa (.t 7) 5⟩,
    ⟨(some 9), none, .ld (.t 8) 1 false⟩,
    ⟨(some 10), none, .nc (.t 9)⟩,
    ⟨(some 11), none, .fa (.t 10) 8⟩,
    ⟨(some 12), none, .ld (.t 11) 1 false⟩,
    ⟨(some 13), none, .ca 162 [(.t 12)]⟩,
    ⟨(some 3), none, .mv (.t 13)⟩,
    ⟨(some 14), none, .ex (.t 3) 0⟩,
    ⟨(some 15), none, .ex (.t 3) 1⟩,
    ⟨(some 16), none, .nc (.t 4)⟩,
    ⟨(some 17), none, .fa (.t 16) 7⟩,
    ⟨none, none, .st (.t 17) (.t 14) 1⟩,
    ⟨(some 18), none, .nc (.t 5)⟩,
    ⟨(some 19), none, .fa (.t 18) 9⟩,
    ⟨none, none, .st (.t 19) (.t 15) 1⟩])
  (.sq (.rg [⟨(some 20), none, .mv (.t 0)⟩,
    ⟨(some 21), none, .nc (.t 20)⟩,
    ⟨(some 22), none, .fa (.t 21) 9⟩,
    ⟨(some 23), none, .ld (.t 22) 1 false⟩,
    ⟨(some 2), none, .mv (.t 23)⟩])
  .rt)))⟩
theorem k121 : cF Tryz.prog Tryz.f121 = some c121 := by kernel_rfl
/-- (*rundale/limbo.Limbo).Len -/
def c122 : Fu := ⟨20, [.t 2],
  (.sq (.rg [⟨(some 2), none, .mv (.c (.int .i64 0))⟩])
  (.sq (.rg [⟨(some 3), none, .mv (.c (.int .i64 0))⟩])
  (.sq (.sq (.rg [⟨(some 6), none, .mv (.t 0)⟩,
    ⟨(some 7), none, .nc (.t 6)⟩,
    ⟨(some 8), none, .fa (.t 7) 0⟩,
    ⟨(some 9), none, .ld (.t 8) 6 true⟩,
    ⟨(some 10), none, .mv (.c (.int .i64 0))⟩])
  (.bl 0
  (.lp
  (.sq (.rg [⟨(some 11), none, .ib .lss (.t 10) (.c (.int .i64 3))⟩])
  (.sq (.cd (.t 11)
  .sk
  (.ex 0))
  (.sq (.bl 1
  (.sq (.rg [⟨(some 12), none, .iv (.t 9) (.t 10) 3 2 true⟩,
    ⟨(some 5), none, .al 227 [(.int .i64 0), (.slice none 0 0)]⟩,
    ⟨none, none, .st (.t 5) (.t 12) 2⟩])
  (.rg [⟨(some 13), none, .mv (.t 3)⟩,
    ⟨(some 14), none, .fa (.t 5) 1⟩,
    ⟨(some 15), none, .ld (.t 14) 1 false⟩,
    ⟨(some 16), none, .len (.t 15)⟩,
    ⟨(some 17), none, .ib .add (.t 13) (.t 16)⟩,
    ⟨(some 3), none, .mv (.t 17)⟩])))
  (.rg [⟨(some 18), none, .ib .add (.t 10) (.c (.int .i64 1))⟩,
    ⟨(some 10), none, .mv (.t 18)⟩])))))))
  (.sq (.rg [⟨(some 19), none, .mv (.t 3)⟩,
    ⟨(some 2), none, .mv (.t 19)⟩])
  .rt))))⟩
theorem k122 : cF Tryz.prog Tryz.f122 = some c122 := by kernel_rfl
/-- (*rundale/supply.Take).look -/
def c123 : Fu := ⟨34, [],
  (.sq (.rg [⟨(some 5), none, .mv (.t 0)⟩,
    ⟨(some 6), none, .nc (.t 5)⟩,
    ⟨(some 7), none, .fa (.t 6) 5⟩,
    ⟨(some 8), none, .ld (.t 7) 1 false⟩,
    ⟨(some 9), none, .nc (.t 8)⟩,
    ⟨(some 10), none, .fa (.t 9) 0⟩,
    ⟨(some 11), none, .ld (.t 10) 1 false⟩,
    ⟨(some 12), none, .ca 160 [(.t 11), (.c (.int .i64 2))]⟩,
    ⟨(some 4), none, .mv (.t 12)⟩,
    ⟨(some 13), none, .ex (.t 4) 0⟩,
    ⟨(some 14), none, .ex (.t 4) 1⟩,
    ⟨(some 2), none, .mv (.t 13)⟩,
    ⟨(some 3), none, .mv (.t 14)⟩])
  (.sq (.rg [⟨(some 15), none, .mv (.t 0)⟩,
    ⟨(some 16), none, .mv (.t 2)⟩,
    ⟨(some 17), none, .ca 92 [(.t 16)]⟩,
    ⟨(some 18), none, .nc (.t 15)⟩,
    ⟨(some 19), none, .fa (.t 18) 8⟩,
    ⟨none, none, .st (.t 19) (.t 17) 1⟩])
  (.sq (.rd [⟨0, 0, [0], ⟨(some 20), none, .mv (.t 0)⟩⟩,
    ⟨1, 1, [20], ⟨(some 21), none, .nc (.t 20)⟩⟩,
    ⟨2, 3, [21], ⟨(some 22), none, .fa (.t 21) 5⟩⟩,
    ⟨3, 7, [22], ⟨(some 23), none, .ld (.t 22) 1 false⟩⟩,
    ⟨4, 0, [0], ⟨(some 24), none, .mv (.t 0)⟩⟩,
    ⟨5, 16, [24], ⟨(some 25), none, .nc (.t 24)⟩⟩,
    ⟨6, 48, [25], ⟨(some 26), none, .fa (.t 25) 8⟩⟩,
    ⟨7, 112, [26], ⟨(some 27), none, .ld (.t 26) 1 false⟩⟩,
    ⟨8, 255, [23, 27], ⟨(some 28), none, .ca 88 [(.t 23), (.t 27)]⟩⟩])
  (.sq (.rg [⟨(some 29), none, .mv (.t 0)⟩,
    ⟨(some 30), none, .ca 121 [(.t 29)]⟩,
    ⟨(some 31), none, .nt (.t 30)⟩])
  (.cd (.t 31)
  (.rg [⟨(some 32), none, .mv (.t 0)⟩,
    ⟨(some 33), none, .ca 124 [(.t 32)]⟩])
  .sk)))))⟩
theorem k123 : cF Tryz.prog Tryz.f123 = some c123 := by kernel_rfl
/-- (*rundale/supply.Take).ask -/
def c124 : Fu := ⟨37, [],
  (.sq (.rd [⟨0, 0, [0], ⟨(some 2), none, .mv (.t 0)⟩⟩,
    ⟨1, 0, [0], ⟨(some 3), none, .mv (.t 0)⟩⟩,
    ⟨2, 2, [3], ⟨(some 4), none, .nc (.t 3)⟩⟩,
    ⟨3, 6, [4], ⟨(some 5), none, .fa (.t 4) 5⟩⟩,
    ⟨4, 14, [5], ⟨(some 6), none, .ld (.t 5) 1 false⟩⟩,
    ⟨5, 30, [6], ⟨(some 7), none, .nc (.t 6)⟩⟩,
    ⟨6, 62, [7], ⟨(some 8), none, .fa (.t 7) 7⟩⟩,
    ⟨7, 126, [8], ⟨(some 9), none, .ld (.t 8) 1 false⟩⟩,
    ⟨8, 0, [0], ⟨(some 10), none, .mv (.t 0)⟩⟩,
    ⟨9, 256, [10], ⟨(some 11), none, .nc (.t 10)⟩⟩,
    ⟨10, 768, [11], ⟨(some 12), none, .fa (.t 11) 5⟩⟩,
    ⟨11, 1792, [12], ⟨(some 13), none, .ld (.t 12) 1 false⟩⟩,
    ⟨12, 3840, [13], ⟨(some 14), none, .nc (.t 13)⟩⟩,
    ⟨13, 7936, [14], ⟨(some 15), none, .fa (.t 14) 1⟩⟩,
    ⟨14, 16128, [15], ⟨(some 16), none, .fa (.t 15) 5⟩⟩,
    ⟨15, 32512, [16], ⟨(some 17), none, .ld (.t 16) 1 false⟩⟩,
    ⟨16, 65534, [9, 17], ⟨(some 18), none, .ca 163 [(.t 9), (.t 17)]⟩⟩,
    ⟨17, 131071, [2], ⟨(some 19), none, .nc (.t 2)⟩⟩,
    ⟨18, 262143, [19], ⟨(some 20), none, .fa (.t 19) 6⟩⟩,
    ⟨19, 524287, [20, 18], ⟨none, none, .st (.t 20) (.t 18) 1⟩⟩])
  (.rd [⟨0, 0, [0], ⟨(some 21), none, .mv (.t 0)⟩⟩,
    ⟨1, 1, [21], ⟨(some 22), none, .nc (.t 21)⟩⟩,
    ⟨2, 3, [22], ⟨(some 23), none, .fa (.t 22) 0⟩⟩,
    ⟨3, 0, [0], ⟨(some 24), none, .mv (.t 0)⟩⟩,
    ⟨4, 8, [24], ⟨(some 25), none, .nc (.t 24)⟩⟩,
    ⟨5, 24, [25], ⟨(some 26), none, .fa (.t 25) 6⟩⟩,
    ⟨6, 56, [26], ⟨(some 27), none, .ld (.t 26) 1 false⟩⟩,
    ⟨7, 120, [27], ⟨(some 28), none, .mf (.func 164) [(.t 27)] []⟩⟩,
    ⟨8, 0, [0], ⟨(some 29), none, .mv (.t 0)⟩⟩,
    ⟨9, 256, [29], ⟨(some 30), none, .nc (.t 29)⟩⟩,
    ⟨10, 768, [30], ⟨(some 31), none, .fa (.t 30) 6⟩⟩,
    ⟨11, 1792, [31], ⟨(some 32), none, .ld (.t 31) 1 false⟩⟩,
    ⟨12, 3840, [32], ⟨(some 33), none, .mf (.func 165) [(.t 32)] []⟩⟩,
    ⟨13, 0, [0], ⟨(some 34), none, .mv (.t 0)⟩⟩,
    ⟨14, 8192, [34], ⟨(some 35), none, .mf (.func 166) [(.t 34)] []⟩⟩,
    ⟨15, 32767, [23, 28, 33, 35], ⟨(some 36), none, .ca 102 [(.t 23), (.t 28), (.t 33), (.t 35)]⟩⟩]))⟩
theorem k124 : cF Tryz.prog Tryz.f124 = some c124 := by kernel_rfl
/-- rundale/stack.New -/
def c125 : Fu := ⟨57, [.t 8, .t 9],
  (.sq (.rg [⟨(some 4), none, .bx 26 (.t 0)⟩,
    ⟨(some 8), none, .mv (.c (.pointer none))⟩,
    ⟨(some 9), none, .mv (.c (.int .i64 0))⟩])
  (.sq (.rg [⟨(some 11), none, .mf (.func 167) [] [(.t 4)]⟩,
    ⟨(some 10), none, .mv (.t 11)⟩])
  (.sq (.sq (.rg [⟨(some 12), none, .mv (.t 3)⟩,
    ⟨(some 13), none, .ib .lss (.t 12) (.c (.int .i64 1))⟩,
    ⟨(some 14), none, .mv (.t 13)⟩,
    ⟨(some 15), (some (14, false)), .mv (.t 3)⟩,
    ⟨(some 16), (some (14, false)), .ib .gtr (.t 15) (.c (.int .i64 4096))⟩,
    ⟨(some 17), none, .pk (.t 14) (.c (.bool true)) (.t 16)⟩,
    ⟨(some 18), none, .mv (.t 17)⟩,
    ⟨(some 19), (some (18, false)), .mv (.t 10)⟩,
    ⟨(some 20), (some (18, false)), .mv (.t 1)⟩,
    ⟨(some 21), (some (18, false)), .cl (.t 19) [(.t 20)]⟩,
    ⟨(some 22), (some (18, false)), .nt (.t 21)⟩,
    ⟨(some 23), none, .pk (.t 18) (.c (.bool true)) (.t 22)⟩,
    ⟨(some 24), none, .mv (.t 23)⟩,
    ⟨(some 25), (some (24, false)), .mv (.t 10)⟩,
    ⟨(some 26), (some (24, false)), .mv (.t 2)⟩,
    ⟨(some 27), (some (24, false)), .cl (.t 25) [(.t 26)]⟩,
    ⟨(some 28), (some (24, false)), .nt (.t 27)⟩,
    ⟨(some 29), none, .pk (.t 24) (.c (.bool true)) (.t 28)⟩,
    ⟨(some 30), none, .mv (.t 29)⟩,
    ⟨(some 31), (some (30, false)), .mv (.t 10)⟩,
    ⟨(some 32), (some (30, false)), .mv (.t 2)⟩,
    ⟨(some 33), (some (30, false)), .mv (.t 3)⟩,
    ⟨(some 34), (some (30, false)), .ib .add (.t 32) (.t 33)⟩,
    ⟨(some 35), (some (30, false)), .ib .sub (.t 34) (.c (.int .i64 1))⟩,
    ⟨(some 36), (some (30, false)), .cl (.t 31) [(.t 35)]⟩,
    ⟨(some 37), (some (30, false)), .nt (.t 36)⟩,
    ⟨(some 38), none, .pk (.t 30) (.c (.bool true)) (.t 37)⟩,
    ⟨(some 39), none, .mv (.t 38)⟩,
    ⟨(some 40), (some (39, false)), .mv (.t 1)⟩,
    ⟨(some 41), (some (39, false)), .mv (.t 2)⟩,
    ⟨(some 42), (some (39, false)), .ib .geq (.t 40) (.t 41)⟩,
    ⟨(some 43), (some (39, false)), .mv (.t 42)⟩,
    ⟨(some 44), (some (43, true)), .mv (.t 1)⟩,
    ⟨(some 45), (some (43, true)), .mv (.t 2)⟩,
    ⟨(some 46), (some (43, true)), .mv (.t 3)⟩,
    ⟨(some 47), (some (43, true)), .ib .add (.t 45) (.t 46)⟩,
    ⟨(some 48), (some (43, true)), .ib .lss (.t 44) (.t 47)⟩,
    ⟨(some 49), (some (39, false)), .pk (.t 43) (.t 48) (.c (.bool false))⟩,
    ⟨(some 50), none, .pk (.t 39) (.c (.bool true)) (.t 49)⟩])
  (.cd (.t 50)
  (.sq (.rg [⟨(some 8), none, .mv (.c (.pointer none))⟩,
    ⟨(some 9), none, .mv (.c (.int .i64 1))⟩])
  .rt)
  .sk))
  (.sq (.rg [⟨(some 51), none, .ld (.t 4) 1 false⟩,
    ⟨(some 52), none, .mv (.t 1)⟩,
    ⟨(some 53), none, .mv (.t 2)⟩,
    ⟨(some 54), none, .mv (.t 3)⟩,
    ⟨(some 55), none, .bd [(.pointer none), (.int .i64 0), (.int .i64 0), (.int .i64 0)] [(0, 1, (.t 51)), (1, 1, (.t 52)), (2, 1, (.t 53)), (3, 1, (.t 54))]⟩,
    ⟨(some 56), none, .bx 149 (.t 55)⟩,
    ⟨(some 8), none, .mv (.t 56)⟩,
    ⟨(some 9), none, .mv (.c (.int .i64 0))⟩])
  .rt))))⟩
theorem k125 : cF Tryz.prog Tryz.f125 = some c125 := by kernel_rfl
/-- rundale/lay.Link -/
def c126 : Fu := ⟨8, [.t 4],
  (.sq (.rg [⟨(some 2), none, .bx 24 (.t 0)⟩,
    ⟨(some 4), none, .mv (.c (.int .i64 0))⟩])
  (.sq (.rg [⟨(some 5), none, .ld (.t 2) 6 true⟩,
    ⟨(some 6), none, .mv (.t 1)⟩,
    ⟨(some 7), none, .ca 111 [(.t 5), (.c (.int .i64 6)), (.t 6)]⟩,
    ⟨(some 4), none, .mv (.t 7)⟩])
  .rt))⟩
theorem k126 : cF Tryz.prog Tryz.f126 = some c126 := by kernel_rfl
/-- (*rundale/stack.Stack).Fill -/
def c127 : Fu := ⟨57, [],
  (.sq (.sq (.rg [⟨(some 5), none, .mv (.t 0)⟩,
    ⟨(some 6), none, .nc (.t 5)⟩,
    ⟨(some 7), none, .fa (.t 6) 3⟩,
    ⟨(some 8), none, .ld (.t 7) 1 false⟩,
    ⟨(some 9), none, .mv (.c (.int .i64 0))⟩])
  (.bl 0
  (.lp
  (.sq (.rg [⟨(some 10), none, .ib .lss (.t 9) (.t 8)⟩])
  (.sq (.cd (.t 10)
  .sk
  (.ex 0))
  (.sq (.bl 1
  (.sq (.rg [⟨(some 11), none, .mv (.t 9)⟩,
    ⟨(some 2), none, .mv (.t 11)⟩])
  (.rd [⟨0, 0, [0], ⟨(some 12), none, .mv (.t 0)⟩⟩,
    ⟨1, 1, [12], ⟨(some 13), none, .nc (.t 12)⟩⟩,
    ⟨2, 3, [13], ⟨(some 14), none, .fa (.t 13) 0⟩⟩,
    ⟨3, 7, [14], ⟨(some 15), none, .ld (.t 14) 1 false⟩⟩,
    ⟨4, 0, [0], ⟨(some 16), none, .mv (.t 0)⟩⟩,
    ⟨5, 16, [16], ⟨(some 17), none, .nc (.t 16)⟩⟩,
    ⟨6, 48, [17], ⟨(some 18), none, .fa (.t 17) 2⟩⟩,
    ⟨7, 112, [18], ⟨(some 19), none, .ld (.t 18) 1 false⟩⟩,
    ⟨8, 0, [2], ⟨(some 20), none, .mv (.t 2)⟩⟩,
    ⟨9, 496, [19, 20], ⟨(some 21), none, .ib .add (.t 19) (.t 20)⟩⟩,
    ⟨10, 0, [2], ⟨(some 22), none, .mv (.t 2)⟩⟩,
    ⟨11, 1024, [22], ⟨(some 23), none, .ib .add (.t 22) (.c (.int .i64 2))⟩⟩,
    ⟨12, 3072, [23], ⟨(some 24), none, .cv .u64 (.t 23)⟩⟩,
    ⟨13, 8191, [15, 21, 24], ⟨(some 25), none, .ca 48 [(.t 15), (.t 21), (.t 24)]⟩⟩])))
  (.rg [⟨(some 26), none, .ib .add (.t 9) (.c (.int .i64 1))⟩,
    ⟨(some 9), none, .mv (.t 26)⟩])))))))
  (.sq (.rd [⟨0, 0, [0], ⟨(some 27), none, .mv (.t 0)⟩⟩,
    ⟨1, 1, [27], ⟨(some 28), none, .nc (.t 27)⟩⟩,
    ⟨2, 3, [28], ⟨(some 29), none, .fa (.t 28) 0⟩⟩,
    ⟨3, 7, [29], ⟨(some 30), none, .ld (.t 29) 1 false⟩⟩,
    ⟨4, 0, [0], ⟨(some 31), none, .mv (.t 0)⟩⟩,
    ⟨5, 16, [31], ⟨(some 32), none, .nc (.t 31)⟩⟩,
    ⟨6, 48, [32], ⟨(some 33), none, .fa (.t 32) 2⟩⟩,
    ⟨7, 112, [33], ⟨(some 34), none, .ld (.t 33) 1 false⟩⟩,
    ⟨8, 0, [0], ⟨(some 35), none, .mv (.t 0)⟩⟩,
    ⟨9, 256, [35], ⟨(some 36), none, .nc (.t 35)⟩⟩,
    ⟨10, 768, [36], ⟨(some 37), none, .fa (.t 36) 3⟩⟩,
    ⟨11, 1792, [37], ⟨(some 38), none, .ld (.t 37) 1 false⟩⟩,
    ⟨12, 4080, [34, 38], ⟨(some 39), none, .ib .add (.t 34) (.t 38)⟩⟩,
    ⟨13, 8176, [39], ⟨(some 40), none, .ib .sub (.t 39) (.c (.int .i64 1))⟩⟩,
    ⟨14, 16383, [30, 40], ⟨(some 41), none, .ca 48 [(.t 30), (.t 40), (.c (.int .u64 0))]⟩⟩])
  (.sq (.rg [⟨(some 43), none, .bd [(.int .i64 0), (.int .i64 0)] []⟩,
    ⟨(some 44), none, .ca 168 [(.t 43)]⟩,
    ⟨(some 42), none, .mv (.t 44)⟩,
    ⟨(some 45), none, .ex (.t 42) 0⟩,
    ⟨(some 46), none, .ex (.t 42) 1⟩,
    ⟨(some 3), none, .mv (.t 45)⟩,
    ⟨(some 4), none, .mv (.t 46)⟩])
  (.rd [⟨0, 0, [0], ⟨(some 47), none, .mv (.t 0)⟩⟩,
    ⟨1, 1, [47], ⟨(some 48), none, .nc (.t 47)⟩⟩,
    ⟨2, 3, [48], ⟨(some 49), none, .fa (.t 48) 0⟩⟩,
    ⟨3, 7, [49], ⟨(some 50), none, .ld (.t 49) 1 false⟩⟩,
    ⟨4, 0, [0], ⟨(some 51), none, .mv (.t 0)⟩⟩,
    ⟨5, 16, [51], ⟨(some 52), none, .nc (.t 51)⟩⟩,
    ⟨6, 48, [52], ⟨(some 53), none, .fa (.t 52) 1⟩⟩,
    ⟨7, 112, [53], ⟨(some 54), none, .ld (.t 53) 1 false⟩⟩,
    ⟨8, 0, [3], ⟨(some 55), none, .mv (.t 3)⟩⟩,
    ⟨9, 511, [50, 54, 55], ⟨(some 56), none, .ca 48 [(.t 50), (.t 54), (.t 55)]⟩⟩]))))⟩
theorem k127 : cF Tryz.prog Tryz.f127 = some c127 := by kernel_rfl
/-- rundale/rundaleref5.New -/
def c128 : Fu := ⟨7, [.t 2],
  (.sq (.rg [⟨(some 2), none, .mv (.c (.pointer none))⟩])
  (.sq (.rg [⟨(some 3), none, .mv (.t 0)⟩,
    ⟨(some 4), none, .mk 103 1 8 [(.int .u64 0)] (.t 3) (.t 3)⟩,
    ⟨(some 5), none, .bd [(.slice none 0 0), (.int .i64 0)] [(0, 1, (.t 4))]⟩,
    ⟨(some 6), none, .bx 108 (.t 5)⟩,
    ⟨(some 2), none, .mv (.t 6)⟩])
  .rt))⟩
theorem k128 : cF Tryz.prog Tryz.f128 = some c128 := by kernel_rfl
/-- rundale/rundaleref1.Len -/
def c129 : Fu := ⟨22, [.t 2],
  (.sq (.rg [⟨(some 1), none, .bx 24 (.t 0)⟩,
    ⟨(some 2), none, .mv (.c (.int .i64 0))⟩])
  (.sq (.sq (.rg [⟨(some 3), none, .ld (.t 1) 6 true⟩,
    ⟨(some 4), none, .ca 159 [(.t 3)]⟩,
    ⟨(some 5), none, .nt (.t 4)⟩])
  (.cd (.t 5)
  (.sq (.rg [⟨(some 2), none, .mv (.c (.int .i64 0))⟩])
  .rt)
  .sk))
  (.sq (.rg [⟨(some 6), none, .fa (.t 1) 0⟩,
    ⟨(some 7), none, .ld (.t 6) 1 false⟩,
    ⟨(some 8), none, .ib .add (.c (.int .i64 3)) (.t 7)⟩,
    ⟨(some 9), none, .fa (.t 1) 3⟩,
    ⟨(some 10), none, .ld (.t 9) 1 false⟩,
    ⟨(some 11), none, .ib .mul (.c (.int .i64 2)) (.t 10)⟩,
    ⟨(some 12), none, .ib .add (.t 8) (.t 11)⟩,
    ⟨(some 13), none, .fa (.t 1) 1⟩,
    ⟨(some 14), none, .ld (.t 13) 1 false⟩,
    ⟨(some 15), none, .ib .add (.t 12) (.t 14)⟩,
    ⟨(some 16), none, .fa (.t 1) 1⟩,
    ⟨(some 17), none, .ld (.t 16) 1 false⟩,
    ⟨(some 18), none, .fa (.t 1) 2⟩,
    ⟨(some 19), none, .ld (.t 18) 1 false⟩,
    ⟨(some 20), none, .ib .mul (.t 17) (.t 19)⟩,
    ⟨(some 21), none, .ib .add (.t 15) (.t 20)⟩,
    ⟨(some 2), none, .mv (.t 21)⟩])
  .rt)))⟩
theorem k129 : cF Tryz.prog Tryz.f129 = some c129 := by kernel_rfl
/-- rundale/rundaleref1.Link -/
def c130 : Fu := ⟨17, [.t 4],
  (.sq (.rg [⟨(some 2), none, .bx 24 (.t 0)⟩,
    ⟨(some 4), none, .mv (.c (.int .i64 0))⟩])
  (.sq (.rg [⟨(some 5), none, .ld (.t 2) 6 true⟩,
    ⟨(some 6), none, .fa (.t 2) 0⟩,
    ⟨(some 7), none, .ld (.t 6) 1 false⟩,
    ⟨(some 8), none, .ib .add (.c (.int .i64 3)) (.t 7)⟩,
    ⟨(some 9), none, .fa (.t 2) 3⟩,
    ⟨(some 10), none, .ld (.t 9) 1 false⟩,
    ⟨(some 11), none, .ib .mul (.c (.int .i64 2)) (.t 10)⟩,
    ⟨(some 12), none, .ib .add (.t 8) (.t 11)⟩,
    ⟨(some 13), none, .fa (.t 2) 1⟩,
    ⟨(some 14), none, .ld (.t 13) 1 false⟩,
    ⟨(some 15), none, .mv (.t 1)⟩,
    ⟨(some 16), none, .ca 109 [(.t 5), (.t 12), (.t 14), (.t 15)]⟩,
    ⟨(some 4), none, .mv (.t 16)⟩])
  .rt))⟩
theorem k130 : cF Tryz.prog Tryz.f130 = some c130 := by kernel_rfl
/-- (*rundale/rundaleref5.Stack).Fill -/
def c131 : Fu := ⟨75, [],
  (.sq (.rg [⟨(some 6), none, .bd [(.int .i64 0), (.int .i64 0)] [(0, 1, (.c (.int .i64 0)))]⟩,
    ⟨(some 7), none, .ca 169 [(.t 6)]⟩,
    ⟨(some 5), none, .mv (.t 7)⟩,
    ⟨(some 8), none, .ex (.t 5) 0⟩,
    ⟨(some 9), none, .ex (.t 5) 1⟩,
    ⟨(some 2), none, .mv (.t 8)⟩,
    ⟨(some 3), none, .mv (.t 9)⟩])
  (.sq (.rd [⟨0, 0, [0], ⟨(some 10), none, .mv (.t 0)⟩⟩,
    ⟨1, 1, [10], ⟨(some 11), none, .nc (.t 10)⟩⟩,
    ⟨2, 3, [11], ⟨(some 12), none, .fa (.t 11) 0⟩⟩,
    ⟨3, 7, [12], ⟨(some 13), none, .ld (.t 12) 1 false⟩⟩,
    ⟨4, 15, [13], ⟨(some 14), none, .nc (.t 13)⟩⟩,
    ⟨5, 31, [14], ⟨(some 15), none, .fa (.t 14) 0⟩⟩,
    ⟨6, 63, [15], ⟨(some 16), none, .ld (.t 15) 1 false⟩⟩,
    ⟨7, 0, [0], ⟨(some 17), none, .mv (.t 0)⟩⟩,
    ⟨8, 128, [17], ⟨(some 18), none, .nc (.t 17)⟩⟩,
    ⟨9, 384, [18], ⟨(some 19), none, .fa (.t 18) 1⟩⟩,
    ⟨10, 896, [19], ⟨(some 20), none, .ld (.t 19) 1 false⟩⟩,
    ⟨11, 0, [2], ⟨(some 21), none, .mv (.t 2)⟩⟩,
    ⟨12, 4095, [16, 20], ⟨(some 22), none, .ia (.t 16) (.t 20) 1⟩⟩,
    ⟨13, 8191, [22, 21], ⟨none, none, .st (.t 22) (.t 21) 1⟩⟩])
  (.sq (.rg [⟨(some 4), none, .mv (.c (.int .i64 0))⟩])
  (.bl 0
  (.lp
  (.sq (.sq (.rg [⟨(some 23), none, .mv (.t 4)⟩,
    ⟨(some 24), none, .mv (.t 0)⟩,
    ⟨(some 25), none, .nc (.t 24)⟩,
    ⟨(some 26), none, .fa (.t 25) 3⟩,
    ⟨(some 27), none, .ld (.t 26) 1 false⟩,
    ⟨(some 28), none, .ib .lss (.t 23) (.t 27)⟩])
  (.cd (.t 28)
  .sk
  (.ex 0)))
  (.sq (.bl 1
  (.sq (.rd [⟨0, 0, [0], ⟨(some 31), none, .mv (.t 0)⟩⟩,
    ⟨1, 1, [31], ⟨(some 32), none, .nc (.t 31)⟩⟩,
    ⟨2, 3, [32], ⟨(some 33), none, .fa (.t 32) 0⟩⟩,
    ⟨3, 7, [33], ⟨(some 34), none, .ld (.t 33) 1 false⟩⟩,
    ⟨4, 15, [34], ⟨(some 35), none, .nc (.t 34)⟩⟩,
    ⟨5, 31, [35], ⟨(some 36), none, .fa (.t 35) 0⟩⟩,
    ⟨6, 63, [36], ⟨(some 37), none, .ld (.t 36) 1 false⟩⟩,
    ⟨7, 0, [0], ⟨(some 38), none, .mv (.t 0)⟩⟩,
    ⟨8, 128, [38], ⟨(some 39), none, .nc (.t 38)⟩⟩,
    ⟨9, 384, [39], ⟨(some 40), none, .fa (.t 39) 2⟩⟩,
    ⟨10, 896, [40], ⟨(some 41), none, .ld (.t 40) 1 false⟩⟩,
    ⟨11, 0, [4], ⟨(some 42), none, .mv (.t 4)⟩⟩,
    ⟨12, 3968, [41, 42], ⟨(some 43), none, .ib .add (.t 41) (.t 42)⟩⟩,
    ⟨13, 0, [4], ⟨(some 44), none, .mv (.t 4)⟩⟩,
    ⟨14, 8192, [44], ⟨(some 45), none, .ib .add (.t 44) (.c (.int .i64 2))⟩⟩,
    ⟨15, 0, [0], ⟨(some 46), none, .mv (.t 0)⟩⟩,
    ⟨16, 32768, [46], ⟨(some 47), none, .nc (.t 46)⟩⟩,
    ⟨17, 98304, [47], ⟨(some 48), none, .fa (.t 47) 3⟩⟩,
    ⟨18, 229376, [48], ⟨(some 49), none, .ld (.t 48) 1 false⟩⟩,
    ⟨19, 491520, [49], ⟨(some 50), none, .ib .add (.t 49) (.c (.int .i64 1))⟩⟩,
    ⟨20, 1040384, [45, 50], ⟨(some 51), none, .ib .rem (.t 45) (.t 50)⟩⟩,
    ⟨21, 2088960, [51], ⟨(some 52), none, .cv .u64 (.t 51)⟩⟩,
    ⟨22, 4194303, [37, 43], ⟨(some 53), none, .ia (.t 37) (.t 43) 1⟩⟩,
    ⟨23, 8388607, [53, 52], ⟨none, none, .st (.t 53) (.t 52) 1⟩⟩])
  (.sq (.rg [⟨(some 54), none, .mv (.t 4)⟩,
    ⟨(some 55), none, .mv (.t 0)⟩,
    ⟨(some 56), none, .nc (.t 55)⟩,
    ⟨(some 57), none, .fa (.t 56) 3⟩,
    ⟨(some 58), none, .ld (.t 57) 1 false⟩,
    ⟨(some 59), none, .ib .sub (.t 58) (.c (.int .i64 1))⟩,
    ⟨(some 60), none, .ib .eql (.t 54) (.t 59)⟩])
  (.cd (.t 60)
  (.rd [⟨0, 0, [0], ⟨(some 61), none, .mv (.t 0)⟩⟩,
    ⟨1, 1, [61], ⟨(some 62), none, .nc (.t 61)⟩⟩,
    ⟨2, 3, [62], ⟨(some 63), none, .fa (.t 62) 0⟩⟩,
    ⟨3, 7, [63], ⟨(some 64), none, .ld (.t 63) 1 false⟩⟩,
    ⟨4, 15, [64], ⟨(some 65), none, .nc (.t 64)⟩⟩,
    ⟨5, 31, [65], ⟨(some 66), none, .fa (.t 65) 0⟩⟩,
    ⟨6, 63, [66], ⟨(some 67), none, .ld (.t 66) 1 false⟩⟩,
    ⟨7, 0, [0], ⟨(some 68), none, .mv (.t 0)⟩⟩,
    ⟨8, 128, [68], ⟨(some 69), none, .nc (.t 68)⟩⟩,
    ⟨9, 384, [69], ⟨(some 70), none, .fa (.t 69) 2⟩⟩,
    ⟨10, 896, [70], ⟨(some 71), none, .ld (.t 70) 1 false⟩⟩,
    ⟨11, 0, [4], ⟨(some 72), none, .mv (.t 4)⟩⟩,
    ⟨12, 3968, [71, 72], ⟨(some 73), none, .ib .add (.t 71) (.t 72)⟩⟩,
    ⟨13, 8191, [67, 73], ⟨(some 74), none, .ia (.t 67) (.t 73) 1⟩⟩,
    ⟨14, 16383, [74], ⟨none, none, .st (.t 74) (.c (.int .u64 0)) 1⟩⟩])
  .sk))))
  (.rg [⟨(some 29), none, .mv (.t 4)⟩,
    ⟨(some 30), none, .ib .add (.t 29) (.c (.int .i64 1))⟩,
    ⟨(some 4), none, .mv (.t 30)⟩]))))))))⟩
theorem k131 : cF Tryz.prog Tryz.f131 = some c131 := by kernel_rfl
/-- rundale/rundaleref5.NewStash -/
def c132 : Fu := ⟨8, [.t 2],
  (.sq (.rg [⟨(some 2), none, .mv (.c (.pointer none))⟩])
  (.sq (.rg [⟨(some 3), none, .mv (.t 0)⟩,
    ⟨(some 4), none, .mm true (.t 3) (.c (.int .i64 0))⟩,
    ⟨(some 5), none, .mm false (.t 4) (.c (.int .i64 64))⟩,
    ⟨(some 6), none, .bd [(.int .i64 0), (.slice none 0 0)] [(0, 1, (.t 5))]⟩,
    ⟨(some 7), none, .bx 154 (.t 6)⟩,
    ⟨(some 2), none, .mv (.t 7)⟩])
  .rt))⟩
theorem k132 : cF Tryz.prog Tryz.f132 = some c132 := by kernel_rfl
/-- rundale/rundaleref5.NewLimbo -/
def c133 : Fu := ⟨3, [.t 0],
  (.sq (.rg [⟨(some 0), none, .mv (.c (.pointer none))⟩])
  (.sq (.rg [⟨(some 1), none, .bd [(.int .i64 0), (.int .i64 0), (.int .i64 0), (.slice none 0 0), (.slice none 0 0), (.slice none 0 0), (.int .i64 0)] [(6, 1, (.c (.int .i64 (-1))))]⟩,
    ⟨(some 2), none, .bx 181 (.t 1)⟩,
    ⟨(some 0), none, .mv (.t 2)⟩])
  .rt))⟩
theorem k133 : cF Tryz.prog Tryz.f133 = some c133 := by kernel_rfl
/-- slices.Clone[[]int,int] -/
def c134 : Fu := ⟨8, [.t 2],
  (.sq (.rg [⟨(some 2), none, .mv (.c (.slice none 0 0))⟩])
  (.sq (.sq (.rg [⟨(some 3), none, .mv (.t 0)⟩,
    ⟨(some 4), none, .en 1 false (.t 3) (.c (.slice none 0 0))⟩])
  (.cd (.t 4)
  (.sq (.rg [⟨(some 2), none, .mv (.c (.slice none 0 0))⟩])
  .rt)
  .sk))
  (.sq (.rg [⟨(some 5), none, .bs 3 0 [] []⟩,
    ⟨(some 6), none, .mv (.t 0)⟩,
    ⟨(some 7), none, .ap 49 3 1 8 [(.int .i64 0)] (.t 5) (.t 6)⟩,
    ⟨(some 2), none, .mv (.t 7)⟩])
  .rt)))⟩
theorem k134 : cF Tryz.prog Tryz.f134 = some c134 := by kernel_rfl
/-- (*rundale/stack.Stack).Push -/
def c135 : Fu := ⟨58, [.t 4, .t 5],
  (.sq (.rg [⟨(some 4), none, .mv (.c (.pointer none))⟩,
    ⟨(some 5), none, .mv (.c (.int .i64 0))⟩])
  (.sq (.sq (.rg [⟨(some 9), none, .mv (.t 1)⟩,
    ⟨(some 10), none, .len (.t 9)⟩,
    ⟨(some 11), none, .mv (.c (.int .i64 0))⟩])
  (.bl 0
  (.lp
  (.sq (.rg [⟨(some 12), none, .ib .lss (.t 11) (.t 10)⟩])
  (.sq (.cd (.t 12)
  .sk
  (.ex 0))
  (.sq (.bl 1
  (.sq (.rg [⟨(some 13), none, .mv (.t 11)⟩,
    ⟨(some 14), none, .ia (.t 9) (.t 11) 1⟩,
    ⟨(some 15), none, .ld (.t 14) 1 false⟩,
    ⟨(some 6), none, .mv (.t 13)⟩,
    ⟨(some 7), none, .mv (.t 15)⟩])
  (.sq (.rg [⟨(some 16), none, .mv (.t 7)⟩,
    ⟨(some 17), none, .ib .lss (.t 16) (.c (.int .i64 0))⟩,
    ⟨(some 18), none, .mv (.t 17)⟩,
    ⟨(some 19), (some (18, false)), .mv (.t 7)⟩,
    ⟨(some 20), (some (18, false)), .mv (.t 0)⟩,
    ⟨(some 21), (some (18, false)), .nc (.t 20)⟩,
    ⟨(some 22), (some (18, false)), .fa (.t 21) 3⟩,
    ⟨(some 23), (some (18, false)), .ld (.t 22) 1 false⟩,
    ⟨(some 24), (some (18, false)), .ib .geq (.t 19) (.t 23)⟩,
    ⟨(some 25), none, .pk (.t 18) (.c (.bool true)) (.t 24)⟩,
    ⟨(some 26), none, .mv (.t 25)⟩,
    ⟨(some 27), (some (26, false)), .mv (.t 1)⟩,
    ⟨(some 28), (some (26, false)), .mv (.t 6)⟩,
    ⟨(some 29), (some (26, false)), .sl 1 (.t 27) none (some (.t 28)) none⟩,
    ⟨(some 30), (some (26, false)), .mv (.t 7)⟩,
    ⟨(some 31), (some (26, false)), .ca 170 [(.t 29), (.t 30)]⟩,
    ⟨(some 32), none, .pk (.t 26) (.c (.bool true)) (.t 31)⟩])
  (.cd (.t 32)
  (.sq (.rg [⟨(some 4), none, .mv (.c (.pointer none))⟩,
    ⟨(some 5), none, .mv (.c (.int .i64 1))⟩])
  .rt)
  .sk))))
  (.rg [⟨(some 33), none, .ib .add (.t 11) (.c (.int .i64 1))⟩,
    ⟨(some 11), none, .mv (.t 33)⟩])))))))
  (.sq (.rg [⟨(some 34), none, .mv (.t 0)⟩,
    ⟨(some 35), none, .mv (.t 1)⟩,
    ⟨(some 36), none, .ca 134 [(.t 35)]⟩,
    ⟨(some 37), none, .bd [.nilFunc, .nilFunc, .nilFunc, .nilFunc, (.int .i64 0), (.pointer none), (.slice none 0 0), (.int .i64 0), (.int .u64 0)] [(5, 1, (.t 34)), (6, 1, (.t 36))]⟩,
    ⟨(some 38), none, .bx 239 (.t 37)⟩,
    ⟨(some 8), none, .mv (.t 38)⟩])
  (.sq (.sq (.rg [⟨(some 39), none, .mv (.t 1)⟩,
    ⟨(some 40), none, .len (.t 39)⟩])
  (.bl 2
  (.sq (.rg [⟨(some 48), none, .ib .eql (.t 40) (.c (.int .i64 0))⟩,
    ⟨(some 47), none, .mv (.t 48)⟩])
  (.cd (.t 47)
  .sk
  (.sq (.rg [⟨(some 50), none, .ib .eql (.t 40) (.c (.int .i64 1))⟩,
    ⟨(some 49), none, .mv (.t 50)⟩])
  (.cd (.t 49)
  (.rg [⟨(some 51), none, .mv (.t 8)⟩,
    ⟨(some 52), none, .nc (.t 51)⟩,
    ⟨(some 53), none, .fa (.t 52) 0⟩,
    ⟨(some 54), none, .mv (.t 8)⟩,
    ⟨(some 55), none, .mf (.func 171) [(.t 54)] []⟩,
    ⟨(some 56), none, .ca 114 [(.t 53), (.t 55)]⟩])
  (.rg [⟨(some 41), none, .mv (.t 8)⟩,
    ⟨(some 42), none, .nc (.t 41)⟩,
    ⟨(some 43), none, .fa (.t 42) 0⟩,
    ⟨(some 44), none, .mv (.t 8)⟩,
    ⟨(some 45), none, .mf (.func 172) [(.t 44)] []⟩,
    ⟨(some 46), none, .ca 114 [(.t 43), (.t 45)]⟩])))))))
  (.sq (.rg [⟨(some 57), none, .mv (.t 8)⟩,
    ⟨(some 4), none, .mv (.t 57)⟩,
    ⟨(some 5), none, .mv (.c (.int .i64 0))⟩])
  .rt)))))⟩
theorem k135 : cF Tryz.prog Tryz.f135 = some c135 := by kernel_rfl
/-- (*rundale/stack.Push).Step -/
def c136 : Fu := ⟨7, [.t 2],
  (.sq (.rg [⟨(some 2), none, .mv (.c (.bool false))⟩])
  (.sq (.rg [⟨(some 3), none, .mv (.t 0)⟩,
    ⟨(some 4), none, .nc (.t 3)⟩,
    ⟨(some 5), none, .fa (.t 4) 0⟩,
    ⟨(some 6), none, .ca 93 [(.t 5)]⟩,
    ⟨(some 2), none, .mv (.t 6)⟩])
  .rt))⟩
theorem k136 : cF Tryz.prog Tryz.f136 = some c136 := by kernel_rfl
/-- (*rundale/stack.Push).Done -/
def c137 : Fu := ⟨7, [.t 2],
  (.sq (.rg [⟨(some 2), none, .mv (.c (.bool false))⟩])
  (.sq (.rg [⟨(some 3), none, .mv (.t 0)⟩,
    ⟨(some 4), none, .nc (.t 3)⟩,
    ⟨(some 5), none, .fa (.t 4) 0⟩,
    ⟨(some 6), none, .ca 97 [(.t 5)]⟩,
    ⟨(some 2), none, .mv (.t 6)⟩])
  .rt))⟩
theorem k137 : cF Tryz.prog Tryz.f137 = some c137 := by kernel_rfl
/-- (*rundale/supply.Give).end -/
def c138 : Fu := ⟨2, [],
  .sk⟩
theorem k138 : cF Tryz.prog Tryz.f138 = some c138 := by kernel_rfl
/-- (*rundale/stash.Stash).cut -/
def c139 : Fu := ⟨24, [.t 4],
  (.sq (.rg [⟨(some 4), none, .mv (.c (.slice none 0 0))⟩])
  (.sq (.rg [⟨(some 6), none, .mv (.t 0)⟩,
    ⟨(some 7), none, .nc (.t 6)⟩,
    ⟨(some 8), none, .fa (.t 7) 1⟩,
    ⟨(some 9), none, .ld (.t 8) 1 false⟩,
    ⟨(some 10), none, .mv (.t 1)⟩,
    ⟨(some 11), none, .sl 1 (.t 9) none (some (.t 10)) none⟩,
    ⟨(some 12), none, .ca 134 [(.t 11)]⟩,
    ⟨(some 5), none, .mv (.t 12)⟩])
  (.sq (.rg [⟨(some 13), none, .mv (.t 0)⟩,
    ⟨(some 14), none, .mv (.t 0)⟩,
    ⟨(some 15), none, .nc (.t 14)⟩,
    ⟨(some 16), none, .fa (.t 15) 1⟩,
    ⟨(some 17), none, .ld (.t 16) 1 false⟩,
    ⟨(some 18), none, .mv (.t 1)⟩,
    ⟨(some 19), none, .sl 1 (.t 17) (some (.t 18)) none none⟩,
    ⟨(some 20), none, .ca 134 [(.t 19)]⟩,
    ⟨(some 21), none, .nc (.t 13)⟩,
    ⟨(some 22), none, .fa (.t 21) 1⟩,
    ⟨none, none, .st (.t 22) (.t 20) 1⟩])
  (.sq (.rg [⟨(some 23), none, .mv (.t 5)⟩,
    ⟨(some 4), none, .mv (.t 23)⟩])
  .rt))))⟩
theorem k139 : cF Tryz.prog Tryz.f139 = some c139 := by kernel_rfl
/-- rundale/word.GetHead -/
def c140 : Fu := ⟨11, [.c 2 2 true],
  (.sq (.rg [⟨(some 2), none, .al 212 [(.int .i64 0), (.int .i64 0)]⟩])
  (.sq (.rg [⟨(some 3), none, .mv (.t 0)⟩,
    ⟨(some 4), none, .ca 173 [(.t 3), (.c (.int .i64 0)), (.c (.int .i64 32))]⟩,
    ⟨(some 5), none, .cv .i64 (.t 4)⟩,
    ⟨(some 6), none, .ib .sub (.t 5) (.c (.int .i64 1))⟩,
    ⟨(some 7), none, .mv (.t 0)⟩,
    ⟨(some 8), none, .ca 173 [(.t 7), (.c (.int .i64 32)), (.c (.int .i64 32))]⟩,
    ⟨(some 9), none, .cv .i64 (.t 8)⟩,
    ⟨(some 10), none, .bd [(.int .i64 0), (.int .i64 0)] [(0, 1, (.t 6)), (1, 1, (.t 9))]⟩,
    ⟨none, none, .st (.t 2) (.t 10) 2⟩])
  .rt))⟩
theorem k140 : cF Tryz.prog Tryz.f140 = some c140 := by kernel_rfl
/-- (*rundale/supply.Give).Done -/
def c146 : Fu := ⟨7, [.t 2],
  (.sq (.rg [⟨(some 2), none, .mv (.c (.bool false))⟩])
  (.sq (.rg [⟨(some 3), none, .mv (.t 0)⟩,
    ⟨(some 4), none, .nc (.t 3)⟩,
    ⟨(some 5), none, .fa (.t 4) 0⟩,
    ⟨(some 6), none, .ca 97 [(.t 5)]⟩,
    ⟨(some 2), none, .mv (.t 6)⟩])
  .rt))⟩
theorem k146 : cF Tryz.prog Tryz.f146 = some c146 := by kernel_rfl
/-- (*rundale/rundaleref5.Stash).Over -/
def c149 : Fu := ⟨34, [.t 2],
  (.sq (.rg [⟨(some 2), none, .mv (.c (.slice none 0 0))⟩])
  (.sq (.rd [⟨0, 0, [0], ⟨(some 5), none, .mv (.t 0)⟩⟩,
    ⟨1, 1, [5], ⟨(some 6), none, .nc (.t 5)⟩⟩,
    ⟨2, 3, [6], ⟨(some 7), none, .fa (.t 6) 1⟩⟩,
    ⟨3, 7, [7], ⟨(some 8), none, .ld (.t 7) 1 false⟩⟩,
    ⟨4, 15, [8], ⟨(some 9), none, .len (.t 8)⟩⟩,
    ⟨5, 0, [0], ⟨(some 10), none, .mv (.t 0)⟩⟩,
    ⟨6, 32, [10], ⟨(some 11), none, .nc (.t 10)⟩⟩,
    ⟨7, 96, [11], ⟨(some 12), none, .fa (.t 11) 0⟩⟩,
    ⟨8, 224, [12], ⟨(some 13), none, .ld (.t 12) 1 false⟩⟩,
    ⟨9, 511, [9, 13], ⟨(some 14), none, .ib .sub (.t 9) (.t 13)⟩⟩,
    ⟨10, 1023, [14], ⟨(some 15), none, .mm true (.t 14) (.c (.int .i64 0))⟩⟩,
    ⟨11, 2047, [15], ⟨(some 3), none, .mv (.t 15)⟩⟩])
  (.sq (.rg [⟨(some 16), none, .mv (.t 0)⟩,
    ⟨(some 17), none, .nc (.t 16)⟩,
    ⟨(some 18), none, .fa (.t 17) 1⟩,
    ⟨(some 19), none, .ld (.t 18) 1 false⟩,
    ⟨(some 20), none, .mv (.t 3)⟩,
    ⟨(some 21), none, .sl 1 (.t 19) none (some (.t 20)) none⟩,
    ⟨(some 22), none, .ap 49 3 1 8 [(.int .i64 0)] (.c (.slice none 0 0)) (.t 21)⟩,
    ⟨(some 4), none, .mv (.t 22)⟩])
  (.sq (.rg [⟨(some 23), none, .mv (.t 0)⟩,
    ⟨(some 24), none, .mv (.t 0)⟩,
    ⟨(some 25), none, .nc (.t 24)⟩,
    ⟨(some 26), none, .fa (.t 25) 1⟩,
    ⟨(some 27), none, .ld (.t 26) 1 false⟩,
    ⟨(some 28), none, .mv (.t 3)⟩,
    ⟨(some 29), none, .sl 1 (.t 27) (some (.t 28)) none none⟩,
    ⟨(some 30), none, .ap 49 3 1 8 [(.int .i64 0)] (.c (.slice none 0 0)) (.t 29)⟩,
    ⟨(some 31), none, .nc (.t 23)⟩,
    ⟨(some 32), none, .fa (.t 31) 1⟩,
    ⟨none, none, .st (.t 32) (.t 30) 1⟩])
  (.sq (.rg [⟨(some 33), none, .mv (.t 4)⟩,
    ⟨(some 2), none, .mv (.t 33)⟩])
  .rt)))))⟩
theorem k149 : cF Tryz.prog Tryz.f149 = some c149 := by kernel_rfl
/-- (*rundale/rundaleref5.Stash).All -/
def c150 : Fu := ⟨12, [.t 2],
  (.sq (.rg [⟨(some 2), none, .mv (.c (.slice none 0 0))⟩])
  (.sq (.rg [⟨(some 4), none, .mv (.t 0)⟩,
    ⟨(some 5), none, .nc (.t 4)⟩,
    ⟨(some 6), none, .fa (.t 5) 1⟩,
    ⟨(some 7), none, .ld (.t 6) 1 false⟩,
    ⟨(some 3), none, .mv (.t 7)⟩])
  (.sq (.rg [⟨(some 8), none, .mv (.t 0)⟩,
    ⟨(some 9), none, .nc (.t 8)⟩,
    ⟨(some 10), none, .fa (.t 9) 1⟩,
    ⟨none, none, .st (.t 10) (.c (.slice none 0 0)) 1⟩])
  (.sq (.rg [⟨(some 11), none, .mv (.t 3)⟩,
    ⟨(some 2), none, .mv (.t 11)⟩])
  .rt))))⟩
theorem k150 : cF Tryz.prog Tryz.f150 = some c150 := by kernel_rfl
/-- (*rundale/limbo.Limbo).Ready -/
def c151 : Fu := ⟨51, [.t 4],
  (.sq (.rg [⟨(some 4), none, .mv (.c (.slice none 0 0))⟩])
  (.sq (.rg [⟨(some 5), none, .mv (.c (.slice none 0 0))⟩])
  (.sq (.bl 0
  (.lp
  (.sq (.sq (.rg [⟨(some 9), none, .mv (.t 1)⟩,
    ⟨(some 10), none, .ib .geq (.t 9) (.c (.int .i64 2))⟩])
  (.cd (.t 10)
  .sk
  (.ex 0)))
  (.bl 1
  (.sq (.rg [⟨(some 6), none, .mv (.c (.pointer none))⟩])
  (.sq (.sq (.rg [⟨(some 11), none, .mv (.c (.int .i64 0))⟩])
  (.bl 2
  (.lp
  (.sq (.rg [⟨(some 12), none, .ib .lss (.t 11) (.c (.int .i64 3))⟩])
  (.sq (.cd (.t 12)
  .sk
  (.ex 2))
  (.sq (.bl 3
  (.sq (.rg [⟨(some 13), none, .mv (.t 11)⟩,
    ⟨(some 7), none, .mv (.t 13)⟩])
  (.sq (.rg [⟨(some 14), none, .mv (.t 0)⟩,
    ⟨(some 15), none, .mv (.t 7)⟩,
    ⟨(some 16), none, .nc (.t 14)⟩,
    ⟨(some 17), none, .fa (.t 16) 0⟩,
    ⟨(some 18), none, .iaa (.t 17) (.t 15) 3 2⟩,
    ⟨(some 8), none, .mv (.t 18)⟩])
  (.sq (.rd [⟨0, 0, [8], ⟨(some 19), none, .mv (.t 8)⟩⟩,
    ⟨1, 0, [1], ⟨(some 20), none, .mv (.t 1)⟩⟩,
    ⟨2, 3, [19, 20], ⟨(some 21), none, .ca 179 [(.t 19), (.t 20)]⟩⟩,
    ⟨3, 7, [21], ⟨(some 22), none, .mv (.t 21)⟩⟩,
    ⟨4, 15, [6, 22], ⟨(some 23), (some (22, true)), .mv (.t 6)⟩⟩,
    ⟨5, 31, [23, 22], ⟨(some 24), (some (22, true)), .en 0 false (.t 23) (.c (.pointer none))⟩⟩,
    ⟨6, 63, [24, 22], ⟨(some 25), (some (22, true)), .mv (.t 24)⟩⟩,
    ⟨7, 127, [8, 25], ⟨(some 26), (some (25, false)), .mv (.t 8)⟩⟩,
    ⟨8, 255, [26, 25], ⟨(some 27), (some (25, false)), .nc (.t 26)⟩⟩,
    ⟨9, 511, [27, 25], ⟨(some 28), (some (25, false)), .fa (.t 27) 0⟩⟩,
    ⟨10, 1023, [28, 25], ⟨(some 29), (some (25, false)), .ld (.t 28) 1 false⟩⟩,
    ⟨11, 127, [6, 25], ⟨(some 30), (some (25, false)), .mv (.t 6)⟩⟩,
    ⟨12, 2175, [30, 25], ⟨(some 31), (some (25, false)), .nc (.t 30)⟩⟩,
    ⟨13, 6271, [31, 25], ⟨(some 32), (some (25, false)), .fa (.t 31) 0⟩⟩,
    ⟨14, 14463, [32, 25], ⟨(some 33), (some (25, false)), .ld (.t 32) 1 false⟩⟩,
    ⟨15, 32767, [29, 33, 25], ⟨(some 34), (some (25, false)), .ib .lss (.t 29) (.t 33)⟩⟩,
    ⟨16, 65535, [25, 34, 22], ⟨(some 35), (some (22, true)), .pk (.t 25) (.c (.bool true)) (.t 34)⟩⟩,
    ⟨17, 131071, [22, 35], ⟨(some 36), none, .pk (.t 22) (.t 35) (.c (.bool false))⟩⟩])
  (.cd (.t 36)
  (.rg [⟨(some 37), none, .mv (.t 8)⟩,
    ⟨(some 6), none, .mv (.t 37)⟩])
  .sk)))))
  (.rg [⟨(some 38), none, .ib .add (.t 11) (.c (.int .i64 1))⟩,
    ⟨(some 11), none, .mv (.t 38)⟩])))))))
  (.sq (.sq (.rg [⟨(some 39), none, .mv (.t 6)⟩,
    ⟨(some 40), none, .en 0 false (.t 39) (.c (.pointer none))⟩])
  (.cd (.t 40)
  (.ex 0)
  .sk))
  (.sq (.rg [⟨(some 41), none, .mv (.t 5)⟩,
    ⟨(some 42), none, .mv (.t 6)⟩,
    ⟨(some 43), none, .nc (.t 42)⟩,
    ⟨(some 44), none, .fa (.t 43) 1⟩,
    ⟨(some 45), none, .ld (.t 44) 1 false⟩,
    ⟨(some 46), none, .ap 49 3 1 8 [(.int .i64 0)] (.t 41) (.t 45)⟩,
    ⟨(some 5), none, .mv (.t 46)⟩])
  (.rg [⟨(some 47), none, .mv (.t 6)⟩,
    ⟨(some 48), none, .bd [(.int .i64 0), (.slice none 0 0)] []⟩,
    ⟨(some 49), none, .nc (.t 47)⟩,
    ⟨none, none, .st (.t 49) (.t 48) 2⟩])))))))))
  (.sq (.rg [⟨(some 50), none, .mv (.t 5)⟩,
    ⟨(some 4), none, .mv (.t 50)⟩])
  .rt))))⟩
theorem k151 : cF Tryz.prog Tryz.f151 = some c151 := by kernel_rfl
/-- (*rundale/run.Machine).on -/
def c157 : Fu := ⟨17, [],
  (.sq (.sq (.rg [⟨(some 2), none, .mv (.t 0)⟩,
    ⟨(some 3), none, .nc (.t 2)⟩,
    ⟨(some 4), none, .fa (.t 3) 2⟩,
    ⟨(some 5), none, .ld (.t 4) 1 false⟩,
    ⟨(some 6), none, .cl (.t 5) []⟩])
  (.cd (.t 6)
  (.sq (.rg [⟨(some 7), none, .mv (.t 0)⟩,
    ⟨(some 8), none, .nc (.t 7)⟩,
    ⟨(some 9), none, .fa (.t 8) 3⟩,
    ⟨(some 10), none, .ld (.t 9) 1 false⟩,
    ⟨(some 11), none, .cl (.t 10) []⟩])
  .rt)
  .sk))
  (.rg [⟨(some 12), none, .mv (.t 0)⟩,
    ⟨(some 13), none, .mv (.t 0)⟩,
    ⟨(some 14), none, .mf (.func 183) [(.t 13)] []⟩,
    ⟨(some 15), none, .nc (.t 12)⟩,
    ⟨(some 16), none, .fa (.t 15) 0⟩,
    ⟨none, none, .st (.t 16) (.t 14) 1⟩]))⟩
theorem k157 : cF Tryz.prog Tryz.f157 = some c157 := by kernel_rfl
/-- rundale/rundaleref1.May -/
def c159 : Fu := ⟨37, [.t 2],
  (.sq (.rg [⟨(some 1), none, .bx 24 (.t 0)⟩,
    ⟨(some 2), none, .mv (.c (.bool false))⟩])
  (.sq (.rg [⟨(some 3), none, .fa (.t 1) 0⟩,
    ⟨(some 4), none, .ld (.t 3) 1 false⟩,
    ⟨(some 5), none, .ca 108 [(.t 4), (.c (.int .i64 1)), (.c (.int .i64 64))]⟩,
    ⟨(some 6), none, .mv (.t 5)⟩,
    ⟨(some 7), (some (6, true)), .fa (.t 1) 1⟩,
    ⟨(some 8), (some (6, true)), .ld (.t 7) 1 false⟩,
    ⟨(some 9), (some (6, true)), .ca 108 [(.t 8), (.c (.int .i64 1)), (.c (.int .i64 4096))]⟩,
    ⟨(some 10), none, .pk (.t 6) (.t 9) (.c (.bool false))⟩,
    ⟨(some 11), none, .mv (.t 10)⟩,
    ⟨(some 12), (some (11, true)), .fa (.t 1) 2⟩,
    ⟨(some 13), (some (11, true)), .ld (.t 12) 1 false⟩,
    ⟨(some 14), (some (11, true)), .ca 108 [(.t 13), (.c (.int .i64 8)), (.c (.int .i64 1024))]⟩,
    ⟨(some 15), none, .pk (.t 11) (.t 14) (.c (.bool false))⟩,
    ⟨(some 16), none, .mv (.t 15)⟩,
    ⟨(some 17), (some (16, true)), .fa (.t 1) 2⟩,
    ⟨(some 18), (some (16, true)), .ld (.t 17) 1 false⟩,
    ⟨(some 19), (some (16, true)), .ib .rem (.t 18) (.c (.int .i64 8))⟩,
    ⟨(some 20), (some (16, true)), .ib .eql (.t 19) (.c (.int .i64 0))⟩,
    ⟨(some 21), none, .pk (.t 16) (.t 20) (.c (.bool false))⟩,
    ⟨(some 22), none, .mv (.t 21)⟩,
    ⟨(some 23), (some (22, true)), .fa (.t 1) 3⟩,
    ⟨(some 24), (some (22, true)), .ld (.t 23) 1 false⟩,
    ⟨(some 25), (some (22, true)), .ca 108 [(.t 24), (.c (.int .i64 1)), (.c (.int .i64 4096))]⟩,
    ⟨(some 26), none, .pk (.t 22) (.t 25) (.c (.bool false))⟩,
    ⟨(some 27), none, .mv (.t 26)⟩,
    ⟨(some 28), (some (27, true)), .fa (.t 1) 4⟩,
    ⟨(some 29), (some (27, true)), .ld (.t 28) 1 false⟩,
    ⟨(some 30), (some (27, true)), .ca 108 [(.t 29), (.c (.int .i64 0)), (.c (.int .i64 64))]⟩,
    ⟨(some 31), none, .pk (.t 27) (.t 30) (.c (.bool false))⟩,
    ⟨(some 32), none, .mv (.t 31)⟩,
    ⟨(some 33), (some (32, true)), .fa (.t 1) 5⟩,
    ⟨(some 34), (some (32, true)), .ld (.t 33) 1 false⟩,
    ⟨(some 35), (some (32, true)), .ca 108 [(.t 34), (.c (.int .i64 1)), (.c (.int .i64 8))]⟩,
    ⟨(some 36), none, .pk (.t 32) (.t 35) (.c (.bool false))⟩,
    ⟨(some 2), none, .mv (.t 36)⟩])
  .rt))⟩
theorem k159 : cF Tryz.prog Tryz.f159 = some c159 := by kernel_rfl
/-- (*rundale/cells.Cells).Load -/
def c160 : Fu := ⟨20, [.t 4, .t 5],
  (.sq (.rg [⟨(some 4), none, .mv (.c (.int .u64 0))⟩,
    ⟨(some 5), none, .mv (.c (.int .i64 0))⟩])
  (.sq (.sq (.rg [⟨(some 6), none, .mv (.t 0)⟩,
    ⟨(some 7), none, .mv (.t 1)⟩,
    ⟨(some 8), none, .ca 110 [(.t 6), (.t 7)]⟩,
    ⟨(some 9), none, .nt (.t 8)⟩])
  (.cd (.t 9)
  (.sq (.rg [⟨(some 4), none, .mv (.c (.int .u64 0))⟩,
    ⟨(some 5), none, .mv (.c (.int .i64 1))⟩])
  .rt)
  .sk))
  (.sq (.rg [⟨(some 10), none, .mv (.t 0)⟩,
    ⟨(some 11), none, .mv (.t 1)⟩,
    ⟨(some 12), none, .mv (.t 0)⟩,
    ⟨(some 13), none, .nc (.t 12)⟩,
    ⟨(some 14), none, .fa (.t 13) 0⟩,
    ⟨(some 15), none, .ld (.t 14) 1 false⟩,
    ⟨(some 16), none, .mv (.t 1)⟩,
    ⟨(some 17), none, .ia (.t 15) (.t 16) 1⟩,
    ⟨(some 18), none, .ld (.t 17) 1 false⟩,
    ⟨(some 19), none, .ca 185 [(.t 10), (.c (.int .i64 1)), (.t 11), (.t 18), (.c (.bool true))]⟩,
    ⟨(some 4), none, .mv (.t 19)⟩,
    ⟨(some 5), none, .mv (.c (.int .i64 0))⟩])
  .rt)))⟩
theorem k160 : cF Tryz.prog Tryz.f160 = some c160 := by kernel_rfl
/-- (*rundale/stash.Stash).Take -/
def c162 : Fu := ⟨35, [.t 2, .t 3],
  (.sq (.rg [⟨(some 2), none, .mv (.c (.int .i64 0))⟩,
    ⟨(some 3), none, .mv (.c (.bool false))⟩])
  (.sq (.sq (.rg [⟨(some 6), none, .mv (.t 0)⟩,
    ⟨(some 7), none, .nc (.t 6)⟩,
    ⟨(some 8), none, .fa (.t 7) 1⟩,
    ⟨(some 9), none, .ld (.t 8) 1 false⟩,
    ⟨(some 10), none, .len (.t 9)⟩,
    ⟨(some 11), none, .ib .eql (.t 10) (.c (.int .i64 0))⟩])
  (.cd (.t 11)
  (.sq (.rg [⟨(some 2), none, .mv (.c (.int .i64 0))⟩,
    ⟨(some 3), none, .mv (.c (.bool false))⟩])
  .rt)
  .sk))
  (.sq (.rg [⟨(some 12), none, .mv (.t 0)⟩,
    ⟨(some 13), none, .nc (.t 12)⟩,
    ⟨(some 14), none, .fa (.t 13) 1⟩,
    ⟨(some 15), none, .ld (.t 14) 1 false⟩,
    ⟨(some 16), none, .len (.t 15)⟩,
    ⟨(some 17), none, .ib .sub (.t 16) (.c (.int .i64 1))⟩,
    ⟨(some 4), none, .mv (.t 17)⟩])
  (.sq (.rg [⟨(some 18), none, .mv (.t 0)⟩,
    ⟨(some 19), none, .nc (.t 18)⟩,
    ⟨(some 20), none, .fa (.t 19) 1⟩,
    ⟨(some 21), none, .ld (.t 20) 1 false⟩,
    ⟨(some 22), none, .mv (.t 4)⟩,
    ⟨(some 23), none, .ia (.t 21) (.t 22) 1⟩,
    ⟨(some 24), none, .ld (.t 23) 1 false⟩,
    ⟨(some 5), none, .mv (.t 24)⟩])
  (.sq (.rg [⟨(some 25), none, .mv (.t 0)⟩,
    ⟨(some 26), none, .mv (.t 0)⟩,
    ⟨(some 27), none, .nc (.t 26)⟩,
    ⟨(some 28), none, .fa (.t 27) 1⟩,
    ⟨(some 29), none, .ld (.t 28) 1 false⟩,
    ⟨(some 30), none, .mv (.t 4)⟩,
    ⟨(some 31), none, .sl 1 (.t 29) none (some (.t 30)) none⟩,
    ⟨(some 32), none, .nc (.t 25)⟩,
    ⟨(some 33), none, .fa (.t 32) 1⟩,
    ⟨none, none, .st (.t 33) (.t 31) 1⟩])
  (.sq (.rg [⟨(some 34), none, .mv (.t 5)⟩,
    ⟨(some 2), none, .mv (.t 34)⟩,
    ⟨(some 3), none, .mv (.c (.bool true))⟩])
  .rt))))))⟩
theorem k162 : cF Tryz.prog Tryz.f162 = some c162 := by kernel_rfl
/-- (*rundale/stack.Stack).Pop -/
def c163 : Fu := ⟨19, [.t 4],
  (.sq (.rg [⟨(some 4), none, .mv (.c (.pointer none))⟩])
  (.sq (.rg [⟨(some 6), none, .mv (.t 0)⟩,
    ⟨(some 7), none, .mv (.t 1)⟩,
    ⟨(some 8), none, .mm true (.t 7) (.c (.int .i64 1))⟩,
    ⟨(some 9), none, .mm false (.t 8) (.c (.int .i64 8))⟩,
    ⟨(some 10), none, .bd [.nilFunc, .nilFunc, .nilFunc, .nilFunc, (.int .i64 0), (.pointer none), (.int .i64 0), (.int .i64 0), (.int .u64 0), (.slice none 0 0)] [(5, 1, (.t 6)), (6, 1, (.t 9))]⟩,
    ⟨(some 11), none, .bx 247 (.t 10)⟩,
    ⟨(some 5), none, .mv (.t 11)⟩])
  (.sq (.rg [⟨(some 12), none, .mv (.t 5)⟩,
    ⟨(some 13), none, .nc (.t 12)⟩,
    ⟨(some 14), none, .fa (.t 13) 0⟩,
    ⟨(some 15), none, .mv (.t 5)⟩,
    ⟨(some 16), none, .mf (.func 188) [(.t 15)] []⟩,
    ⟨(some 17), none, .ca 114 [(.t 14), (.t 16)]⟩])
  (.sq (.rg [⟨(some 18), none, .mv (.t 5)⟩,
    ⟨(some 4), none, .mv (.t 18)⟩])
  .rt))))⟩
theorem k163 : cF Tryz.prog Tryz.f163 = some c163 := by kernel_rfl
/-- (*rundale/stack.Pop).Step -/
def c164 : Fu := ⟨7, [.t 2],
  (.sq (.rg [⟨(some 2), none, .mv (.c (.bool false))⟩])
  (.sq (.rg [⟨(some 3), none, .mv (.t 0)⟩,
    ⟨(some 4), none, .nc (.t 3)⟩,
    ⟨(some 5), none, .fa (.t 4) 0⟩,
    ⟨(some 6), none, .ca 93 [(.t 5)]⟩,
    ⟨(some 2), none, .mv (.t 6)⟩])
  .rt))⟩
theorem k164 : cF Tryz.prog Tryz.f164 = some c164 := by kernel_rfl
/-- (*rundale/stack.Pop).Done -/
def c165 : Fu := ⟨7, [.t 2],
  (.sq (.rg [⟨(some 2), none, .mv (.c (.bool false))⟩])
  (.sq (.rg [⟨(some 3), none, .mv (.t 0)⟩,
    ⟨(some 4), none, .nc (.t 3)⟩,
    ⟨(some 5), none, .fa (.t 4) 0⟩,
    ⟨(some 6), none, .ca 97 [(.t 5)]⟩,
    ⟨(some 2), none, .mv (.t 6)⟩])
  .rt))⟩
theorem k165 : cF Tryz.prog Tryz.f165 = some c165 := by kernel_rfl
/-- (*rundale/supply.Take).popped -/
def c166 : Fu := ⟨27, [],
  (.sq (.rg [⟨(some 3), none, .mv (.t 0)⟩,
    ⟨(some 4), none, .nc (.t 3)⟩,
    ⟨(some 5), none, .fa (.t 4) 6⟩,
    ⟨(some 6), none, .ld (.t 5) 1 false⟩,
    ⟨(some 7), none, .ca 189 [(.t 6)]⟩,
    ⟨(some 2), none, .mv (.t 7)⟩])
  (.sq (.rg [⟨(some 8), none, .mv (.t 2)⟩,
    ⟨(some 9), none, .len (.t 8)⟩,
    ⟨(some 10), none, .ib .gtr (.t 9) (.c (.int .i64 0))⟩])
  (.cd (.t 10)
  (.sq (.rg [⟨(some 11), none, .mv (.t 0)⟩,
    ⟨(some 12), none, .mv (.t 0)⟩,
    ⟨(some 13), none, .mv (.t 2)⟩,
    ⟨(some 14), none, .ia (.t 13) (.c (.int .i64 0)) 1⟩,
    ⟨(some 15), none, .ld (.t 14) 1 false⟩,
    ⟨(some 16), none, .nc (.t 11)⟩,
    ⟨(some 17), none, .fa (.t 16) 7⟩,
    ⟨none, none, .st (.t 17) (.t 15) 1⟩,
    ⟨(some 18), none, .nc (.t 12)⟩,
    ⟨(some 19), none, .fa (.t 18) 9⟩,
    ⟨none, none, .st (.t 19) (.c (.bool true)) 1⟩])
  (.rd [⟨0, 0, [0], ⟨(some 20), none, .mv (.t 0)⟩⟩,
    ⟨1, 1, [20], ⟨(some 21), none, .nc (.t 20)⟩⟩,
    ⟨2, 3, [21], ⟨(some 22), none, .fa (.t 21) 5⟩⟩,
    ⟨3, 7, [22], ⟨(some 23), none, .ld (.t 22) 1 false⟩⟩,
    ⟨4, 0, [2], ⟨(some 24), none, .mv (.t 2)⟩⟩,
    ⟨5, 16, [24], ⟨(some 25), none, .sl 1 (.t 24) (some (.c (.int .i64 1))) none none⟩⟩,
    ⟨6, 63, [23, 25], ⟨(some 26), none, .ca 20 [(.t 23), (.t 25)]⟩⟩]))
  .sk)))⟩
theorem k166 : cF Tryz.prog Tryz.f166 = some c166 := by kernel_rfl
/-- rundale/stack.New$1 -/
def c167 : Fu := ⟨12, [.t 3],
  (.sq (.rg [⟨(some 3), none, .mv (.c (.bool false))⟩])
  (.sq (.rg [⟨(some 4), none, .mv (.t 0)⟩,
    ⟨(some 5), none, .ib .geq (.t 4) (.c (.int .i64 0))⟩,
    ⟨(some 6), none, .mv (.t 5)⟩,
    ⟨(some 7), (some (6, true)), .mv (.t 0)⟩,
    ⟨(some 8), (some (6, true)), .ld (.t 1) 1 false⟩,
    ⟨(some 9), (some (6, true)), .ca 58 [(.t 8)]⟩,
    ⟨(some 10), (some (6, true)), .ib .lss (.t 7) (.t 9)⟩,
    ⟨(some 11), none, .pk (.t 6) (.t 10) (.c (.bool false))⟩,
    ⟨(some 3), none, .mv (.t 11)⟩])
  .rt))⟩
theorem k167 : cF Tryz.prog Tryz.f167 = some c167 := by kernel_rfl
/-- rundale/word.PutHead -/
def c168 : Fu := ⟨31, [.t 2, .t 3],
  (.sq (.rg [⟨(some 1), none, .bx 212 (.t 0)⟩,
    ⟨(some 2), none, .mv (.c (.int .u64 0))⟩,
    ⟨(some 3), none, .mv (.c (.bool false))⟩])
  (.sq (.sq (.rg [⟨(some 6), none, .fa (.t 1) 0⟩,
    ⟨(some 7), none, .ld (.t 6) 1 false⟩,
    ⟨(some 8), none, .ca 190 [(.t 7), (.c (.int .i64 (-1))), (.c (.int .i64 4294967294))]⟩,
    ⟨(some 9), none, .nt (.t 8)⟩,
    ⟨(some 10), none, .mv (.t 9)⟩,
    ⟨(some 11), (some (10, false)), .fa (.t 1) 1⟩,
    ⟨(some 12), (some (10, false)), .ld (.t 11) 1 false⟩,
    ⟨(some 13), (some (10, false)), .ca 190 [(.t 12), (.c (.int .i64 0)), (.c (.int .i64 4294967295))]⟩,
    ⟨(some 14), (some (10, false)), .nt (.t 13)⟩,
    ⟨(some 15), none, .pk (.t 10) (.c (.bool true)) (.t 14)⟩])
  (.cd (.t 15)
  (.sq (.rg [⟨(some 2), none, .mv (.c (.int .u64 0))⟩,
    ⟨(some 3), none, .mv (.c (.bool false))⟩])
  .rt)
  .sk))
  (.sq (.rg [⟨(some 17), none, .fa (.t 1) 0⟩,
    ⟨(some 18), none, .ld (.t 17) 1 false⟩,
    ⟨(some 19), none, .ib .add (.t 18) (.c (.int .i64 1))⟩,
    ⟨(some 20), none, .cv .u64 (.t 19)⟩,
    ⟨(some 21), none, .ca 191 [(.c (.int .u64 0)), (.c (.int .i64 0)), (.c (.int .i64 32)), (.t 20)]⟩,
    ⟨(some 16), none, .mv (.t 21)⟩,
    ⟨(some 22), none, .ex (.t 16) 0⟩,
    ⟨(some 23), none, .ex (.t 16) 1⟩,
    ⟨(some 4), none, .mv (.t 22)⟩,
    ⟨(some 5), none, .mv (.t 23)⟩])
  (.sq (.rg [⟨(some 24), none, .mv (.t 4)⟩,
    ⟨(some 25), none, .fa (.t 1) 1⟩,
    ⟨(some 26), none, .ld (.t 25) 1 false⟩,
    ⟨(some 27), none, .cv .u64 (.t 26)⟩,
    ⟨(some 28), none, .ca 191 [(.t 24), (.c (.int .i64 32)), (.c (.int .i64 32)), (.t 27)]⟩,
    ⟨(some 29), none, .ex (.t 28) 0⟩,
    ⟨(some 30), none, .ex (.t 28) 1⟩,
    ⟨(some 2), none, .mv (.t 29)⟩,
    ⟨(some 3), none, .mv (.t 30)⟩])
  .rt))))⟩
theorem k168 : cF Tryz.prog Tryz.f168 = some c168 := by kernel_rfl
/-- rundale/rundaleref1.PutHead -/
def c169 : Fu := ⟨31, [.t 2, .t 3],
  (.sq (.rg [⟨(some 1), none, .bx 219 (.t 0)⟩,
    ⟨(some 2), none, .mv (.c (.int .u64 0))⟩,
    ⟨(some 3), none, .mv (.c (.bool false))⟩])
  (.sq (.sq (.rg [⟨(some 4), none, .fa (.t 1) 0⟩,
    ⟨(some 5), none, .ld (.t 4) 1 false⟩,
    ⟨(some 6), none, .ib .lss (.t 5) (.c (.int .i64 (-1)))⟩,
    ⟨(some 7), none, .mv (.t 6)⟩,
    ⟨(some 8), (some (7, false)), .fa (.t 1) 0⟩,
    ⟨(some 9), (some (7, false)), .ld (.t 8) 1 false⟩,
    ⟨(some 10), (some (7, false)), .ib .geq (.t 9) (.c (.int .i64 4294967295))⟩,
    ⟨(some 11), none, .pk (.t 7) (.c (.bool true)) (.t 10)⟩,
    ⟨(some 12), none, .mv (.t 11)⟩,
    ⟨(some 13), (some (12, false)), .fa (.t 1) 1⟩,
    ⟨(some 14), (some (12, false)), .ld (.t 13) 1 false⟩,
    ⟨(some 15), (some (12, false)), .ib .lss (.t 14) (.c (.int .i64 0))⟩,
    ⟨(some 16), none, .pk (.t 12) (.c (.bool true)) (.t 15)⟩,
    ⟨(some 17), none, .mv (.t 16)⟩,
    ⟨(some 18), (some (17, false)), .fa (.t 1) 1⟩,
    ⟨(some 19), (some (17, false)), .ld (.t 18) 1 false⟩,
    ⟨(some 20), (some (17, false)), .ib .gtr (.t 19) (.c (.int .i64 4294967295))⟩,
    ⟨(some 21), none, .pk (.t 17) (.c (.bool true)) (.t 20)⟩])
  (.cd (.t 21)
  (.sq (.rg [⟨(some 2), none, .mv (.c (.int .u64 0))⟩,
    ⟨(some 3), none, .mv (.c (.bool false))⟩])
  .rt)
  .sk))
  (.sq (.rg [⟨(some 22), none, .fa (.t 1) 1⟩,
    ⟨(some 23), none, .ld (.t 22) 1 false⟩,
    ⟨(some 24), none, .cv .u64 (.t 23)⟩,
    ⟨(some 25), none, .ib .mul (.t 24) (.c (.int .u64 4294967296))⟩,
    ⟨(some 26), none, .fa (.t 1) 0⟩,
    ⟨(some 27), none, .ld (.t 26) 1 false⟩,
    ⟨(some 28), none, .ib .add (.t 27) (.c (.int .i64 1))⟩,
    ⟨(some 29), none, .cv .u64 (.t 28)⟩,
    ⟨(some 30), none, .ib .add (.t 25) (.t 29)⟩,
    ⟨(some 2), none, .mv (.t 30)⟩,
    ⟨(some 3), none, .mv (.c (.bool true))⟩])
  .rt)))⟩
theorem k169 : cF Tryz.prog Tryz.f169 = some c169 := by kernel_rfl
/-- slices.Contains[[]int,int] -/
def c170 : Fu := ⟨9, [.t 4],
  (.sq (.rg [⟨(some 4), none, .mv (.c (.bool false))⟩])
  (.sq (.rg [⟨(some 5), none, .mv (.t 0)⟩,
    ⟨(some 6), none, .mv (.t 1)⟩,
    ⟨(some 7), none, .ca 192 [(.t 5), (.t 6)]⟩,
    ⟨(some 8), none, .ib .geq (.t 7) (.c (.int .i64 0))⟩,
    ⟨(some 4), none, .mv (.t 8)⟩])
  .rt))⟩
theorem k170 : cF Tryz.prog Tryz.f170 = some c170 := by kernel_rfl
/-- (*rundale/stack.Push).load -/
def c171 : Fu := ⟨29, [],
  (.sq (.rd [⟨0, 0, [0], ⟨(some 3), none, .mv (.t 0)⟩⟩,
    ⟨1, 0, [0], ⟨(some 4), none, .mv (.t 0)⟩⟩,
    ⟨2, 2, [4], ⟨(some 5), none, .nc (.t 4)⟩⟩,
    ⟨3, 6, [5], ⟨(some 6), none, .fa (.t 5) 5⟩⟩,
    ⟨4, 14, [6], ⟨(some 7), none, .ld (.t 6) 1 false⟩⟩,
    ⟨5, 30, [7], ⟨(some 8), none, .nc (.t 7)⟩⟩,
    ⟨6, 62, [8], ⟨(some 9), none, .fa (.t 8) 0⟩⟩,
    ⟨7, 126, [9], ⟨(some 10), none, .ld (.t 9) 1 false⟩⟩,
    ⟨8, 0, [0], ⟨(some 11), none, .mv (.t 0)⟩⟩,
    ⟨9, 256, [11], ⟨(some 12), none, .nc (.t 11)⟩⟩,
    ⟨10, 768, [12], ⟨(some 13), none, .fa (.t 12) 5⟩⟩,
    ⟨11, 1792, [13], ⟨(some 14), none, .ld (.t 13) 1 false⟩⟩,
    ⟨12, 3840, [14], ⟨(some 15), none, .nc (.t 14)⟩⟩,
    ⟨13, 7936, [15], ⟨(some 16), none, .fa (.t 15) 1⟩⟩,
    ⟨14, 16128, [16], ⟨(some 17), none, .ld (.t 16) 1 false⟩⟩,
    ⟨15, 32766, [10, 17], ⟨(some 18), none, .ca 160 [(.t 10), (.t 17)]⟩⟩,
    ⟨16, 65534, [18], ⟨(some 2), none, .mv (.t 18)⟩⟩,
    ⟨17, 131070, [2], ⟨(some 19), none, .ex (.t 2) 0⟩⟩,
    ⟨18, 131070, [2], ⟨(some 20), none, .ex (.t 2) 1⟩⟩,
    ⟨19, 262143, [3], ⟨(some 21), none, .nc (.t 3)⟩⟩,
    ⟨20, 786431, [21], ⟨(some 22), none, .fa (.t 21) 8⟩⟩,
    ⟨21, 1835007, [22, 19], ⟨none, none, .st (.t 22) (.t 19) 1⟩⟩])
  (.rg [⟨(some 23), none, .mv (.t 0)⟩,
    ⟨(some 24), none, .nc (.t 23)⟩,
    ⟨(some 25), none, .fa (.t 24) 0⟩,
    ⟨(some 26), none, .mv (.t 0)⟩,
    ⟨(some 27), none, .mf (.func 193) [(.t 26)] []⟩,
    ⟨(some 28), none, .ca 114 [(.t 25), (.t 27)]⟩]))⟩
theorem k171 : cF Tryz.prog Tryz.f171 = some c171 := by kernel_rfl
/-- (*rundale/stack.Push).link -/
def c172 : Fu := ⟨71, [],
  (.sq (.rd [⟨0, 0, [0], ⟨(some 2), none, .mv (.t 0)⟩⟩,
    ⟨1, 1, [2], ⟨(some 3), none, .nc (.t 2)⟩⟩,
    ⟨2, 3, [3], ⟨(some 4), none, .fa (.t 3) 5⟩⟩,
    ⟨3, 7, [4], ⟨(some 5), none, .ld (.t 4) 1 false⟩⟩,
    ⟨4, 15, [5], ⟨(some 6), none, .nc (.t 5)⟩⟩,
    ⟨5, 31, [6], ⟨(some 7), none, .fa (.t 6) 0⟩⟩,
    ⟨6, 63, [7], ⟨(some 8), none, .ld (.t 7) 1 false⟩⟩,
    ⟨7, 0, [0], ⟨(some 9), none, .mv (.t 0)⟩⟩,
    ⟨8, 128, [9], ⟨(some 10), none, .nc (.t 9)⟩⟩,
    ⟨9, 384, [10], ⟨(some 11), none, .fa (.t 10) 5⟩⟩,
    ⟨10, 896, [11], ⟨(some 12), none, .ld (.t 11) 1 false⟩⟩,
    ⟨11, 1920, [12], ⟨(some 13), none, .nc (.t 12)⟩⟩,
    ⟨12, 3968, [13], ⟨(some 14), none, .fa (.t 13) 2⟩⟩,
    ⟨13, 8064, [14], ⟨(some 15), none, .ld (.t 14) 1 false⟩⟩,
    ⟨14, 0, [0], ⟨(some 16), none, .mv (.t 0)⟩⟩,
    ⟨15, 16384, [16], ⟨(some 17), none, .nc (.t 16)⟩⟩,
    ⟨16, 49152, [17], ⟨(some 18), none, .fa (.t 17) 6⟩⟩,
    ⟨17, 114688, [18], ⟨(some 19), none, .ld (.t 18) 1 false⟩⟩,
    ⟨18, 0, [0], ⟨(some 20), none, .mv (.t 0)⟩⟩,
    ⟨19, 262144, [20], ⟨(some 21), none, .nc (.t 20)⟩⟩,
    ⟨20, 786432, [21], ⟨(some 22), none, .fa (.t 21) 7⟩⟩,
    ⟨21, 1835008, [22], ⟨(some 23), none, .ld (.t 22) 1 false⟩⟩,
    ⟨22, 4177920, [19, 23], ⟨(some 24), none, .ia (.t 19) (.t 23) 1⟩⟩,
    ⟨23, 8372224, [24], ⟨(some 25), none, .ld (.t 24) 1 false⟩⟩,
    ⟨24, 16777088, [15, 25], ⟨(some 26), none, .ib .add (.t 15) (.t 25)⟩⟩,
    ⟨25, 0, [0], ⟨(some 27), none, .mv (.t 0)⟩⟩,
    ⟨26, 33554432, [27], ⟨(some 28), none, .nc (.t 27)⟩⟩,
    ⟨27, 100663296, [28], ⟨(some 29), none, .fa (.t 28) 6⟩⟩,
    ⟨28, 234881024, [29], ⟨(some 30), none, .ld (.t 29) 1 false⟩⟩,
    ⟨29, 0, [0], ⟨(some 31), none, .mv (.t 0)⟩⟩,
    ⟨30, 536870912, [31], ⟨(some 32), none, .nc (.t 31)⟩⟩,
    ⟨31, 1610612736, [32], ⟨(some 33), none, .fa (.t 32) 7⟩⟩,
    ⟨32, 3758096384, [33], ⟨(some 34), none, .ld (.t 33) 1 false⟩⟩,
    ⟨33, 8053063680, [34], ⟨(some 35), none, .ib .add (.t 34) (.c (.int .i64 1))⟩⟩,
    ⟨34, 17146314752, [30, 35], ⟨(some 36), none, .ia (.t 30) (.t 35) 1⟩⟩,
    ⟨35, 34326183936, [36], ⟨(some 37), none, .ld (.t 36) 1 false⟩⟩,
    ⟨36, 68685922304, [37], ⟨(some 38), none, .ib .add (.t 37) (.c (.int .i64 1))⟩⟩,
    ⟨37, 137405399040, [38], ⟨(some 39), none, .cv .u64 (.t 38)⟩⟩,
    ⟨38, 274877906943, [8, 26, 39], ⟨(some 40), none, .ca 187 [(.t 8), (.t 26), (.t 39)]⟩⟩])
  (.sq (.rg [⟨(some 41), none, .mv (.t 0)⟩,
    ⟨(some 42), none, .nc (.t 41)⟩,
    ⟨(some 43), none, .fa (.t 42) 7⟩,
    ⟨(some 44), none, .ld (.t 43) 1 false⟩,
    ⟨(some 45), none, .ib .add (.t 44) (.c (.int .i64 1))⟩,
    ⟨(some 46), none, .nc (.t 41)⟩,
    ⟨(some 47), none, .fa (.t 46) 7⟩,
    ⟨none, none, .st (.t 47) (.t 45) 1⟩])
  (.sq (.rd [⟨0, 0, [0], ⟨(some 48), none, .mv (.t 0)⟩⟩,
    ⟨1, 1, [48], ⟨(some 49), none, .nc (.t 48)⟩⟩,
    ⟨2, 3, [49], ⟨(some 50), none, .fa (.t 49) 7⟩⟩,
    ⟨3, 7, [50], ⟨(some 51), none, .ld (.t 50) 1 false⟩⟩,
    ⟨4, 0, [0], ⟨(some 52), none, .mv (.t 0)⟩⟩,
    ⟨5, 16, [52], ⟨(some 53), none, .nc (.t 52)⟩⟩,
    ⟨6, 48, [53], ⟨(some 54), none, .fa (.t 53) 6⟩⟩,
    ⟨7, 112, [54], ⟨(some 55), none, .ld (.t 54) 1 false⟩⟩,
    ⟨8, 240, [55], ⟨(some 56), none, .len (.t 55)⟩⟩,
    ⟨9, 496, [56], ⟨(some 57), none, .ib .sub (.t 56) (.c (.int .i64 1))⟩⟩,
    ⟨10, 1023, [51, 57], ⟨(some 58), none, .ib .lss (.t 51) (.t 57)⟩⟩])
  (.cd (.t 58)
  (.rg [⟨(some 59), none, .mv (.t 0)⟩,
    ⟨(some 60), none, .nc (.t 59)⟩,
    ⟨(some 61), none, .fa (.t 60) 0⟩,
    ⟨(some 62), none, .mv (.t 0)⟩,
    ⟨(some 63), none, .mf (.func 172) [(.t 62)] []⟩,
    ⟨(some 64), none, .ca 114 [(.t 61), (.t 63)]⟩])
  (.rg [⟨(some 65), none, .mv (.t 0)⟩,
    ⟨(some 66), none, .nc (.t 65)⟩,
    ⟨(some 67), none, .fa (.t 66) 0⟩,
    ⟨(some 68), none, .mv (.t 0)⟩,
    ⟨(some 69), none, .mf (.func 171) [(.t 68)] []⟩,
    ⟨(some 70), none, .ca 114 [(.t 67), (.t 69)]⟩])))))⟩
theorem k172 : cF Tryz.prog Tryz.f172 = some c172 := by kernel_rfl
/-- rundale/bits.Get -/
def c173 : Fu := ⟨17, [.t 6],
  (.sq (.rg [⟨(some 6), none, .mv (.c (.int .u64 0))⟩])
  (.sq (.sq (.rg [⟨(some 7), none, .mv (.t 1)⟩,
    ⟨(some 8), none, .mv (.t 2)⟩,
    ⟨(some 9), none, .ca 194 [(.t 7), (.t 8)]⟩,
    ⟨(some 10), none, .nt (.t 9)⟩])
  (.cd (.t 10)
  (.sq (.rg [⟨(some 6), none, .mv (.c (.int .u64 0))⟩])
  .rt)
  .sk))
  (.sq (.rd [⟨0, 0, [0], ⟨(some 11), none, .mv (.t 0)⟩⟩,
    ⟨1, 0, [1], ⟨(some 12), none, .mv (.t 1)⟩⟩,
    ⟨2, 3, [11, 12], ⟨(some 13), none, .ib .shr (.t 11) (.t 12)⟩⟩,
    ⟨3, 0, [2], ⟨(some 14), none, .mv (.t 2)⟩⟩,
    ⟨4, 8, [14], ⟨(some 15), none, .ca 195 [(.t 14)]⟩⟩,
    ⟨5, 31, [13, 15], ⟨(some 16), none, .ib .and (.t 13) (.t 15)⟩⟩,
    ⟨6, 63, [16], ⟨(some 6), none, .mv (.t 16)⟩⟩])
  .rt)))⟩
theorem k173 : cF Tryz.prog Tryz.f173 = some c173 := by kernel_rfl
/-- (*rundale/rundaleref5.Stash).Take -/
def c174 : Fu := ⟨33, [.t 2, .t 3],
  (.sq (.rg [⟨(some 2), none, .mv (.c (.int .i64 0))⟩,
    ⟨(some 3), none, .mv (.c (.bool false))⟩])
  (.sq (.rg [⟨(some 6), none, .mv (.t 0)⟩,
    ⟨(some 7), none, .nc (.t 6)⟩,
    ⟨(some 8), none, .fa (.t 7) 1⟩,
    ⟨(some 9), none, .ld (.t 8) 1 false⟩,
    ⟨(some 10), none, .len (.t 9)⟩,
    ⟨(some 4), none, .mv (.t 10)⟩])
  (.sq (.sq (.rg [⟨(some 11), none, .mv (.t 4)⟩,
    ⟨(some 12), none, .ib .eql (.t 11) (.c (.int .i64 0))⟩])
  (.cd (.t 12)
  (.sq (.rg [⟨(some 2), none, .mv (.c (.int .i64 0))⟩,
    ⟨(some 3), none, .mv (.c (.bool false))⟩])
  .rt)
  .sk))
  (.sq (.rg [⟨(some 13), none, .mv (.t 0)⟩,
    ⟨(some 14), none, .nc (.t 13)⟩,
    ⟨(some 15), none, .fa (.t 14) 1⟩,
    ⟨(some 16), none, .ld (.t 15) 1 false⟩,
    ⟨(some 17), none, .mv (.t 4)⟩,
    ⟨(some 18), none, .ib .sub (.t 17) (.c (.int .i64 1))⟩,
    ⟨(some 19), none, .ia (.t 16) (.t 18) 1⟩,
    ⟨(some 20), none, .ld (.t 19) 1 false⟩,
    ⟨(some 5), none, .mv (.t 20)⟩])
  (.sq (.rg [⟨(some 21), none, .mv (.t 0)⟩,
    ⟨(some 22), none, .mv (.t 0)⟩,
    ⟨(some 23), none, .nc (.t 22)⟩,
    ⟨(some 24), none, .fa (.t 23) 1⟩,
    ⟨(some 25), none, .ld (.t 24) 1 false⟩,
    ⟨(some 26), none, .mv (.t 4)⟩,
    ⟨(some 27), none, .ib .sub (.t 26) (.c (.int .i64 1))⟩,
    ⟨(some 28), none, .sl 1 (.t 25) none (some (.t 27)) none⟩,
    ⟨(some 29), none, .ap 49 3 1 8 [(.int .i64 0)] (.c (.slice none 0 0)) (.t 28)⟩,
    ⟨(some 30), none, .nc (.t 21)⟩,
    ⟨(some 31), none, .fa (.t 30) 1⟩,
    ⟨none, none, .st (.t 31) (.t 29) 1⟩])
  (.sq (.rg [⟨(some 32), none, .mv (.t 5)⟩,
    ⟨(some 2), none, .mv (.t 32)⟩,
    ⟨(some 3), none, .mv (.c (.bool true))⟩])
  .rt))))))⟩
theorem k174 : cF Tryz.prog Tryz.f174 = some c174 := by kernel_rfl
/-- (*rundale/limbo.bucket).open -/
def c179 : Fu := ⟨20, [.t 4],
  (.sq (.rg [⟨(some 4), none, .mv (.c (.bool false))⟩])
  (.sq (.rg [⟨(some 5), none, .mv (.t 0)⟩,
    ⟨(some 6), none, .nc (.t 5)⟩,
    ⟨(some 7), none, .fa (.t 6) 1⟩,
    ⟨(some 8), none, .ld (.t 7) 1 false⟩,
    ⟨(some 9), none, .len (.t 8)⟩,
    ⟨(some 10), none, .ib .gtr (.t 9) (.c (.int .i64 0))⟩,
    ⟨(some 11), none, .mv (.t 10)⟩,
    ⟨(some 12), (some (11, true)), .mv (.t 0)⟩,
    ⟨(some 13), (some (11, true)), .nc (.t 12)⟩,
    ⟨(some 14), (some (11, true)), .fa (.t 13) 0⟩,
    ⟨(some 15), (some (11, true)), .ld (.t 14) 1 false⟩,
    ⟨(some 16), (some (11, true)), .mv (.t 1)⟩,
    ⟨(some 17), (some (11, true)), .ib .sub (.t 16) (.c (.int .i64 2))⟩,
    ⟨(some 18), (some (11, true)), .ib .leq (.t 15) (.t 17)⟩,
    ⟨(some 19), none, .pk (.t 11) (.t 18) (.c (.bool false))⟩,
    ⟨(some 4), none, .mv (.t 19)⟩])
  .rt))⟩
theorem k179 : cF Tryz.prog Tryz.f179 = some c179 := by kernel_rfl
/-- (*rundale/rundaleref5.Limbo).least -/
def c181 : Fu := ⟨51, [.t 4],
  (.sq (.rg [⟨(some 4), none, .mv (.c (.int .i64 0))⟩])
  (.sq (.rg [⟨(some 5), none, .mv (.c (.int .i64 (-1)))⟩])
  (.sq (.sq (.rg [⟨(some 6), none, .mv (.c (.int .i64 0))⟩])
  (.bl 0
  (.lp
  (.sq (.sq (.rg [⟨(some 7), none, .mv (.t 6)⟩,
    ⟨(some 8), none, .ib .lss (.t 7) (.c (.int .i64 3))⟩])
  (.cd (.t 8)
  .sk
  (.ex 0)))
  (.sq (.bl 1
  (.sq (.rd [⟨0, 0, [0], ⟨(some 11), none, .mv (.t 0)⟩⟩,
    ⟨1, 0, [6], ⟨(some 12), none, .mv (.t 6)⟩⟩,
    ⟨2, 1, [11], ⟨(some 13), none, .nc (.t 11)⟩⟩,
    ⟨3, 5, [13], ⟨(some 14), none, .fa (.t 13) 3⟩⟩,
    ⟨4, 15, [14, 12], ⟨(some 15), none, .iaa (.t 14) (.t 12) 3 1⟩⟩,
    ⟨5, 31, [15], ⟨(some 16), none, .ld (.t 15) 1 false⟩⟩,
    ⟨6, 63, [16], ⟨(some 17), none, .len (.t 16)⟩⟩,
    ⟨7, 127, [17], ⟨(some 18), none, .ib .gtr (.t 17) (.c (.int .i64 0))⟩⟩,
    ⟨8, 255, [18], ⟨(some 19), none, .mv (.t 18)⟩⟩,
    ⟨9, 511, [0, 19], ⟨(some 20), (some (19, true)), .mv (.t 0)⟩⟩,
    ⟨10, 511, [6, 19], ⟨(some 21), (some (19, true)), .mv (.t 6)⟩⟩,
    ⟨11, 1023, [20, 19], ⟨(some 22), (some (19, true)), .nc (.t 20)⟩⟩,
    ⟨12, 3071, [22, 19], ⟨(some 23), (some (19, true)), .fa (.t 22) 0⟩⟩,
    ⟨13, 8191, [23, 21, 19], ⟨(some 24), (some (19, true)), .iaa (.t 23) (.t 21) 3 1⟩⟩,
    ⟨14, 16383, [24, 19], ⟨(some 25), (some (19, true)), .ld (.t 24) 1 false⟩⟩,
    ⟨15, 511, [1, 19], ⟨(some 26), (some (19, true)), .mv (.t 1)⟩⟩,
    ⟨16, 33279, [26, 19], ⟨(some 27), (some (19, true)), .ib .sub (.t 26) (.c (.int .i64 2))⟩⟩,
    ⟨17, 131071, [25, 27, 19], ⟨(some 28), (some (19, true)), .ib .leq (.t 25) (.t 27)⟩⟩,
    ⟨18, 262143, [19, 28], ⟨(some 29), none, .pk (.t 19) (.t 28) (.c (.bool false))⟩⟩,
    ⟨19, 524287, [29], ⟨(some 30), none, .mv (.t 29)⟩⟩,
    ⟨20, 1048575, [5, 30], ⟨(some 31), (some (30, true)), .mv (.t 5)⟩⟩,
    ⟨21, 2097151, [31, 30], ⟨(some 32), (some (30, true)), .ib .lss (.t 31) (.c (.int .i64 0))⟩⟩,
    ⟨22, 4194303, [32, 30], ⟨(some 33), (some (30, true)), .mv (.t 32)⟩⟩,
    ⟨23, 8388607, [0, 33], ⟨(some 34), (some (33, false)), .mv (.t 0)⟩⟩,
    ⟨24, 8388607, [6, 33], ⟨(some 35), (some (33, false)), .mv (.t 6)⟩⟩,
    ⟨25, 16777215, [34, 33], ⟨(some 36), (some (33, false)), .nc (.t 34)⟩⟩,
    ⟨26, 50331647, [36, 33], ⟨(some 37), (some (33, false)), .fa (.t 36) 0⟩⟩,
    ⟨27, 134217727, [37, 35, 33], ⟨(some 38), (some (33, false)), .iaa (.t 37) (.t 35) 3 1⟩⟩,
    ⟨28, 268435455, [38, 33], ⟨(some 39), (some (33, false)), .ld (.t 38) 1 false⟩⟩,
    ⟨29, 8388607, [0, 33], ⟨(some 40), (some (33, false)), .mv (.t 0)⟩⟩,
    ⟨30, 8388607, [5, 33], ⟨(some 41), (some (33, false)), .mv (.t 5)⟩⟩,
    ⟨31, 545259519, [40, 33], ⟨(some 42), (some (33, false)), .nc (.t 40)⟩⟩,
    ⟨32, 2692743167, [42, 33], ⟨(some 43), (some (33, false)), .fa (.t 42) 0⟩⟩,
    ⟨33, 8061452287, [43, 41, 33], ⟨(some 44), (some (33, false)), .iaa (.t 43) (.t 41) 3 1⟩⟩,
    ⟨34, 16651386879, [44, 33], ⟨(some 45), (some (33, false)), .ld (.t 44) 1 false⟩⟩,
    ⟨35, 34359738367, [39, 45, 33], ⟨(some 46), (some (33, false)), .ib .lss (.t 39) (.t 45)⟩⟩,
    ⟨36, 68719476735, [33, 46, 30], ⟨(some 47), (some (30, true)), .pk (.t 33) (.c (.bool true)) (.t 46)⟩⟩,
    ⟨37, 137438953471, [30, 47], ⟨(some 48), none, .pk (.t 30) (.t 47) (.c (.bool false))⟩⟩])
  (.cd (.t 48)
  (.rg [⟨(some 49), none, .mv (.t 6)⟩,
    ⟨(some 5), none, .mv (.t 49)⟩])
  .sk)))
  (.rg [⟨(some 9), none, .mv (.t 6)⟩,
    ⟨(some 10), none, .ib .add (.t 9) (.c (.int .i64 1))⟩,
    ⟨(some 6), none, .mv (.t 10)⟩]))))))
  (.sq (.rg [⟨(some 50), none, .mv (.t 5)⟩,
    ⟨(some 4), none, .mv (.t 50)⟩])
  .rt))))⟩
theorem k181 : cF Tryz.prog Tryz.f181 = some c181 := by kernel_rfl
/-- (*rundale/run.Machine).through -/
def c183 : Fu := ⟨9, [],
  (.sq (.rg [⟨(some 2), none, .mv (.t 0)⟩,
    ⟨(some 3), none, .nc (.t 2)⟩,
    ⟨(some 4), none, .fa (.t 3) 1⟩,
    ⟨(some 5), none, .ld (.t 4) 1 false⟩,
    ⟨(some 6), none, .cl (.t 5) []⟩])
  (.rg [⟨(some 7), none, .mv (.t 0)⟩,
    ⟨(some 8), none, .ca 157 [(.t 7)]⟩]))⟩
theorem k183 : cF Tryz.prog Tryz.f183 = some c183 := by kernel_rfl
/-- (*rundale/cells.Cells).stroke -/
def c185 : Fu := ⟨43, [.t 10],
  (.sq (.rg [⟨(some 10), none, .mv (.c (.int .u64 0))⟩])
  (.sq (.rg [⟨(some 12), none, .mv (.t 0)⟩,
    ⟨(some 13), none, .nc (.t 12)⟩,
    ⟨(some 14), none, .fa (.t 13) 0⟩,
    ⟨(some 15), none, .ld (.t 14) 1 false⟩,
    ⟨(some 16), none, .mv (.t 2)⟩,
    ⟨(some 17), none, .ia (.t 15) (.t 16) 1⟩,
    ⟨(some 18), none, .ld (.t 17) 1 false⟩,
    ⟨(some 11), none, .mv (.t 18)⟩])
  (.sq (.rg [⟨(some 19), none, .mv (.t 0)⟩,
    ⟨(some 20), none, .nc (.t 19)⟩,
    ⟨(some 21), none, .fa (.t 20) 0⟩,
    ⟨(some 22), none, .ld (.t 21) 1 false⟩,
    ⟨(some 23), none, .mv (.t 2)⟩,
    ⟨(some 24), none, .mv (.t 3)⟩,
    ⟨(some 25), none, .ia (.t 22) (.t 23) 1⟩,
    ⟨none, none, .st (.t 25) (.t 24) 1⟩])
  (.sq (.rg [⟨(some 26), none, .mv (.t 0)⟩,
    ⟨(some 27), none, .nc (.t 26)⟩,
    ⟨(some 28), none, .fa (.t 27) 1⟩,
    ⟨(some 29), none, .ld (.t 28) 1 false⟩,
    ⟨(some 30), none, .ib .add (.t 29) (.c (.int .i64 1))⟩,
    ⟨(some 31), none, .nc (.t 26)⟩,
    ⟨(some 32), none, .fa (.t 31) 1⟩,
    ⟨none, none, .st (.t 32) (.t 30) 1⟩])
  (.sq (.rg [⟨(some 33), none, .mv (.t 0)⟩,
    ⟨(some 34), none, .mv (.t 1)⟩,
    ⟨(some 35), none, .mv (.t 2)⟩,
    ⟨(some 36), none, .mv (.t 11)⟩,
    ⟨(some 37), none, .mv (.t 3)⟩,
    ⟨(some 38), none, .mv (.t 4)⟩,
    ⟨(some 39), none, .bd [(.int .i64 0), (.int .i64 0), (.int .u64 0), (.int .u64 0), (.bool false)] [(0, 1, (.t 34)), (1, 1, (.t 35)), (2, 1, (.t 36)), (3, 1, (.t 37)), (4, 1, (.t 38))]⟩,
    ⟨(some 40), none, .nc (.t 33)⟩,
    ⟨(some 41), none, .fa (.t 40) 2⟩,
    ⟨none, none, .st (.t 41) (.t 39) 5⟩])
  (.sq (.rg [⟨(some 42), none, .mv (.t 11)⟩,
    ⟨(some 10), none, .mv (.t 42)⟩])
  .rt))))))⟩
theorem k185 : cF Tryz.prog Tryz.f185 = some c185 := by kernel_rfl
/-- (*rundale/cells.Cells).Store -/
def c187 : Fu := ⟨15, [.t 6],
  (.sq (.rg [⟨(some 6), none, .mv (.c (.int .i64 0))⟩])
  (.sq (.sq (.rg [⟨(some 7), none, .mv (.t 0)⟩,
    ⟨(some 8), none, .mv (.t 1)⟩,
    ⟨(some 9), none, .ca 110 [(.t 7), (.t 8)]⟩,
    ⟨(some 10), none, .nt (.t 9)⟩])
  (.cd (.t 10)
  (.sq (.rg [⟨(some 6), none, .mv (.c (.int .i64 1))⟩])
  .rt)
  .sk))
  (.sq (.rg [⟨(some 11), none, .mv (.t 0)⟩,
    ⟨(some 12), none, .mv (.t 1)⟩,
    ⟨(some 13), none, .mv (.t 2)⟩,
    ⟨(some 14), none, .ca 185 [(.t 11), (.c (.int .i64 2)), (.t 12), (.t 13), (.c (.bool true))]⟩])
  (.sq (.rg [⟨(some 6), none, .mv (.c (.int .i64 0))⟩])
  .rt))))⟩
theorem k187 : cF Tryz.prog Tryz.f187 = some c187 := by kernel_rfl
/-- (*rundale/stack.Pop).load -/
def c188 : Fu := ⟨54, [],
  (.sq (.rd [⟨0, 0, [0], ⟨(some 4), none, .mv (.t 0)⟩⟩,
    ⟨1, 0, [0], ⟨(some 5), none, .mv (.t 0)⟩⟩,
    ⟨2, 2, [5], ⟨(some 6), none, .nc (.t 5)⟩⟩,
    ⟨3, 6, [6], ⟨(some 7), none, .fa (.t 6) 5⟩⟩,
    ⟨4, 14, [7], ⟨(some 8), none, .ld (.t 7) 1 false⟩⟩,
    ⟨5, 30, [8], ⟨(some 9), none, .nc (.t 8)⟩⟩,
    ⟨6, 62, [9], ⟨(some 10), none, .fa (.t 9) 0⟩⟩,
    ⟨7, 126, [10], ⟨(some 11), none, .ld (.t 10) 1 false⟩⟩,
    ⟨8, 0, [0], ⟨(some 12), none, .mv (.t 0)⟩⟩,
    ⟨9, 256, [12], ⟨(some 13), none, .nc (.t 12)⟩⟩,
    ⟨10, 768, [13], ⟨(some 14), none, .fa (.t 13) 5⟩⟩,
    ⟨11, 1792, [14], ⟨(some 15), none, .ld (.t 14) 1 false⟩⟩,
    ⟨12, 3840, [15], ⟨(some 16), none, .nc (.t 15)⟩⟩,
    ⟨13, 7936, [16], ⟨(some 17), none, .fa (.t 16) 1⟩⟩,
    ⟨14, 16128, [17], ⟨(some 18), none, .ld (.t 17) 1 false⟩⟩,
    ⟨15, 32766, [11, 18], ⟨(some 19), none, .ca 160 [(.t 11), (.t 18)]⟩⟩,
    ⟨16, 65534, [19], ⟨(some 3), none, .mv (.t 19)⟩⟩,
    ⟨17, 131070, [3], ⟨(some 20), none, .ex (.t 3) 0⟩⟩,
    ⟨18, 131070, [3], ⟨(some 21), none, .ex (.t 3) 1⟩⟩,
    ⟨19, 262143, [4], ⟨(some 22), none, .nc (.t 4)⟩⟩,
    ⟨20, 786431, [22], ⟨(some 23), none, .fa (.t 22) 8⟩⟩,
    ⟨21, 1835007, [23, 20], ⟨none, none, .st (.t 23) (.t 20) 1⟩⟩])
  (.sq (.rg [⟨(some 24), none, .mv (.t 0)⟩,
    ⟨(some 25), none, .nc (.t 24)⟩,
    ⟨(some 26), none, .fa (.t 25) 9⟩,
    ⟨none, none, .st (.t 26) (.c (.slice none 0 0)) 1⟩])
  (.sq (.rd [⟨0, 0, [0], ⟨(some 27), none, .mv (.t 0)⟩⟩,
    ⟨1, 1, [27], ⟨(some 28), none, .nc (.t 27)⟩⟩,
    ⟨2, 3, [28], ⟨(some 29), none, .fa (.t 28) 5⟩⟩,
    ⟨3, 7, [29], ⟨(some 30), none, .ld (.t 29) 1 false⟩⟩,
    ⟨4, 0, [0], ⟨(some 31), none, .mv (.t 0)⟩⟩,
    ⟨5, 16, [31], ⟨(some 32), none, .nc (.t 31)⟩⟩,
    ⟨6, 48, [32], ⟨(some 33), none, .fa (.t 32) 8⟩⟩,
    ⟨7, 112, [33], ⟨(some 34), none, .ld (.t 33) 1 false⟩⟩,
    ⟨8, 255, [30, 34], ⟨(some 35), none, .ca 77 [(.t 30), (.t 34)]⟩⟩,
    ⟨9, 511, [35], ⟨(some 2), none, .mv (.t 35)⟩⟩])
  (.sq (.rg [⟨(some 36), none, .mv (.t 2)⟩,
    ⟨(some 37), none, .ib .geq (.t 36) (.c (.int .i64 0))⟩])
  (.cd (.t 37)
  (.sq (.rg [⟨(some 38), none, .mv (.t 0)⟩,
    ⟨(some 39), none, .mv (.t 0)⟩,
    ⟨(some 40), none, .nc (.t 39)⟩,
    ⟨(some 41), none, .fa (.t 40) 9⟩,
    ⟨(some 42), none, .ld (.t 41) 1 false⟩,
    ⟨(some 43), none, .mv (.t 2)⟩,
    ⟨(some 44), none, .bs 3 1 [(.int .i64 0)] [(0, 1, (.t 43))]⟩,
    ⟨(some 45), none, .ap 49 3 1 8 [(.int .i64 0)] (.t 42) (.t 44)⟩,
    ⟨(some 46), none, .nc (.t 38)⟩,
    ⟨(some 47), none, .fa (.t 46) 9⟩,
    ⟨none, none, .st (.t 47) (.t 45) 1⟩])
  (.rg [⟨(some 48), none, .mv (.t 0)⟩,
    ⟨(some 49), none, .nc (.t 48)⟩,
    ⟨(some 50), none, .fa (.t 49) 0⟩,
    ⟨(some 51), none, .mv (.t 0)⟩,
    ⟨(some 52), none, .mf (.func 199) [(.t 51)] []⟩,
    ⟨(some 53), none, .ca 114 [(.t 50), (.t 52)]⟩]))
  .sk)))))⟩
theorem k188 : cF Tryz.prog Tryz.f188 = some c188 := by kernel_rfl
/-- (*rundale/stack.Pop).Got -/
def c189 : Fu := ⟨11, [.t 2],
  (.sq (.rg [⟨(some 2), none, .mv (.c (.slice none 0 0))⟩])
  (.sq (.sq (.rg [⟨(some 3), none, .mv (.t 0)⟩,
    ⟨(some 4), none, .ca 165 [(.t 3)]⟩,
    ⟨(some 5), none, .nt (.t 4)⟩])
  (.cd (.t 5)
  (.sq (.rg [⟨(some 2), none, .mv (.c (.slice none 0 0))⟩])
  .rt)
  .sk))
  (.sq (.rg [⟨(some 6), none, .mv (.t 0)⟩,
    ⟨(some 7), none, .nc (.t 6)⟩,
    ⟨(some 8), none, .fa (.t 7) 9⟩,
    ⟨(some 9), none, .ld (.t 8) 1 false⟩,
    ⟨(some 10), none, .ca 134 [(.t 9)]⟩,
    ⟨(some 2), none, .mv (.t 10)⟩])
  .rt)))⟩
theorem k189 : cF Tryz.prog Tryz.f189 = some c189 := by kernel_rfl
/-- rundale/word.within -/
def c190 : Fu := ⟨15, [.t 6],
  (.sq (.rg [⟨(some 6), none, .mv (.c (.bool false))⟩])
  (.sq (.rg [⟨(some 7), none, .mv (.t 0)⟩,
    ⟨(some 8), none, .mv (.t 1)⟩,
    ⟨(some 9), none, .ib .geq (.t 7) (.t 8)⟩,
    ⟨(some 10), none, .mv (.t 9)⟩,
    ⟨(some 11), (some (10, true)), .mv (.t 0)⟩,
    ⟨(some 12), (some (10, true)), .mv (.t 2)⟩,
    ⟨(some 13), (some (10, true)), .ib .leq (.t 11) (.t 12)⟩,
    ⟨(some 14), none, .pk (.t 10) (.t 13) (.c (.bool false))⟩,
    ⟨(some 6), none, .mv (.t 14)⟩])
  .rt))⟩
theorem k190 : cF Tryz.prog Tryz.f190 = some c190 := by kernel_rfl
/-- rundale/bits.Put -/
def c191 : Fu := ⟨30, [.t 8, .t 9],
  (.sq (.rg [⟨(some 8), none, .mv (.c (.int .u64 0))⟩,
    ⟨(some 9), none, .mv (.c (.bool false))⟩])
  (.sq (.sq (.rg [⟨(some 10), none, .mv (.t 1)⟩,
    ⟨(some 11), none, .mv (.t 2)⟩,
    ⟨(some 12), none, .ca 194 [(.t 10), (.t 11)]⟩,
    ⟨(some 13), none, .nt (.t 12)⟩,
    ⟨(some 14), none, .mv (.t 13)⟩,
    ⟨(some 15), (some (14, false)), .mv (.t 3)⟩,
    ⟨(some 16), (some (14, false)), .mv (.t 2)⟩,
    ⟨(some 17), (some (14, false)), .ca 200 [(.t 15), (.t 16)]⟩,
    ⟨(some 18), (some (14, false)), .nt (.t 17)⟩,
    ⟨(some 19), none, .pk (.t 14) (.c (.bool true)) (.t 18)⟩])
  (.cd (.t 19)
  (.sq (.rg [⟨(some 8), none, .mv (.c (.int .u64 0))⟩,
    ⟨(some 9), none, .mv (.c (.bool false))⟩])
  .rt)
  .sk))
  (.sq (.rd [⟨0, 0, [0], ⟨(some 20), none, .mv (.t 0)⟩⟩,
    ⟨1, 0, [2], ⟨(some 21), none, .mv (.t 2)⟩⟩,
    ⟨2, 2, [21], ⟨(some 22), none, .ca 195 [(.t 21)]⟩⟩,
    ⟨3, 0, [1], ⟨(some 23), none, .mv (.t 1)⟩⟩,
    ⟨4, 14, [22, 23], ⟨(some 24), none, .ib .shl (.t 22) (.t 23)⟩⟩,
    ⟨5, 31, [20, 24], ⟨(some 25), none, .ib .andNot (.t 20) (.t 24)⟩⟩,
    ⟨6, 0, [3], ⟨(some 26), none, .mv (.t 3)⟩⟩,
    ⟨7, 0, [1], ⟨(some 27), none, .mv (.t 1)⟩⟩,
    ⟨8, 192, [26, 27], ⟨(some 28), none, .ib .shl (.t 26) (.t 27)⟩⟩,
    ⟨9, 511, [25, 28], ⟨(some 29), none, .ib .or (.t 25) (.t 28)⟩⟩,
    ⟨10, 1023, [29], ⟨(some 8), none, .mv (.t 29)⟩⟩,
    ⟨11, 2047, [], ⟨(some 9), none, .mv (.c (.bool true))⟩⟩])
  .rt)))⟩
theorem k191 : cF Tryz.prog Tryz.f191 = some c191 := by kernel_rfl
/-- slices.Index[[]int,int] -/
def c192 : Fu := ⟨19, [.t 4],
  (.sq (.rg [⟨(some 4), none, .mv (.c (.int .i64 0))⟩])
  (.sq (.sq (.rg [⟨(some 6), none, .mv (.t 0)⟩,
    ⟨(some 7), none, .len (.t 6)⟩,
    ⟨(some 8), none, .mv (.c (.int .i64 0))⟩])
  (.bl 0
  (.lp
  (.sq (.rg [⟨(some 9), none, .ib .lss (.t 8) (.t 7)⟩])
  (.sq (.cd (.t 9)
  .sk
  (.ex 0))
  (.sq (.bl 1
  (.sq (.rg [⟨(some 10), none, .mv (.t 8)⟩,
    ⟨(some 5), none, .mv (.t 10)⟩])
  (.sq (.rg [⟨(some 11), none, .mv (.t 1)⟩,
    ⟨(some 12), none, .mv (.t 0)⟩,
    ⟨(some 13), none, .mv (.t 5)⟩,
    ⟨(some 14), none, .ia (.t 12) (.t 13) 1⟩,
    ⟨(some 15), none, .ld (.t 14) 1 false⟩,
    ⟨(some 16), none, .ib .eql (.t 11) (.t 15)⟩])
  (.cd (.t 16)
  (.sq (.rg [⟨(some 17), none, .mv (.t 5)⟩,
    ⟨(some 4), none, .mv (.t 17)⟩])
  .rt)
  .sk))))
  (.rg [⟨(some 18), none, .ib .add (.t 8) (.c (.int .i64 1))⟩,
    ⟨(some 8), none, .mv (.t 18)⟩])))))))
  (.sq (.rg [⟨(some 4), none, .mv (.c (.int .i64 (-1)))⟩])
  .rt)))⟩
theorem k192 : cF Tryz.prog Tryz.f192 = some c192 := by kernel_rfl
/-- (*rundale/stack.Push).last -/
def c193 : Fu := ⟨47, [],
  (.sq (.rd [⟨0, 0, [0], ⟨(some 2), none, .mv (.t 0)⟩⟩,
    ⟨1, 1, [2], ⟨(some 3), none, .nc (.t 2)⟩⟩,
    ⟨2, 3, [3], ⟨(some 4), none, .fa (.t 3) 5⟩⟩,
    ⟨3, 7, [4], ⟨(some 5), none, .ld (.t 4) 1 false⟩⟩,
    ⟨4, 15, [5], ⟨(some 6), none, .nc (.t 5)⟩⟩,
    ⟨5, 31, [6], ⟨(some 7), none, .fa (.t 6) 0⟩⟩,
    ⟨6, 63, [7], ⟨(some 8), none, .ld (.t 7) 1 false⟩⟩,
    ⟨7, 0, [0], ⟨(some 9), none, .mv (.t 0)⟩⟩,
    ⟨8, 128, [9], ⟨(some 10), none, .nc (.t 9)⟩⟩,
    ⟨9, 384, [10], ⟨(some 11), none, .fa (.t 10) 5⟩⟩,
    ⟨10, 896, [11], ⟨(some 12), none, .ld (.t 11) 1 false⟩⟩,
    ⟨11, 1920, [12], ⟨(some 13), none, .nc (.t 12)⟩⟩,
    ⟨12, 3968, [13], ⟨(some 14), none, .fa (.t 13) 2⟩⟩,
    ⟨13, 8064, [14], ⟨(some 15), none, .ld (.t 14) 1 false⟩⟩,
    ⟨14, 0, [0], ⟨(some 16), none, .mv (.t 0)⟩⟩,
    ⟨15, 16384, [16], ⟨(some 17), none, .nc (.t 16)⟩⟩,
    ⟨16, 49152, [17], ⟨(some 18), none, .fa (.t 17) 6⟩⟩,
    ⟨17, 114688, [18], ⟨(some 19), none, .ld (.t 18) 1 false⟩⟩,
    ⟨18, 0, [0], ⟨(some 20), none, .mv (.t 0)⟩⟩,
    ⟨19, 262144, [20], ⟨(some 21), none, .nc (.t 20)⟩⟩,
    ⟨20, 786432, [21], ⟨(some 22), none, .fa (.t 21) 6⟩⟩,
    ⟨21, 1835008, [22], ⟨(some 23), none, .ld (.t 22) 1 false⟩⟩,
    ⟨22, 3932160, [23], ⟨(some 24), none, .len (.t 23)⟩⟩,
    ⟨23, 8126464, [24], ⟨(some 25), none, .ib .sub (.t 24) (.c (.int .i64 1))⟩⟩,
    ⟨24, 16760832, [19, 25], ⟨(some 26), none, .ia (.t 19) (.t 25) 1⟩⟩,
    ⟨25, 33538048, [26], ⟨(some 27), none, .ld (.t 26) 1 false⟩⟩,
    ⟨26, 67108736, [15, 27], ⟨(some 28), none, .ib .add (.t 15) (.t 27)⟩⟩,
    ⟨27, 0, [0], ⟨(some 29), none, .mv (.t 0)⟩⟩,
    ⟨28, 134217728, [29], ⟨(some 30), none, .nc (.t 29)⟩⟩,
    ⟨29, 402653184, [30], ⟨(some 31), none, .fa (.t 30) 5⟩⟩,
    ⟨30, 939524096, [31], ⟨(some 32), none, .ld (.t 31) 1 false⟩⟩,
    ⟨31, 0, [0], ⟨(some 33), none, .mv (.t 0)⟩⟩,
    ⟨32, 2147483648, [33], ⟨(some 34), none, .nc (.t 33)⟩⟩,
    ⟨33, 6442450944, [34], ⟨(some 35), none, .fa (.t 34) 8⟩⟩,
    ⟨34, 15032385536, [35], ⟨(some 36), none, .ld (.t 35) 1 false⟩⟩,
    ⟨35, 34225520640, [32, 36], ⟨(some 37), none, .ca 77 [(.t 32), (.t 36)]⟩⟩,
    ⟨36, 68585259008, [37], ⟨(some 38), none, .ib .add (.t 37) (.c (.int .i64 1))⟩⟩,
    ⟨37, 137304735744, [38], ⟨(some 39), none, .cv .u64 (.t 38)⟩⟩,
    ⟨38, 274877906943, [8, 28, 39], ⟨(some 40), none, .ca 187 [(.t 8), (.t 28), (.t 39)]⟩⟩])
  (.rg [⟨(some 41), none, .mv (.t 0)⟩,
    ⟨(some 42), none, .nc (.t 41)⟩,
    ⟨(some 43), none, .fa (.t 42) 0⟩,
    ⟨(some 44), none, .mv (.t 0)⟩,
    ⟨(some 45), none, .mf (.func 201) [(.t 44)] []⟩,
    ⟨(some 46), none, .ca 114 [(.t 43), (.t 45)]⟩]))⟩
theorem k193 : cF Tryz.prog Tryz.f193 = some c193 := by kernel_rfl
/-- rundale/bits.field -/
def c194 : Fu := ⟨21, [.t 4],
  (.sq (.rg [⟨(some 4), none, .mv (.c (.bool false))⟩])
  (.sq (.rg [⟨(some 5), none, .mv (.t 1)⟩,
    ⟨(some 6), none, .ib .geq (.t 5) (.c (.int .i64 0))⟩,
    ⟨(some 7), none, .mv (.t 6)⟩,
    ⟨(some 8), (some (7, true)), .mv (.t 1)⟩,
    ⟨(some 9), (some (7, true)), .ib .leq (.t 8) (.c (.int .i64 64))⟩,
    ⟨(some 10), none, .pk (.t 7) (.t 9) (.c (.bool false))⟩,
    ⟨(some 11), none, .mv (.t 10)⟩,
    ⟨(some 12), (some (11, true)), .mv (.t 0)⟩,
    ⟨(some 13), (some (11, true)), .ib .geq (.t 12) (.c (.int .i64 0))⟩,
    ⟨(some 14), none, .pk (.t 11) (.t 13) (.c (.bool false))⟩,
    ⟨(some 15), none, .mv (.t 14)⟩,
    ⟨(some 16), (some (15, true)), .mv (.t 0)⟩,
    ⟨(some 17), (some (15, true)), .mv (.t 1)⟩,
    ⟨(some 18), (some (15, true)), .ib .sub (.c (.int .i64 64)) (.t 17)⟩,
    ⟨(some 19), (some (15, true)), .ib .leq (.t 16) (.t 18)⟩,
    ⟨(some 20), none, .pk (.t 15) (.t 19) (.c (.bool false))⟩,
    ⟨(some 4), none, .mv (.t 20)⟩])
  .rt))⟩
theorem k194 : cF Tryz.prog Tryz.f194 = some c194 := by kernel_rfl
/-- rundale/bits.Mask -/
def c195 : Fu := ⟨8, [.t 2],
  (.sq (.rg [⟨(some 2), none, .mv (.c (.int .u64 0))⟩])
  (.sq (.rg [⟨(some 3), none, .mv (.t 0)⟩,
    ⟨(some 4), none, .mm true (.t 3) (.c (.int .i64 0))⟩,
    ⟨(some 5), none, .mm false (.t 4) (.c (.int .i64 64))⟩,
    ⟨(some 6), none, .ib .shl (.c (.int .u64 1)) (.t 5)⟩,
    ⟨(some 7), none, .ib .sub (.t 6) (.c (.int .u64 1))⟩,
    ⟨(some 2), none, .mv (.t 7)⟩])
  .rt))⟩
theorem k195 : cF Tryz.prog Tryz.f195 = some c195 := by kernel_rfl
/-- (*rundale/stack.Pop).link -/
def c199 : Fu := ⟨86, [],
  (.sq (.rd [⟨0, 0, [0], ⟨(some 5), none, .mv (.t 0)⟩⟩,
    ⟨1, 1, [5], ⟨(some 6), none, .nc (.t 5)⟩⟩,
    ⟨2, 3, [6], ⟨(some 7), none, .fa (.t 6) 5⟩⟩,
    ⟨3, 7, [7], ⟨(some 8), none, .ld (.t 7) 1 false⟩⟩,
    ⟨4, 15, [8], ⟨(some 9), none, .nc (.t 8)⟩⟩,
    ⟨5, 31, [9], ⟨(some 10), none, .fa (.t 9) 0⟩⟩,
    ⟨6, 63, [10], ⟨(some 11), none, .ld (.t 10) 1 false⟩⟩,
    ⟨7, 0, [0], ⟨(some 12), none, .mv (.t 0)⟩⟩,
    ⟨8, 128, [12], ⟨(some 13), none, .nc (.t 12)⟩⟩,
    ⟨9, 384, [13], ⟨(some 14), none, .fa (.t 13) 5⟩⟩,
    ⟨10, 896, [14], ⟨(some 15), none, .ld (.t 14) 1 false⟩⟩,
    ⟨11, 1920, [15], ⟨(some 16), none, .nc (.t 15)⟩⟩,
    ⟨12, 3968, [16], ⟨(some 17), none, .fa (.t 16) 2⟩⟩,
    ⟨13, 8064, [17], ⟨(some 18), none, .ld (.t 17) 1 false⟩⟩,
    ⟨14, 0, [0], ⟨(some 19), none, .mv (.t 0)⟩⟩,
    ⟨15, 16384, [19], ⟨(some 20), none, .nc (.t 19)⟩⟩,
    ⟨16, 49152, [20], ⟨(some 21), none, .fa (.t 20) 9⟩⟩,
    ⟨17, 114688, [21], ⟨(some 22), none, .ld (.t 21) 1 false⟩⟩,
    ⟨18, 0, [0], ⟨(some 23), none, .mv (.t 0)⟩⟩,
    ⟨19, 262144, [23], ⟨(some 24), none, .nc (.t 23)⟩⟩,
    ⟨20, 786432, [24], ⟨(some 25), none, .fa (.t 24) 9⟩⟩,
    ⟨21, 1835008, [25], ⟨(some 26), none, .ld (.t 25) 1 false⟩⟩,
    ⟨22, 3932160, [26], ⟨(some 27), none, .len (.t 26)⟩⟩,
    ⟨23, 8126464, [27], ⟨(some 28), none, .ib .sub (.t 27) (.c (.int .i64 1))⟩⟩,
    ⟨24, 16760832, [22, 28], ⟨(some 29), none, .ia (.t 22) (.t 28) 1⟩⟩,
    ⟨25, 33538048, [29], ⟨(some 30), none, .ld (.t 29) 1 false⟩⟩,
    ⟨26, 67108736, [18, 30], ⟨(some 31), none, .ib .add (.t 18) (.t 30)⟩⟩,
    ⟨27, 134217727, [11, 31], ⟨(some 32), none, .ca 160 [(.t 11), (.t 31)]⟩⟩,
    ⟨28, 268435455, [32], ⟨(some 4), none, .mv (.t 32)⟩⟩,
    ⟨29, 536870911, [4], ⟨(some 33), none, .ex (.t 4) 0⟩⟩,
    ⟨30, 536870911, [4], ⟨(some 34), none, .ex (.t 4) 1⟩⟩,
    ⟨31, 1073741823, [33], ⟨(some 2), none, .mv (.t 33)⟩⟩,
    ⟨32, 4294967295, [34], ⟨(some 3), none, .mv (.t 34)⟩⟩])
  (.sq (.rg [⟨(some 35), none, .mv (.t 0)⟩,
    ⟨(some 36), none, .mv (.t 0)⟩,
    ⟨(some 37), none, .nc (.t 36)⟩,
    ⟨(some 38), none, .fa (.t 37) 5⟩,
    ⟨(some 39), none, .ld (.t 38) 1 false⟩,
    ⟨(some 40), none, .mv (.t 2)⟩,
    ⟨(some 41), none, .ca 79 [(.t 39), (.t 40)]⟩,
    ⟨(some 42), none, .nc (.t 35)⟩,
    ⟨(some 43), none, .fa (.t 42) 7⟩,
    ⟨none, none, .st (.t 43) (.t 41) 1⟩])
  (.sq (.rd [⟨0, 0, [0], ⟨(some 44), none, .mv (.t 0)⟩⟩,
    ⟨1, 1, [44], ⟨(some 45), none, .nc (.t 44)⟩⟩,
    ⟨2, 3, [45], ⟨(some 46), none, .fa (.t 45) 7⟩⟩,
    ⟨3, 7, [46], ⟨(some 47), none, .ld (.t 46) 1 false⟩⟩,
    ⟨4, 15, [47], ⟨(some 48), none, .ib .geq (.t 47) (.c (.int .i64 0))⟩⟩,
    ⟨5, 31, [48], ⟨(some 49), none, .mv (.t 48)⟩⟩,
    ⟨6, 63, [0, 49], ⟨(some 50), (some (49, true)), .mv (.t 0)⟩⟩,
    ⟨7, 127, [50, 49], ⟨(some 51), (some (49, true)), .nc (.t 50)⟩⟩,
    ⟨8, 255, [51, 49], ⟨(some 52), (some (49, true)), .fa (.t 51) 9⟩⟩,
    ⟨9, 511, [52, 49], ⟨(some 53), (some (49, true)), .ld (.t 52) 1 false⟩⟩,
    ⟨10, 1023, [53, 49], ⟨(some 54), (some (49, true)), .len (.t 53)⟩⟩,
    ⟨11, 63, [0, 49], ⟨(some 55), (some (49, true)), .mv (.t 0)⟩⟩,
    ⟨12, 2111, [55, 49], ⟨(some 56), (some (49, true)), .nc (.t 55)⟩⟩,
    ⟨13, 6207, [56, 49], ⟨(some 57), (some (49, true)), .fa (.t 56) 6⟩⟩,
    ⟨14, 14399, [57, 49], ⟨(some 58), (some (49, true)), .ld (.t 57) 1 false⟩⟩,
    ⟨15, 32767, [54, 58, 49], ⟨(some 59), (some (49, true)), .ib .lss (.t 54) (.t 58)⟩⟩,
    ⟨16, 65535, [49, 59], ⟨(some 60), none, .pk (.t 49) (.t 59) (.c (.bool false))⟩⟩])
  (.cd (.t 60)
  (.sq (.rd [⟨0, 0, [0], ⟨(some 61), none, .mv (.t 0)⟩⟩,
    ⟨1, 0, [0], ⟨(some 62), none, .mv (.t 0)⟩⟩,
    ⟨2, 2, [62], ⟨(some 63), none, .nc (.t 62)⟩⟩,
    ⟨3, 6, [63], ⟨(some 64), none, .fa (.t 63) 9⟩⟩,
    ⟨4, 14, [64], ⟨(some 65), none, .ld (.t 64) 1 false⟩⟩,
    ⟨5, 0, [0], ⟨(some 66), none, .mv (.t 0)⟩⟩,
    ⟨6, 32, [66], ⟨(some 67), none, .nc (.t 66)⟩⟩,
    ⟨7, 96, [67], ⟨(some 68), none, .fa (.t 67) 7⟩⟩,
    ⟨8, 224, [68], ⟨(some 69), none, .ld (.t 68) 1 false⟩⟩,
    ⟨9, 480, [69], ⟨(some 70), none, .bs 3 1 [(.int .i64 0)] [(0, 1, (.t 69))]⟩⟩,
    ⟨10, 1022, [65, 70], ⟨(some 71), none, .ap 49 3 1 8 [(.int .i64 0)] (.t 65) (.t 70)⟩⟩,
    ⟨11, 2047, [61], ⟨(some 72), none, .nc (.t 61)⟩⟩,
    ⟨12, 4095, [72], ⟨(some 73), none, .fa (.t 72) 9⟩⟩,
    ⟨13, 8191, [73, 71], ⟨none, none, .st (.t 73) (.t 71) 1⟩⟩])
  (.rg [⟨(some 74), none, .mv (.t 0)⟩,
    ⟨(some 75), none, .nc (.t 74)⟩,
    ⟨(some 76), none, .fa (.t 75) 0⟩,
    ⟨(some 77), none, .mv (.t 0)⟩,
    ⟨(some 78), none, .mf (.func 199) [(.t 77)] []⟩,
    ⟨(some 79), none, .ca 114 [(.t 76), (.t 78)]⟩]))
  (.rg [⟨(some 80), none, .mv (.t 0)⟩,
    ⟨(some 81), none, .nc (.t 80)⟩,
    ⟨(some 82), none, .fa (.t 81) 0⟩,
    ⟨(some 83), none, .mv (.t 0)⟩,
    ⟨(some 84), none, .mf (.func 203) [(.t 83)] []⟩,
    ⟨(some 85), none, .ca 114 [(.t 82), (.t 84)]⟩])))))⟩
theorem k199 : cF Tryz.prog Tryz.f199 = some c199 := by kernel_rfl
/-- rundale/bits.Fits -/
def c200 : Fu := ⟨10, [.t 4],
  (.sq (.rg [⟨(some 4), none, .mv (.c (.bool false))⟩])
  (.sq (.rg [⟨(some 5), none, .mv (.t 0)⟩,
    ⟨(some 6), none, .mv (.t 1)⟩,
    ⟨(some 7), none, .ca 195 [(.t 6)]⟩,
    ⟨(some 8), none, .ib .andNot (.t 5) (.t 7)⟩,
    ⟨(some 9), none, .ib .eql (.t 8) (.c (.int .u64 0))⟩,
    ⟨(some 4), none, .mv (.t 9)⟩])
  .rt))⟩
theorem k200 : cF Tryz.prog Tryz.f200 = some c200 := by kernel_rfl
/-- (*rundale/stack.Push).cas -/
def c201 : Fu := ⟨24, [],
  (.sq (.rd [⟨0, 0, [0], ⟨(some 2), none, .mv (.t 0)⟩⟩,
    ⟨1, 1, [2], ⟨(some 3), none, .nc (.t 2)⟩⟩,
    ⟨2, 3, [3], ⟨(some 4), none, .fa (.t 3) 5⟩⟩,
    ⟨3, 7, [4], ⟨(some 5), none, .ld (.t 4) 1 false⟩⟩,
    ⟨4, 0, [0], ⟨(some 6), none, .mv (.t 0)⟩⟩,
    ⟨5, 16, [6], ⟨(some 7), none, .nc (.t 6)⟩⟩,
    ⟨6, 48, [7], ⟨(some 8), none, .fa (.t 7) 8⟩⟩,
    ⟨7, 112, [8], ⟨(some 9), none, .ld (.t 8) 1 false⟩⟩,
    ⟨8, 0, [0], ⟨(some 10), none, .mv (.t 0)⟩⟩,
    ⟨9, 256, [10], ⟨(some 11), none, .nc (.t 10)⟩⟩,
    ⟨10, 768, [11], ⟨(some 12), none, .fa (.t 11) 6⟩⟩,
    ⟨11, 1792, [12], ⟨(some 13), none, .ld (.t 12) 1 false⟩⟩,
    ⟨12, 3840, [13], ⟨(some 14), none, .ia (.t 13) (.c (.int .i64 0)) 1⟩⟩,
    ⟨13, 7936, [14], ⟨(some 15), none, .ld (.t 14) 1 false⟩⟩,
    ⟨14, 16383, [5, 9, 15], ⟨(some 16), none, .ca 204 [(.t 5), (.t 9), (.t 15)]⟩⟩,
    ⟨15, 32767, [16], ⟨(some 17), none, .nt (.t 16)⟩⟩])
  (.cd (.t 17)
  (.rg [⟨(some 18), none, .mv (.t 0)⟩,
    ⟨(some 19), none, .nc (.t 18)⟩,
    ⟨(some 20), none, .fa (.t 19) 0⟩,
    ⟨(some 21), none, .mv (.t 0)⟩,
    ⟨(some 22), none, .mf (.func 171) [(.t 21)] []⟩,
    ⟨(some 23), none, .ca 114 [(.t 20), (.t 22)]⟩])
  .sk))⟩
theorem k201 : cF Tryz.prog Tryz.f201 = some c201 := by kernel_rfl
/-- (*rundale/cells.Cells).Cas -/
def c202 : Fu := ⟨37, [.t 8, .t 9],
  (.sq (.rg [⟨(some 8), none, .mv (.c (.bool false))⟩,
    ⟨(some 9), none, .mv (.c (.int .i64 0))⟩])
  (.sq (.sq (.rg [⟨(some 10), none, .mv (.t 0)⟩,
    ⟨(some 11), none, .mv (.t 1)⟩,
    ⟨(some 12), none, .ca 110 [(.t 10), (.t 11)]⟩,
    ⟨(some 13), none, .nt (.t 12)⟩])
  (.cd (.t 13)
  (.sq (.rg [⟨(some 8), none, .mv (.c (.bool false))⟩,
    ⟨(some 9), none, .mv (.c (.int .i64 1))⟩])
  .rt)
  .sk))
  (.sq (.sq (.rg [⟨(some 14), none, .mv (.t 0)⟩,
    ⟨(some 15), none, .nc (.t 14)⟩,
    ⟨(some 16), none, .fa (.t 15) 0⟩,
    ⟨(some 17), none, .ld (.t 16) 1 false⟩,
    ⟨(some 18), none, .mv (.t 1)⟩,
    ⟨(some 19), none, .ia (.t 17) (.t 18) 1⟩,
    ⟨(some 20), none, .ld (.t 19) 1 false⟩,
    ⟨(some 21), none, .mv (.t 2)⟩,
    ⟨(some 22), none, .ib .neq (.t 20) (.t 21)⟩])
  (.cd (.t 22)
  (.sq (.rg [⟨(some 23), none, .mv (.t 0)⟩,
    ⟨(some 24), none, .mv (.t 1)⟩,
    ⟨(some 25), none, .mv (.t 0)⟩,
    ⟨(some 26), none, .nc (.t 25)⟩,
    ⟨(some 27), none, .fa (.t 26) 0⟩,
    ⟨(some 28), none, .ld (.t 27) 1 false⟩,
    ⟨(some 29), none, .mv (.t 1)⟩,
    ⟨(some 30), none, .ia (.t 28) (.t 29) 1⟩,
    ⟨(some 31), none, .ld (.t 30) 1 false⟩,
    ⟨(some 32), none, .ca 185 [(.t 23), (.c (.int .i64 3)), (.t 24), (.t 31), (.c (.bool false))]⟩])
  (.sq (.rg [⟨(some 8), none, .mv (.c (.bool false))⟩,
    ⟨(some 9), none, .mv (.c (.int .i64 0))⟩])
  .rt))
  .sk))
  (.sq (.rg [⟨(some 33), none, .mv (.t 0)⟩,
    ⟨(some 34), none, .mv (.t 1)⟩,
    ⟨(some 35), none, .mv (.t 3)⟩,
    ⟨(some 36), none, .ca 185 [(.t 33), (.c (.int .i64 3)), (.t 34), (.t 35), (.c (.bool true))]⟩])
  (.sq (.rg [⟨(some 8), none, .mv (.c (.bool true))⟩,
    ⟨(some 9), none, .mv (.c (.int .i64 0))⟩])
  .rt)))))⟩
theorem k202 : cF Tryz.prog Tryz.f202 = some c202 := by kernel_rfl
/-- (*rundale/stack.Pop).cas -/
def c203 : Fu := ⟨22, [],
  (.sq (.rd [⟨0, 0, [0], ⟨(some 2), none, .mv (.t 0)⟩⟩,
    ⟨1, 1, [2], ⟨(some 3), none, .nc (.t 2)⟩⟩,
    ⟨2, 3, [3], ⟨(some 4), none, .fa (.t 3) 5⟩⟩,
    ⟨3, 7, [4], ⟨(some 5), none, .ld (.t 4) 1 false⟩⟩,
    ⟨4, 0, [0], ⟨(some 6), none, .mv (.t 0)⟩⟩,
    ⟨5, 16, [6], ⟨(some 7), none, .nc (.t 6)⟩⟩,
    ⟨6, 48, [7], ⟨(some 8), none, .fa (.t 7) 8⟩⟩,
    ⟨7, 112, [8], ⟨(some 9), none, .ld (.t 8) 1 false⟩⟩,
    ⟨8, 0, [0], ⟨(some 10), none, .mv (.t 0)⟩⟩,
    ⟨9, 256, [10], ⟨(some 11), none, .nc (.t 10)⟩⟩,
    ⟨10, 768, [11], ⟨(some 12), none, .fa (.t 11) 7⟩⟩,
    ⟨11, 1792, [12], ⟨(some 13), none, .ld (.t 12) 1 false⟩⟩,
    ⟨12, 4095, [5, 9, 13], ⟨(some 14), none, .ca 204 [(.t 5), (.t 9), (.t 13)]⟩⟩,
    ⟨13, 8191, [14], ⟨(some 15), none, .nt (.t 14)⟩⟩])
  (.cd (.t 15)
  (.rg [⟨(some 16), none, .mv (.t 0)⟩,
    ⟨(some 17), none, .nc (.t 16)⟩,
    ⟨(some 18), none, .fa (.t 17) 0⟩,
    ⟨(some 19), none, .mv (.t 0)⟩,
    ⟨(some 20), none, .mf (.func 188) [(.t 19)] []⟩,
    ⟨(some 21), none, .ca 114 [(.t 18), (.t 20)]⟩])
  .sk))⟩
theorem k203 : cF Tryz.prog Tryz.f203 = some c203 := by kernel_rfl
/-- (*rundale/stack.Stack).exchange -/
def c204 : Fu := ⟨34, [.t 6],
  (.sq (.rg [⟨(some 6), none, .mv (.c (.bool false))⟩])
  (.sq (.rg [⟨(some 12), none, .mv (.t 1)⟩,
    ⟨(some 13), none, .ca 140 [(.t 12)]⟩,
    ⟨(some 14), none, .mv (.t 2)⟩,
    ⟨(some 15), none, .ca 205 [(.t 13), (.t 14)]⟩,
    ⟨(some 16), none, .ca 168 [(.t 15)]⟩,
    ⟨(some 11), none, .mv (.t 16)⟩,
    ⟨(some 17), none, .ex (.t 11) 0⟩,
    ⟨(some 18), none, .ex (.t 11) 1⟩,
    ⟨(some 7), none, .mv (.t 17)⟩,
    ⟨(some 8), none, .mv (.t 18)⟩])
  (.sq (.rd [⟨0, 0, [0], ⟨(some 20), none, .mv (.t 0)⟩⟩,
    ⟨1, 1, [20], ⟨(some 21), none, .nc (.t 20)⟩⟩,
    ⟨2, 3, [21], ⟨(some 22), none, .fa (.t 21) 0⟩⟩,
    ⟨3, 7, [22], ⟨(some 23), none, .ld (.t 22) 1 false⟩⟩,
    ⟨4, 0, [0], ⟨(some 24), none, .mv (.t 0)⟩⟩,
    ⟨5, 16, [24], ⟨(some 25), none, .nc (.t 24)⟩⟩,
    ⟨6, 48, [25], ⟨(some 26), none, .fa (.t 25) 1⟩⟩,
    ⟨7, 112, [26], ⟨(some 27), none, .ld (.t 26) 1 false⟩⟩,
    ⟨8, 0, [1], ⟨(some 28), none, .mv (.t 1)⟩⟩,
    ⟨9, 0, [7], ⟨(some 29), none, .mv (.t 7)⟩⟩,
    ⟨10, 1023, [23, 27, 28, 29], ⟨(some 30), none, .ca 202 [(.t 23), (.t 27), (.t 28), (.t 29)]⟩⟩,
    ⟨11, 2047, [30], ⟨(some 19), none, .mv (.t 30)⟩⟩,
    ⟨12, 4095, [19], ⟨(some 31), none, .ex (.t 19) 0⟩⟩,
    ⟨13, 4095, [19], ⟨(some 32), none, .ex (.t 19) 1⟩⟩,
    ⟨14, 8191, [31], ⟨(some 9), none, .mv (.t 31)⟩⟩,
    ⟨15, 32767, [32], ⟨(some 10), none, .mv (.t 32)⟩⟩])
  (.sq (.rg [⟨(some 33), none, .mv (.t 9)⟩,
    ⟨(some 6), none, .mv (.t 33)⟩])
  .rt))))⟩
theorem k204 : cF Tryz.prog Tryz.f204 = some c204 := by kernel_rfl
/-- rundale/word.Next -/
def c205 : Fu := ⟨15, [.c 4 2 true],
  (.sq (.rg [⟨(some 2), none, .bx 212 (.t 0)⟩,
    ⟨(some 4), none, .al 212 [(.int .i64 0), (.int .i64 0)]⟩])
  (.sq (.rg [⟨(some 5), none, .mv (.c (.int .i64 0))⟩])
  (.sq (.sq (.rg [⟨(some 6), none, .fa (.t 2) 1⟩,
    ⟨(some 7), none, .ld (.t 6) 1 false⟩,
    ⟨(some 8), none, .ca 190 [(.t 7), (.c (.int .i64 0)), (.c (.int .i64 4294967294))]⟩])
  (.cd (.t 8)
  (.rg [⟨(some 9), none, .fa (.t 2) 1⟩,
    ⟨(some 10), none, .ld (.t 9) 1 false⟩,
    ⟨(some 11), none, .ib .add (.t 10) (.c (.int .i64 1))⟩,
    ⟨(some 5), none, .mv (.t 11)⟩])
  .sk))
  (.sq (.rg [⟨(some 12), none, .mv (.t 1)⟩,
    ⟨(some 13), none, .mv (.t 5)⟩,
    ⟨(some 14), none, .bd [(.int .i64 0), (.int .i64 0)] [(0, 1, (.t 12)), (1, 1, (.t 13))]⟩,
    ⟨none, none, .st (.t 4) (.t 14) 2⟩])
  .rt))))⟩
theorem k205 : cF Tryz.prog Tryz.f205 = some c205 := by kernel_rfl
end Go.Proofs.YtnbkjcmmjgkdaaaGreat
