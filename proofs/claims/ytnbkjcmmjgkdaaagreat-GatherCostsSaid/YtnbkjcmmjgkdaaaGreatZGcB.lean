/-
  Parts of the proof, merged: what the statement leans on.
-/
import Derived.Test.YtnbkjcmmjgkdaaaGreatProg
import Derived.KernelRfl
import Derived.Test.YtnbkjcmmjgkdaaaGreatZGcA
/-
  The functions' small code, as a program printed it off the translation; each held against the model's own code by the kernel.
-/
namespace Go.Proofs.YtnbkjcmmjgkdaaaGreat
open Go
set_option maxRecDepth 100000
/-- rundale/rundalelaw17.GatherNone -/
def c3 : Fu := ⟨106, [.t 4],
  (.sq (.rg [⟨(some 4), none, .mv (.c (.bool false))⟩])
  (.sq (.rg [⟨(some 18), none, .ca 9 []⟩,
    ⟨(some 5), none, .mv (.t 18)⟩])
  (.sq (.sq (.rg [⟨(some 19), none, .mv (.t 5)⟩,
    ⟨(some 20), none, .nt (.t 19)⟩])
  (.cd (.t 20)
  (.sq (.rg [⟨(some 4), none, .mv (.c (.bool false))⟩])
  .rt)
  .sk))
  (.sq (.rg [⟨(some 21), none, .mv (.t 0)⟩,
    ⟨(some 22), none, .ca 10 [(.t 21)]⟩,
    ⟨(some 6), none, .al 24 [(.int .i64 0), (.int .i64 0), (.int .i64 0), (.int .i64 0), (.int .i64 0), (.int .i64 0)]⟩,
    ⟨none, none, .st (.t 6) (.t 22) 6⟩])
  (.sq (.rg [⟨(some 24), none, .mv (.t 1)⟩,
    ⟨(some 25), none, .ld (.t 6) 6 true⟩,
    ⟨(some 26), none, .ca 13 [(.t 25)]⟩,
    ⟨(some 27), none, .ib .sub (.t 26) (.c (.int .i64 1))⟩,
    ⟨(some 28), none, .ca 12 [(.t 24), (.t 27)]⟩,
    ⟨(some 29), none, .ib .add (.c (.int .i64 1)) (.t 28)⟩,
    ⟨(some 30), none, .ca 11 [(.t 29)]⟩,
    ⟨(some 23), none, .mv (.t 30)⟩,
    ⟨(some 31), none, .ex (.t 23) 0⟩,
    ⟨(some 32), none, .ex (.t 23) 1⟩,
    ⟨(some 7), none, .mv (.t 31)⟩,
    ⟨(some 8), none, .mv (.t 32)⟩])
  (.sq (.rg [⟨(some 34), none, .ld (.t 6) 6 true⟩,
    ⟨(some 35), none, .ca 13 [(.t 34)]⟩,
    ⟨(some 36), none, .ca 11 [(.t 35)]⟩,
    ⟨(some 33), none, .mv (.t 36)⟩,
    ⟨(some 37), none, .ex (.t 33) 0⟩,
    ⟨(some 38), none, .ex (.t 33) 1⟩,
    ⟨(some 9), none, .mv (.t 37)⟩,
    ⟨(some 10), none, .mv (.t 38)⟩])
  (.sq (.sq (.rg [⟨(some 39), none, .mv (.t 7)⟩,
    ⟨(some 40), none, .en 0 false (.t 39) (.c (.pointer none))⟩,
    ⟨(some 41), none, .mv (.t 40)⟩,
    ⟨(some 42), (some (41, false)), .mv (.t 8)⟩,
    ⟨(some 43), (some (41, false)), .ib .neq (.t 42) (.c (.int .i64 0))⟩,
    ⟨(some 44), none, .pk (.t 41) (.c (.bool true)) (.t 43)⟩,
    ⟨(some 45), none, .mv (.t 44)⟩,
    ⟨(some 46), (some (45, false)), .mv (.t 9)⟩,
    ⟨(some 47), (some (45, false)), .en 0 false (.t 46) (.c (.pointer none))⟩,
    ⟨(some 48), none, .pk (.t 45) (.c (.bool true)) (.t 47)⟩,
    ⟨(some 49), none, .mv (.t 48)⟩,
    ⟨(some 50), (some (49, false)), .mv (.t 10)⟩,
    ⟨(some 51), (some (49, false)), .ib .neq (.t 50) (.c (.int .i64 0))⟩,
    ⟨(some 52), none, .pk (.t 49) (.c (.bool true)) (.t 51)⟩])
  (.cd (.t 52)
  (.sq (.rg [⟨(some 4), none, .mv (.c (.bool false))⟩])
  .rt)
  .sk))
  (.sq (.rg [⟨(some 54), none, .mv (.t 7)⟩,
    ⟨(some 55), none, .ld (.t 6) 6 true⟩,
    ⟨(some 56), none, .ca 14 [(.t 54), (.t 55)]⟩,
    ⟨(some 53), none, .mv (.t 56)⟩,
    ⟨(some 57), none, .ex (.t 53) 0⟩,
    ⟨(some 58), none, .ex (.t 53) 1⟩,
    ⟨(some 11), none, .mv (.t 57)⟩,
    ⟨(some 12), none, .mv (.t 58)⟩])
  (.sq (.rg [⟨(some 59), none, .ld (.t 6) 6 true⟩,
    ⟨(some 13), none, .al 24 [(.int .i64 0), (.int .i64 0), (.int .i64 0), (.int .i64 0), (.int .i64 0), (.int .i64 0)]⟩,
    ⟨none, none, .st (.t 13) (.t 59) 6⟩])
  (.sq (.rg [⟨(some 60), none, .mv (.t 1)⟩,
    ⟨(some 61), none, .ca 12 [(.t 60), (.c (.int .i64 1000))]⟩,
    ⟨(some 62), none, .ng (.t 61)⟩,
    ⟨(some 63), none, .fa (.t 13) 3⟩,
    ⟨none, none, .st (.t 63) (.t 62) 1⟩])
  (.sq (.rg [⟨(some 65), none, .mv (.t 9)⟩,
    ⟨(some 66), none, .ld (.t 13) 6 true⟩,
    ⟨(some 67), none, .ca 14 [(.t 65), (.t 66)]⟩,
    ⟨(some 64), none, .mv (.t 67)⟩,
    ⟨(some 68), none, .ex (.t 64) 0⟩,
    ⟨(some 69), none, .ex (.t 64) 1⟩,
    ⟨(some 14), none, .mv (.t 68)⟩,
    ⟨(some 15), none, .mv (.t 69)⟩])
  (.sq (.rg [⟨(some 71), none, .mv (.t 9)⟩,
    ⟨(some 72), none, .ld (.t 6) 6 true⟩,
    ⟨(some 73), none, .ca 14 [(.t 71), (.t 72)]⟩,
    ⟨(some 70), none, .mv (.t 73)⟩,
    ⟨(some 74), none, .ex (.t 70) 0⟩,
    ⟨(some 75), none, .ex (.t 70) 1⟩,
    ⟨(some 16), none, .mv (.t 74)⟩,
    ⟨(some 17), none, .mv (.t 75)⟩])
  (.sq (.rg [⟨(some 76), none, .mv (.t 5)⟩,
    ⟨(some 77), none, .mv (.t 76)⟩,
    ⟨(some 78), (some (77, true)), .mv (.t 11)⟩,
    ⟨(some 79), (some (77, true)), .en 0 false (.t 78) (.c (.pointer none))⟩,
    ⟨(some 80), none, .pk (.t 77) (.t 79) (.c (.bool false))⟩,
    ⟨(some 81), none, .mv (.t 80)⟩,
    ⟨(some 82), (some (81, true)), .mv (.t 12)⟩,
    ⟨(some 83), (some (81, true)), .ib .eql (.t 82) (.c (.int .i64 1))⟩,
    ⟨(some 84), none, .pk (.t 81) (.t 83) (.c (.bool false))⟩,
    ⟨(some 85), none, .mv (.t 84)⟩,
    ⟨(some 86), (some (85, true)), .mv (.t 14)⟩,
    ⟨(some 87), (some (85, true)), .en 0 false (.t 86) (.c (.pointer none))⟩,
    ⟨(some 88), none, .pk (.t 85) (.t 87) (.c (.bool false))⟩,
    ⟨(some 89), none, .mv (.t 88)⟩,
    ⟨(some 90), (some (89, true)), .mv (.t 15)⟩,
    ⟨(some 91), (some (89, true)), .ib .eql (.t 90) (.c (.int .i64 1))⟩,
    ⟨(some 92), none, .pk (.t 89) (.t 91) (.c (.bool false))⟩,
    ⟨(some 93), none, .mv (.t 92)⟩,
    ⟨(some 94), (some (93, true)), .mv (.t 16)⟩,
    ⟨(some 95), (some (93, true)), .en 0 true (.t 94) (.c (.pointer none))⟩,
    ⟨(some 96), none, .pk (.t 93) (.t 95) (.c (.bool false))⟩,
    ⟨(some 97), none, .mv (.t 96)⟩,
    ⟨(some 98), (some (97, true)), .mv (.t 17)⟩,
    ⟨(some 99), (some (97, true)), .ib .eql (.t 98) (.c (.int .i64 0))⟩,
    ⟨(some 100), none, .pk (.t 97) (.t 99) (.c (.bool false))⟩,
    ⟨(some 101), none, .mv (.t 100)⟩,
    ⟨(some 102), (some (101, true)), .mv (.t 9)⟩,
    ⟨(some 103), (some (101, true)), .ca 15 [(.t 102)]⟩,
    ⟨(some 104), (some (101, true)), .ib .eql (.t 103) (.c (.int .i64 0))⟩,
    ⟨(some 105), none, .pk (.t 101) (.t 104) (.c (.bool false))⟩,
    ⟨(some 4), none, .mv (.t 105)⟩])
  .rt)))))))))))))⟩
theorem k3 : cF Tryz.prog Tryz.f3 = some c3 := by kernel_rfl
/-- rundale/rundalelaw13.SupplyAll -/
def c4 : Fu := ⟨179, [.t 2],
  (.sq (.rg [⟨(some 2), none, .mv (.c (.bool false))⟩])
  (.sq (.rg [⟨(some 19), none, .ca 16 []⟩,
    ⟨(some 3), none, .mv (.t 19)⟩])
  (.sq (.sq (.rg [⟨(some 20), none, .mv (.t 3)⟩,
    ⟨(some 21), none, .nt (.t 20)⟩])
  (.cd (.t 21)
  (.sq (.rg [⟨(some 2), none, .mv (.c (.bool false))⟩])
  .rt)
  .sk))
  (.sq (.rg [⟨(some 22), none, .mv (.t 0)⟩,
    ⟨(some 23), none, .ca 10 [(.t 22)]⟩,
    ⟨(some 4), none, .al 24 [(.int .i64 0), (.int .i64 0), (.int .i64 0), (.int .i64 0), (.int .i64 0), (.int .i64 0)]⟩,
    ⟨none, none, .st (.t 4) (.t 23) 6⟩])
  (.sq (.rg [⟨(some 24), none, .ld (.t 4) 6 true⟩,
    ⟨(some 25), none, .ca 17 [(.t 24), (.c (.int .i64 1))]⟩,
    ⟨(some 5), none, .mv (.t 25)⟩])
  (.sq (.sq (.rg [⟨(some 26), none, .mv (.t 5)⟩,
    ⟨(some 27), none, .en 0 false (.t 26) (.c (.pointer none))⟩])
  (.cd (.t 27)
  (.sq (.rg [⟨(some 2), none, .mv (.c (.bool false))⟩])
  .rt)
  .sk))
  (.sq (.rg [⟨(some 28), none, .mv (.t 5)⟩,
    ⟨(some 29), none, .nc (.t 28)⟩,
    ⟨(some 30), none, .fa (.t 29) 2⟩,
    ⟨(some 31), none, .ld (.t 30) 1 false⟩,
    ⟨(some 32), none, .ia (.t 31) (.c (.int .i64 0)) 1⟩,
    ⟨(some 33), none, .ld (.t 32) 1 false⟩,
    ⟨(some 6), none, .mv (.t 33)⟩])
  (.sq (.rg [⟨(some 34), none, .fa (.t 4) 1⟩,
    ⟨(some 35), none, .ld (.t 34) 1 false⟩,
    ⟨(some 36), none, .mk 4 1 1 [(.bool false)] (.t 35) (.t 35)⟩,
    ⟨(some 7), none, .mv (.t 36)⟩])
  (.sq (.sq (.rg [⟨(some 8), none, .mv (.c (.int .i64 0))⟩])
  (.bl 0
  (.lp
  (.sq (.sq (.rg [⟨(some 37), none, .mv (.t 8)⟩,
    ⟨(some 38), none, .fa (.t 4) 1⟩,
    ⟨(some 39), none, .ld (.t 38) 1 false⟩,
    ⟨(some 40), none, .ib .lss (.t 37) (.t 39)⟩])
  (.cd (.t 40)
  .sk
  (.ex 0)))
  (.sq (.bl 1
  (.sq (.rg [⟨(some 44), none, .mv (.t 6)⟩,
    ⟨(some 45), none, .ca 18 [(.t 44)]⟩,
    ⟨(some 43), none, .mv (.t 45)⟩,
    ⟨(some 46), none, .ex (.t 43) 0⟩,
    ⟨(some 47), none, .ex (.t 43) 1⟩,
    ⟨(some 48), none, .ex (.t 43) 2⟩,
    ⟨(some 9), none, .mv (.t 46)⟩,
    ⟨(some 10), none, .mv (.t 47)⟩,
    ⟨(some 11), none, .mv (.t 48)⟩])
  (.sq (.sq (.rg [⟨(some 49), none, .mv (.t 10)⟩,
    ⟨(some 50), none, .nt (.t 49)⟩,
    ⟨(some 51), none, .mv (.t 50)⟩,
    ⟨(some 52), (some (51, false)), .mv (.t 9)⟩,
    ⟨(some 53), (some (51, false)), .ib .lss (.t 52) (.c (.int .i64 0))⟩,
    ⟨(some 54), none, .pk (.t 51) (.c (.bool true)) (.t 53)⟩,
    ⟨(some 55), none, .mv (.t 54)⟩,
    ⟨(some 56), (some (55, false)), .mv (.t 9)⟩,
    ⟨(some 57), (some (55, false)), .fa (.t 4) 1⟩,
    ⟨(some 58), (some (55, false)), .ld (.t 57) 1 false⟩,
    ⟨(some 59), (some (55, false)), .ib .geq (.t 56) (.t 58)⟩,
    ⟨(some 60), none, .pk (.t 55) (.c (.bool true)) (.t 59)⟩,
    ⟨(some 61), none, .mv (.t 60)⟩,
    ⟨(some 62), (some (61, false)), .mv (.t 7)⟩,
    ⟨(some 63), (some (61, false)), .mv (.t 9)⟩,
    ⟨(some 64), (some (61, false)), .ia (.t 62) (.t 63) 1⟩,
    ⟨(some 65), (some (61, false)), .ld (.t 64) 1 false⟩,
    ⟨(some 66), none, .pk (.t 61) (.c (.bool true)) (.t 65)⟩,
    ⟨(some 67), none, .mv (.t 66)⟩,
    ⟨(some 68), (some (67, false)), .mv (.t 11)⟩,
    ⟨(some 69), (some (67, false)), .ib .lss (.t 68) (.c (.int .i64 0))⟩,
    ⟨(some 70), none, .pk (.t 67) (.c (.bool true)) (.t 69)⟩,
    ⟨(some 71), none, .mv (.t 70)⟩,
    ⟨(some 72), (some (71, false)), .mv (.t 11)⟩,
    ⟨(some 73), (some (71, false)), .fa (.t 4) 5⟩,
    ⟨(some 74), (some (71, false)), .ld (.t 73) 1 false⟩,
    ⟨(some 75), (some (71, false)), .ib .add (.t 74) (.c (.int .i64 2))⟩,
    ⟨(some 76), (some (71, false)), .ib .gtr (.t 72) (.t 75)⟩,
    ⟨(some 77), none, .pk (.t 71) (.c (.bool true)) (.t 76)⟩])
  (.cd (.t 77)
  (.sq (.rg [⟨(some 2), none, .mv (.c (.bool false))⟩])
  .rt)
  .sk))
  (.rg [⟨(some 78), none, .mv (.t 7)⟩,
    ⟨(some 79), none, .mv (.t 9)⟩,
    ⟨(some 80), none, .ia (.t 78) (.t 79) 1⟩,
    ⟨none, none, .st (.t 80) (.c (.bool true)) 1⟩]))))
  (.rg [⟨(some 41), none, .mv (.t 8)⟩,
    ⟨(some 42), none, .ib .add (.t 41) (.c (.int .i64 1))⟩,
    ⟨(some 8), none, .mv (.t 42)⟩]))))))
  (.sq (.rg [⟨(some 82), none, .mv (.t 6)⟩,
    ⟨(some 83), none, .ca 18 [(.t 82)]⟩,
    ⟨(some 81), none, .mv (.t 83)⟩,
    ⟨(some 84), none, .ex (.t 81) 0⟩,
    ⟨(some 85), none, .ex (.t 81) 1⟩,
    ⟨(some 86), none, .ex (.t 81) 2⟩,
    ⟨(some 12), none, .mv (.t 84)⟩,
    ⟨(some 13), none, .mv (.t 85)⟩,
    ⟨(some 14), none, .mv (.t 86)⟩])
  (.sq (.sq (.rg [⟨(some 87), none, .mv (.t 12)⟩,
    ⟨(some 88), none, .ib .neq (.t 87) (.c (.int .i64 0))⟩,
    ⟨(some 89), none, .mv (.t 88)⟩,
    ⟨(some 90), (some (89, false)), .mv (.t 13)⟩,
    ⟨(some 91), none, .pk (.t 89) (.c (.bool true)) (.t 90)⟩,
    ⟨(some 92), none, .mv (.t 91)⟩,
    ⟨(some 93), (some (92, false)), .mv (.t 14)⟩,
    ⟨(some 94), (some (92, false)), .ib .neq (.t 93) (.c (.int .i64 1))⟩,
    ⟨(some 95), none, .pk (.t 92) (.c (.bool true)) (.t 94)⟩,
    ⟨(some 96), none, .mv (.t 95)⟩,
    ⟨(some 97), (some (96, false)), .mv (.t 6)⟩,
    ⟨(some 98), (some (96, false)), .ca 19 [(.t 97)]⟩,
    ⟨(some 99), (some (96, false)), .len (.t 98)⟩,
    ⟨(some 100), (some (96, false)), .ib .neq (.t 99) (.c (.int .i64 0))⟩,
    ⟨(some 101), none, .pk (.t 96) (.c (.bool true)) (.t 100)⟩])
  (.cd (.t 101)
  (.sq (.rg [⟨(some 2), none, .mv (.c (.bool false))⟩])
  .rt)
  .sk))
  (.sq (.sq (.rg [⟨(some 15), none, .mv (.c (.int .i64 0))⟩])
  (.bl 2
  (.lp
  (.sq (.sq (.rg [⟨(some 102), none, .mv (.t 15)⟩,
    ⟨(some 103), none, .fa (.t 4) 1⟩,
    ⟨(some 104), none, .ld (.t 103) 1 false⟩,
    ⟨(some 105), none, .ib .lss (.t 102) (.t 104)⟩])
  (.cd (.t 105)
  .sk
  (.ex 2)))
  (.sq (.bl 3
  (.rg [⟨(some 108), none, .mv (.t 6)⟩,
    ⟨(some 109), none, .mv (.t 15)⟩,
    ⟨(some 110), none, .bs 3 1 [(.int .i64 0)] [(0, 1, (.t 109))]⟩,
    ⟨(some 111), none, .ca 20 [(.t 108), (.t 110)]⟩]))
  (.rg [⟨(some 106), none, .mv (.t 15)⟩,
    ⟨(some 107), none, .ib .add (.t 106) (.c (.int .i64 1))⟩,
    ⟨(some 15), none, .mv (.t 107)⟩]))))))
  (.sq (.rg [⟨(some 112), none, .fa (.t 4) 1⟩,
    ⟨(some 113), none, .ld (.t 112) 1 false⟩,
    ⟨(some 114), none, .fa (.t 4) 4⟩,
    ⟨(some 115), none, .ld (.t 114) 1 false⟩,
    ⟨(some 116), none, .ib .sub (.t 113) (.t 115)⟩,
    ⟨(some 117), none, .mm true (.t 116) (.c (.int .i64 0))⟩,
    ⟨(some 16), none, .mv (.t 117)⟩])
  (.sq (.rg [⟨(some 17), none, .mv (.c (.int .i64 0))⟩])
  (.sq (.sq (.rg [⟨(some 118), none, .mv (.t 16)⟩,
    ⟨(some 119), none, .ib .gtr (.t 118) (.c (.int .i64 0))⟩])
  (.cd (.t 119)
  (.rg [⟨(some 120), none, .mv (.t 16)⟩,
    ⟨(some 121), none, .ib .add (.t 120) (.c (.int .i64 2))⟩,
    ⟨(some 17), none, .mv (.t 121)⟩])
  .sk))
  (.sq (.sq (.rd [⟨0, 0, [6], ⟨(some 122), none, .mv (.t 6)⟩⟩,
    ⟨1, 1, [122], ⟨(some 123), none, .ca 22 [(.t 122)]⟩⟩,
    ⟨2, 3, [123], ⟨(some 124), none, .ca 21 [(.t 123)]⟩⟩,
    ⟨3, 0, [17], ⟨(some 125), none, .mv (.t 17)⟩⟩,
    ⟨4, 15, [124, 125], ⟨(some 126), none, .ib .neq (.t 124) (.t 125)⟩⟩,
    ⟨5, 31, [126], ⟨(some 127), none, .mv (.t 126)⟩⟩,
    ⟨6, 63, [6, 127], ⟨(some 128), (some (127, false)), .mv (.t 6)⟩⟩,
    ⟨7, 127, [128, 127], ⟨(some 129), (some (127, false)), .ca 19 [(.t 128)]⟩⟩,
    ⟨8, 255, [129, 127], ⟨(some 130), (some (127, false)), .len (.t 129)⟩⟩,
    ⟨9, 63, [4, 127], ⟨(some 131), (some (127, false)), .fa (.t 4) 1⟩⟩,
    ⟨10, 575, [131, 127], ⟨(some 132), (some (127, false)), .ld (.t 131) 1 false⟩⟩,
    ⟨11, 63, [16, 127], ⟨(some 133), (some (127, false)), .mv (.t 16)⟩⟩,
    ⟨12, 3647, [132, 133, 127], ⟨(some 134), (some (127, false)), .ib .sub (.t 132) (.t 133)⟩⟩,
    ⟨13, 8191, [130, 134, 127], ⟨(some 135), (some (127, false)), .ib .neq (.t 130) (.t 134)⟩⟩,
    ⟨14, 16383, [127, 135], ⟨(some 136), none, .pk (.t 127) (.c (.bool true)) (.t 135)⟩⟩,
    ⟨15, 32767, [136], ⟨(some 137), none, .mv (.t 136)⟩⟩,
    ⟨16, 65535, [5, 137], ⟨(some 138), (some (137, false)), .mv (.t 5)⟩⟩,
    ⟨17, 131071, [138, 137], ⟨(some 139), (some (137, false)), .nc (.t 138)⟩⟩,
    ⟨18, 262143, [139, 137], ⟨(some 140), (some (137, false)), .fa (.t 139) 1⟩⟩,
    ⟨19, 524287, [140, 137], ⟨(some 141), (some (137, false)), .ld (.t 140) 1 false⟩⟩,
    ⟨20, 1048575, [141, 137], ⟨(some 142), (some (137, false)), .ca 23 [(.t 141)]⟩⟩,
    ⟨21, 2097151, [142, 137], ⟨(some 143), (some (137, false)), .len (.t 142)⟩⟩,
    ⟨22, 65535, [16, 137], ⟨(some 144), (some (137, false)), .mv (.t 16)⟩⟩,
    ⟨23, 8388607, [143, 144, 137], ⟨(some 145), (some (137, false)), .ib .neq (.t 143) (.t 144)⟩⟩,
    ⟨24, 16777215, [137, 145], ⟨(some 146), none, .pk (.t 137) (.c (.bool true)) (.t 145)⟩⟩])
  (.cd (.t 146)
  (.sq (.rg [⟨(some 2), none, .mv (.c (.bool false))⟩])
  .rt)
  .sk))
  (.sq (.rg [⟨(some 147), none, .mv (.t 6)⟩,
    ⟨(some 148), none, .ca 19 [(.t 147)]⟩,
    ⟨(some 149), none, .len (.t 148)⟩,
    ⟨(some 18), none, .mv (.t 149)⟩])
  (.sq (.rg [⟨(some 17), none, .mv (.c (.int .i64 0))⟩])
  (.sq (.sq (.rg [⟨(some 150), none, .mv (.t 18)⟩,
    ⟨(some 151), none, .ib .gtr (.t 150) (.c (.int .i64 0))⟩])
  (.cd (.t 151)
  (.rg [⟨(some 152), none, .mv (.t 18)⟩,
    ⟨(some 153), none, .ib .add (.t 152) (.c (.int .i64 2))⟩,
    ⟨(some 17), none, .mv (.t 153)⟩])
  .sk))
  (.sq (.rd [⟨0, 0, [3], ⟨(some 154), none, .mv (.t 3)⟩⟩,
    ⟨1, 1, [154], ⟨(some 155), none, .mv (.t 154)⟩⟩,
    ⟨2, 3, [6, 155], ⟨(some 156), (some (155, true)), .mv (.t 6)⟩⟩,
    ⟨3, 7, [156, 155], ⟨(some 157), (some (155, true)), .ca 24 [(.t 156)]⟩⟩,
    ⟨4, 15, [157, 155], ⟨(some 158), (some (155, true)), .ca 21 [(.t 157)]⟩⟩,
    ⟨5, 3, [17, 155], ⟨(some 159), (some (155, true)), .mv (.t 17)⟩⟩,
    ⟨6, 63, [158, 159, 155], ⟨(some 160), (some (155, true)), .ib .eql (.t 158) (.t 159)⟩⟩,
    ⟨7, 127, [155, 160], ⟨(some 161), none, .pk (.t 155) (.t 160) (.c (.bool false))⟩⟩,
    ⟨8, 255, [161], ⟨(some 162), none, .mv (.t 161)⟩⟩,
    ⟨9, 511, [6, 162], ⟨(some 163), (some (162, true)), .mv (.t 6)⟩⟩,
    ⟨10, 1023, [163, 162], ⟨(some 164), (some (162, true)), .ca 19 [(.t 163)]⟩⟩,
    ⟨11, 2047, [164, 162], ⟨(some 165), (some (162, true)), .len (.t 164)⟩⟩,
    ⟨12, 4095, [165, 162], ⟨(some 166), (some (162, true)), .ib .eql (.t 165) (.c (.int .i64 0))⟩⟩,
    ⟨13, 8191, [162, 166], ⟨(some 167), none, .pk (.t 162) (.t 166) (.c (.bool false))⟩⟩,
    ⟨14, 16383, [167], ⟨(some 168), none, .mv (.t 167)⟩⟩,
    ⟨15, 32767, [5, 168], ⟨(some 169), (some (168, true)), .mv (.t 5)⟩⟩,
    ⟨16, 65535, [169, 168], ⟨(some 170), (some (168, true)), .nc (.t 169)⟩⟩,
    ⟨17, 131071, [170, 168], ⟨(some 171), (some (168, true)), .fa (.t 170) 1⟩⟩,
    ⟨18, 262143, [171, 168], ⟨(some 172), (some (168, true)), .ld (.t 171) 1 false⟩⟩,
    ⟨19, 524287, [172, 168], ⟨(some 173), (some (168, true)), .ca 23 [(.t 172)]⟩⟩,
    ⟨20, 1048575, [173, 168], ⟨(some 174), (some (168, true)), .len (.t 173)⟩⟩,
    ⟨21, 32767, [4, 168], ⟨(some 175), (some (168, true)), .fa (.t 4) 1⟩⟩,
    ⟨22, 2129919, [175, 168], ⟨(some 176), (some (168, true)), .ld (.t 175) 1 false⟩⟩,
    ⟨23, 8388607, [174, 176, 168], ⟨(some 177), (some (168, true)), .ib .eql (.t 174) (.t 176)⟩⟩,
    ⟨24, 16777215, [168, 177], ⟨(some 178), none, .pk (.t 168) (.t 177) (.c (.bool false))⟩⟩,
    ⟨25, 33554431, [178], ⟨(some 2), none, .mv (.t 178)⟩⟩])
  .rt))))))))))))))))))))⟩
theorem k4 : cF Tryz.prog Tryz.f4 = some c4 := by kernel_rfl
/-- rundale/rundalelaw13.SupplyPlays -/
def c5 : Fu := ⟨68, [.t 4],
  (.sq (.rg [⟨(some 4), none, .mv (.c (.bool false))⟩])
  (.sq (.rg [⟨(some 10), none, .ca 16 []⟩,
    ⟨(some 5), none, .mv (.t 10)⟩])
  (.sq (.sq (.rg [⟨(some 11), none, .mv (.t 5)⟩,
    ⟨(some 12), none, .nt (.t 11)⟩])
  (.cd (.t 12)
  (.sq (.rg [⟨(some 4), none, .mv (.c (.bool false))⟩])
  .rt)
  .sk))
  (.sq (.sq (.rg [⟨(some 13), none, .mv (.t 1)⟩,
    ⟨(some 14), none, .len (.t 13)⟩,
    ⟨(some 15), none, .ib .gtr (.t 14) (.c (.int .i64 120))⟩])
  (.cd (.t 15)
  (.sq (.rg [⟨(some 16), none, .mv (.t 5)⟩,
    ⟨(some 4), none, .mv (.t 16)⟩])
  .rt)
  .sk))
  (.sq (.rg [⟨(some 17), none, .mv (.t 0)⟩,
    ⟨(some 18), none, .ca 10 [(.t 17)]⟩,
    ⟨(some 6), none, .al 24 [(.int .i64 0), (.int .i64 0), (.int .i64 0), (.int .i64 0), (.int .i64 0), (.int .i64 0)]⟩,
    ⟨none, none, .st (.t 6) (.t 18) 6⟩])
  (.sq (.rg [⟨(some 19), none, .ld (.t 6) 6 true⟩,
    ⟨(some 20), none, .ca 17 [(.t 19), (.c (.int .i64 3))]⟩,
    ⟨(some 7), none, .mv (.t 20)⟩])
  (.sq (.sq (.rg [⟨(some 21), none, .mv (.t 7)⟩,
    ⟨(some 22), none, .en 0 false (.t 21) (.c (.pointer none))⟩])
  (.cd (.t 22)
  (.sq (.rg [⟨(some 4), none, .mv (.c (.bool false))⟩])
  .rt)
  .sk))
  (.sq (.rg [⟨(some 23), none, .bd [(.pointer none), (.pointer none), (.pointer none), (.pointer none), (.pointer none), (.pointer none), (.pointer none), (.pointer none), (.pointer none), (.pointer none), (.pointer none), (.pointer none), (.slice none 0 0), (.slice none 0 0), (.slice none 0 0), (.int .i64 0), (.int .i64 0), (.int .i64 0)] []⟩,
    ⟨(some 24), none, .bx 67 (.t 23)⟩,
    ⟨(some 8), none, .mv (.t 24)⟩])
  (.sq (.sq (.rg [⟨(some 9), none, .mv (.c (.int .i64 0))⟩])
  (.bl 0
  (.lp
  (.sq (.sq (.rg [⟨(some 25), none, .mv (.t 9)⟩,
    ⟨(some 26), none, .mv (.t 1)⟩,
    ⟨(some 27), none, .len (.t 26)⟩,
    ⟨(some 28), none, .ib .lss (.t 25) (.t 27)⟩])
  (.cd (.t 28)
  .sk
  (.ex 0)))
  (.sq (.bl 1
  (.sq (.rd [⟨0, 0, [8], ⟨(some 31), none, .mv (.t 8)⟩⟩,
    ⟨1, 0, [7], ⟨(some 32), none, .mv (.t 7)⟩⟩,
    ⟨2, 0, [1], ⟨(some 33), none, .mv (.t 1)⟩⟩,
    ⟨3, 0, [9], ⟨(some 34), none, .mv (.t 9)⟩⟩,
    ⟨4, 12, [33, 34], ⟨(some 35), none, .ia (.t 33) (.t 34) 1⟩⟩,
    ⟨5, 28, [35], ⟨(some 36), none, .ld (.t 35) 1 false⟩⟩,
    ⟨6, 60, [36], ⟨(some 37), none, .ca 12 [(.t 36), (.c (.int .i64 3))]⟩⟩,
    ⟨7, 0, [1], ⟨(some 38), none, .mv (.t 1)⟩⟩,
    ⟨8, 0, [9], ⟨(some 39), none, .mv (.t 9)⟩⟩,
    ⟨9, 384, [38, 39], ⟨(some 40), none, .ia (.t 38) (.t 39) 1⟩⟩,
    ⟨10, 896, [40], ⟨(some 41), none, .ld (.t 40) 1 false⟩⟩,
    ⟨11, 1920, [41], ⟨(some 42), none, .ib .quo (.t 41) (.c (.int .i64 3))⟩⟩,
    ⟨12, 4092, [42], ⟨(some 43), none, .ca 12 [(.t 42), (.c (.int .i64 280))]⟩⟩,
    ⟨13, 8191, [31, 32, 37, 43], ⟨(some 44), none, .ca 25 [(.t 31), (.t 32), (.t 37), (.t 43)]⟩⟩,
    ⟨14, 16383, [44], ⟨(some 45), none, .nt (.t 44)⟩⟩,
    ⟨15, 32767, [45], ⟨(some 46), none, .mv (.t 45)⟩⟩,
    ⟨16, 65535, [7, 46], ⟨(some 47), (some (46, false)), .mv (.t 7)⟩⟩,
    ⟨17, 131071, [47, 46], ⟨(some 48), (some (46, false)), .ca 26 [(.t 47)]⟩⟩,
    ⟨18, 262143, [48, 46], ⟨(some 49), (some (46, false)), .nt (.t 48)⟩⟩,
    ⟨19, 524287, [46, 49], ⟨(some 50), none, .pk (.t 46) (.c (.bool true)) (.t 49)⟩⟩])
  (.cd (.t 50)
  (.sq (.rg [⟨(some 4), none, .mv (.c (.bool false))⟩])
  .rt)
  .sk)))
  (.rg [⟨(some 29), none, .mv (.t 9)⟩,
    ⟨(some 30), none, .ib .add (.t 29) (.c (.int .i64 1))⟩,
    ⟨(some 9), none, .mv (.t 30)⟩]))))))
  (.sq (.rd [⟨0, 0, [5], ⟨(some 51), none, .mv (.t 5)⟩⟩,
    ⟨1, 1, [51], ⟨(some 52), none, .mv (.t 51)⟩⟩,
    ⟨2, 3, [7, 52], ⟨(some 53), (some (52, true)), .mv (.t 7)⟩⟩,
    ⟨3, 7, [53, 52], ⟨(some 54), (some (52, true)), .nc (.t 53)⟩⟩,
    ⟨4, 15, [54, 52], ⟨(some 55), (some (52, true)), .fa (.t 54) 1⟩⟩,
    ⟨5, 31, [55, 52], ⟨(some 56), (some (52, true)), .ld (.t 55) 1 false⟩⟩,
    ⟨6, 63, [56, 52], ⟨(some 57), (some (52, true)), .ca 23 [(.t 56)]⟩⟩,
    ⟨7, 3, [7, 52], ⟨(some 58), (some (52, true)), .mv (.t 7)⟩⟩,
    ⟨8, 131, [58, 52], ⟨(some 59), (some (52, true)), .nc (.t 58)⟩⟩,
    ⟨9, 387, [59, 52], ⟨(some 60), (some (52, true)), .fa (.t 59) 3⟩⟩,
    ⟨10, 899, [60, 52], ⟨(some 61), (some (52, true)), .ld (.t 60) 1 false⟩⟩,
    ⟨11, 1923, [61, 52], ⟨(some 62), (some (52, true)), .nc (.t 61)⟩⟩,
    ⟨12, 3971, [62, 52], ⟨(some 63), (some (52, true)), .fa (.t 62) 7⟩⟩,
    ⟨13, 8067, [63, 52], ⟨(some 64), (some (52, true)), .ld (.t 63) 1 false⟩⟩,
    ⟨14, 16383, [64, 52], ⟨(some 65), (some (52, true)), .ca 28 [(.t 64)]⟩⟩,
    ⟨15, 32767, [57, 65, 52], ⟨(some 66), (some (52, true)), .ca 27 [(.t 57), (.t 65)]⟩⟩,
    ⟨16, 65535, [52, 66], ⟨(some 67), none, .pk (.t 52) (.t 66) (.c (.bool false))⟩⟩,
    ⟨17, 131071, [67], ⟨(some 4), none, .mv (.t 67)⟩⟩])
  .rt))))))))))⟩
theorem k5 : cF Tryz.prog Tryz.f5 = some c5 := by kernel_rfl
/-- rundale/rundalelaw17.GatherCosts -/
def c6 : Fu := ⟨128, [.t 4],
  (.sq (.rg [⟨(some 4), none, .mv (.c (.bool false))⟩])
  (.sq (.rg [⟨(some 15), none, .ca 9 []⟩,
    ⟨(some 5), none, .mv (.t 15)⟩])
  (.sq (.sq (.rg [⟨(some 16), none, .mv (.t 5)⟩,
    ⟨(some 17), none, .nt (.t 16)⟩])
  (.cd (.t 17)
  (.sq (.rg [⟨(some 4), none, .mv (.c (.bool false))⟩])
  .rt)
  .sk))
  (.sq (.rg [⟨(some 18), none, .mv (.t 0)⟩,
    ⟨(some 19), none, .ca 10 [(.t 18)]⟩,
    ⟨(some 20), none, .ca 29 [(.t 19)]⟩,
    ⟨(some 6), none, .mv (.t 20)⟩])
  (.sq (.sq (.rg [⟨(some 21), none, .mv (.t 6)⟩,
    ⟨(some 22), none, .en 0 false (.t 21) (.c (.pointer none))⟩])
  (.cd (.t 22)
  (.sq (.rg [⟨(some 4), none, .mv (.c (.bool false))⟩])
  .rt)
  .sk))
  (.sq (.rg [⟨(some 23), none, .mv (.t 1)⟩,
    ⟨(some 24), none, .mv (.t 6)⟩,
    ⟨(some 25), none, .nc (.t 24)⟩,
    ⟨(some 26), none, .fa (.t 25) 0⟩,
    ⟨(some 27), none, .fa (.t 26) 1⟩,
    ⟨(some 28), none, .ld (.t 27) 1 false⟩,
    ⟨(some 29), none, .ib .add (.t 28) (.c (.int .i64 1))⟩,
    ⟨(some 30), none, .ca 12 [(.t 23), (.t 29)]⟩,
    ⟨(some 7), none, .mv (.t 30)⟩])
  (.sq (.rg [⟨(some 8), none, .mv (.c (.slice none 0 0))⟩])
  (.sq (.sq (.rg [⟨(some 9), none, .mv (.c (.int .i64 0))⟩])
  (.bl 0
  (.lp
  (.sq (.sq (.rg [⟨(some 31), none, .mv (.t 9)⟩,
    ⟨(some 32), none, .mv (.t 7)⟩,
    ⟨(some 33), none, .ib .lss (.t 31) (.t 32)⟩])
  (.cd (.t 33)
  .sk
  (.ex 0)))
  (.sq (.bl 1
  (.sq (.rg [⟨(some 37), none, .mv (.t 6)⟩,
    ⟨(some 38), none, .ca 30 [(.t 37), (.c (.int .i64 0))]⟩,
    ⟨(some 36), none, .mv (.t 38)⟩,
    ⟨(some 39), none, .ex (.t 36) 0⟩,
    ⟨(some 40), none, .ex (.t 36) 1⟩,
    ⟨(some 10), none, .mv (.t 39)⟩,
    ⟨(some 11), none, .mv (.t 40)⟩])
  (.sq (.sq (.rg [⟨(some 41), none, .mv (.t 11)⟩,
    ⟨(some 42), none, .nt (.t 41)⟩])
  (.cd (.t 42)
  (.sq (.rg [⟨(some 4), none, .mv (.c (.bool false))⟩])
  .rt)
  .sk))
  (.rg [⟨(some 43), none, .mv (.t 8)⟩,
    ⟨(some 44), none, .mv (.t 10)⟩,
    ⟨(some 45), none, .bs 3 1 [(.int .i64 0)] [(0, 1, (.t 44))]⟩,
    ⟨(some 46), none, .ap 49 3 1 8 [(.int .i64 0)] (.t 43) (.t 45)⟩,
    ⟨(some 8), none, .mv (.t 46)⟩]))))
  (.rg [⟨(some 34), none, .mv (.t 9)⟩,
    ⟨(some 35), none, .ib .add (.t 34) (.c (.int .i64 1))⟩,
    ⟨(some 9), none, .mv (.t 35)⟩]))))))
  (.sq (.rg [⟨(some 47), none, .mv (.t 6)⟩,
    ⟨(some 48), none, .nc (.t 47)⟩,
    ⟨(some 49), none, .fa (.t 48) 10⟩,
    ⟨(some 50), none, .ld (.t 49) 1 false⟩,
    ⟨(some 51), none, .ia (.t 50) (.c (.int .i64 0)) 1⟩,
    ⟨(some 52), none, .ld (.t 51) 1 false⟩,
    ⟨(some 53), none, .mv (.t 8)⟩,
    ⟨(some 54), none, .ca 20 [(.t 52), (.t 53)]⟩])
  (.sq (.rg [⟨(some 55), none, .mv (.t 6)⟩,
    ⟨(some 56), none, .nc (.t 55)⟩,
    ⟨(some 57), none, .fa (.t 56) 0⟩,
    ⟨(some 58), none, .fa (.t 57) 0⟩,
    ⟨(some 59), none, .ld (.t 58) 1 false⟩,
    ⟨(some 60), none, .ib .add (.t 59) (.c (.int .i64 3))⟩,
    ⟨(some 12), none, .mv (.t 60)⟩])
  (.sq (.sq (.rg [⟨(some 61), none, .mv (.t 6)⟩,
    ⟨(some 62), none, .nc (.t 61)⟩,
    ⟨(some 63), none, .fa (.t 62) 10⟩,
    ⟨(some 64), none, .ld (.t 63) 1 false⟩,
    ⟨(some 65), none, .ia (.t 64) (.c (.int .i64 0)) 1⟩,
    ⟨(some 66), none, .ld (.t 65) 1 false⟩,
    ⟨(some 67), none, .ca 19 [(.t 66)]⟩,
    ⟨(some 68), none, .len (.t 67)⟩,
    ⟨(some 69), none, .ib .gtr (.t 68) (.c (.int .i64 0))⟩])
  (.cd (.t 69)
  (.rg [⟨(some 70), none, .mv (.t 12)⟩,
    ⟨(some 71), none, .mv (.t 6)⟩,
    ⟨(some 72), none, .nc (.t 71)⟩,
    ⟨(some 73), none, .fa (.t 72) 10⟩,
    ⟨(some 74), none, .ld (.t 73) 1 false⟩,
    ⟨(some 75), none, .ia (.t 74) (.c (.int .i64 0)) 1⟩,
    ⟨(some 76), none, .ld (.t 75) 1 false⟩,
    ⟨(some 77), none, .ca 19 [(.t 76)]⟩,
    ⟨(some 78), none, .len (.t 77)⟩,
    ⟨(some 79), none, .ib .add (.t 70) (.t 78)⟩,
    ⟨(some 80), none, .ib .add (.t 79) (.c (.int .i64 2))⟩,
    ⟨(some 12), none, .mv (.t 80)⟩])
  .sk))
  (.sq (.rg [⟨(some 82), none, .mv (.t 6)⟩,
    ⟨(some 83), none, .ca 31 [(.t 82), (.c (.int .i64 0))]⟩,
    ⟨(some 81), none, .mv (.t 83)⟩,
    ⟨(some 84), none, .ex (.t 81) 0⟩,
    ⟨(some 85), none, .ex (.t 81) 1⟩,
    ⟨(some 13), none, .mv (.t 84)⟩,
    ⟨(some 14), none, .mv (.t 85)⟩])
  (.sq (.rd [⟨0, 0, [5], ⟨(some 86), none, .mv (.t 5)⟩⟩,
    ⟨1, 1, [86], ⟨(some 87), none, .mv (.t 86)⟩⟩,
    ⟨2, 3, [13, 87], ⟨(some 88), (some (87, true)), .mv (.t 13)⟩⟩,
    ⟨3, 7, [87, 88], ⟨(some 89), none, .pk (.t 87) (.t 88) (.c (.bool false))⟩⟩,
    ⟨4, 15, [89], ⟨(some 90), none, .mv (.t 89)⟩⟩,
    ⟨5, 31, [14, 90], ⟨(some 91), (some (90, true)), .mv (.t 14)⟩⟩,
    ⟨6, 31, [12, 90], ⟨(some 92), (some (90, true)), .mv (.t 12)⟩⟩,
    ⟨7, 127, [91, 92, 90], ⟨(some 93), (some (90, true)), .ib .eql (.t 91) (.t 92)⟩⟩,
    ⟨8, 255, [90, 93], ⟨(some 94), none, .pk (.t 90) (.t 93) (.c (.bool false))⟩⟩,
    ⟨9, 511, [94], ⟨(some 95), none, .mv (.t 94)⟩⟩,
    ⟨10, 1023, [6, 95], ⟨(some 96), (some (95, true)), .mv (.t 6)⟩⟩,
    ⟨11, 2047, [96, 95], ⟨(some 97), (some (95, true)), .nc (.t 96)⟩⟩,
    ⟨12, 4095, [97, 95], ⟨(some 98), (some (95, true)), .fa (.t 97) 10⟩⟩,
    ⟨13, 8191, [98, 95], ⟨(some 99), (some (95, true)), .ld (.t 98) 1 false⟩⟩,
    ⟨14, 16383, [99, 95], ⟨(some 100), (some (95, true)), .ia (.t 99) (.c (.int .i64 0)) 1⟩⟩,
    ⟨15, 32767, [100, 95], ⟨(some 101), (some (95, true)), .ld (.t 100) 1 false⟩⟩,
    ⟨16, 65535, [101, 95], ⟨(some 102), (some (95, true)), .ca 19 [(.t 101)]⟩⟩,
    ⟨17, 131071, [102, 95], ⟨(some 103), (some (95, true)), .len (.t 102)⟩⟩,
    ⟨18, 262143, [103, 95], ⟨(some 104), (some (95, true)), .ib .eql (.t 103) (.c (.int .i64 0))⟩⟩,
    ⟨19, 524287, [95, 104], ⟨(some 105), none, .pk (.t 95) (.t 104) (.c (.bool false))⟩⟩,
    ⟨20, 1048575, [105], ⟨(some 106), none, .mv (.t 105)⟩⟩,
    ⟨21, 2097151, [6, 106], ⟨(some 107), (some (106, true)), .mv (.t 6)⟩⟩,
    ⟨22, 4194303, [107, 106], ⟨(some 108), (some (106, true)), .nc (.t 107)⟩⟩,
    ⟨23, 8388607, [108, 106], ⟨(some 109), (some (106, true)), .fa (.t 108) 9⟩⟩,
    ⟨24, 16777215, [109, 106], ⟨(some 110), (some (106, true)), .ld (.t 109) 1 false⟩⟩,
    ⟨25, 33554431, [110, 106], ⟨(some 111), (some (106, true)), .ca 23 [(.t 110)]⟩⟩,
    ⟨26, 67108863, [111, 106], ⟨(some 112), (some (106, true)), .len (.t 111)⟩⟩,
    ⟨27, 2097151, [6, 106], ⟨(some 113), (some (106, true)), .mv (.t 6)⟩⟩,
    ⟨28, 136314879, [113, 106], ⟨(some 114), (some (106, true)), .nc (.t 113)⟩⟩,
    ⟨29, 404750335, [114, 106], ⟨(some 115), (some (106, true)), .fa (.t 114) 0⟩⟩,
    ⟨30, 941621247, [115, 106], ⟨(some 116), (some (106, true)), .fa (.t 115) 1⟩⟩,
    ⟨31, 2015363071, [116, 106], ⟨(some 117), (some (106, true)), .ld (.t 116) 1 false⟩⟩,
    ⟨32, 4294967295, [112, 117, 106], ⟨(some 118), (some (106, true)), .ib .eql (.t 112) (.t 117)⟩⟩,
    ⟨33, 8589934591, [106, 118], ⟨(some 119), none, .pk (.t 106) (.t 118) (.c (.bool false))⟩⟩,
    ⟨34, 17179869183, [119], ⟨(some 120), none, .mv (.t 119)⟩⟩,
    ⟨35, 34359738367, [6, 120], ⟨(some 121), (some (120, true)), .mv (.t 6)⟩⟩,
    ⟨36, 68719476735, [121, 120], ⟨(some 122), (some (120, true)), .nc (.t 121)⟩⟩,
    ⟨37, 137438953471, [122, 120], ⟨(some 123), (some (120, true)), .fa (.t 122) 7⟩⟩,
    ⟨38, 274877906943, [123, 120], ⟨(some 124), (some (120, true)), .ld (.t 123) 1 false⟩⟩,
    ⟨39, 549755813887, [124, 120], ⟨(some 125), (some (120, true)), .ca 32 [(.t 124)]⟩⟩,
    ⟨40, 1099511627775, [125, 120], ⟨(some 126), (some (120, true)), .ib .eql (.t 125) (.c (.int .i64 1))⟩⟩,
    ⟨41, 2199023255551, [120, 126], ⟨(some 127), none, .pk (.t 120) (.t 126) (.c (.bool false))⟩⟩,
    ⟨42, 4398046511103, [127], ⟨(some 4), none, .mv (.t 127)⟩⟩])
  .rt)))))))))))))⟩
theorem k6 : cF Tryz.prog Tryz.f6 = some c6 := by kernel_rfl
/-- rundale/rundalelaw17.first -/
def c9 : Fu := ⟨35, [.t 0],
  (.sq (.rg [⟨(some 0), none, .mv (.c (.bool false))⟩])
  (.sq (.rg [⟨(some 4), none, .bd [(.int .i64 0), (.int .i64 0), (.int .i64 0), (.int .i64 0), (.int .i64 0), (.int .i64 0)] [(0, 1, (.c (.int .i64 2))), (1, 1, (.c (.int .i64 2))), (2, 1, (.c (.int .i64 8))), (3, 1, (.c (.int .i64 1))), (5, 1, (.c (.int .i64 1)))]⟩,
    ⟨(some 5), none, .ca 29 [(.t 4)]⟩,
    ⟨(some 1), none, .mv (.t 5)⟩])
  (.sq (.sq (.rg [⟨(some 6), none, .mv (.t 1)⟩,
    ⟨(some 7), none, .en 0 false (.t 6) (.c (.pointer none))⟩])
  (.cd (.t 7)
  (.sq (.rg [⟨(some 0), none, .mv (.c (.bool false))⟩])
  .rt)
  .sk))
  (.sq (.rg [⟨(some 9), none, .mv (.t 1)⟩,
    ⟨(some 10), none, .ca 31 [(.t 9), (.c (.int .i64 0))]⟩,
    ⟨(some 8), none, .mv (.t 10)⟩,
    ⟨(some 11), none, .ex (.t 8) 0⟩,
    ⟨(some 12), none, .ex (.t 8) 1⟩,
    ⟨(some 2), none, .mv (.t 11)⟩,
    ⟨(some 3), none, .mv (.t 12)⟩])
  (.sq (.rg [⟨(some 13), none, .mv (.t 2)⟩,
    ⟨(some 14), none, .mv (.t 13)⟩,
    ⟨(some 15), (some (14, true)), .mv (.t 3)⟩,
    ⟨(some 16), (some (14, true)), .ib .eql (.t 15) (.c (.int .i64 5))⟩,
    ⟨(some 17), none, .pk (.t 14) (.t 16) (.c (.bool false))⟩,
    ⟨(some 18), none, .mv (.t 17)⟩,
    ⟨(some 19), (some (18, true)), .mv (.t 1)⟩,
    ⟨(some 20), (some (18, true)), .nc (.t 19)⟩,
    ⟨(some 21), (some (18, true)), .fa (.t 20) 7⟩,
    ⟨(some 22), (some (18, true)), .ld (.t 21) 1 false⟩,
    ⟨(some 23), (some (18, true)), .ca 32 [(.t 22)]⟩,
    ⟨(some 24), (some (18, true)), .ib .eql (.t 23) (.c (.int .i64 1))⟩,
    ⟨(some 25), none, .pk (.t 18) (.t 24) (.c (.bool false))⟩,
    ⟨(some 26), none, .mv (.t 25)⟩,
    ⟨(some 27), (some (26, true)), .mv (.t 1)⟩,
    ⟨(some 28), (some (26, true)), .nc (.t 27)⟩,
    ⟨(some 29), (some (26, true)), .fa (.t 28) 9⟩,
    ⟨(some 30), (some (26, true)), .ld (.t 29) 1 false⟩,
    ⟨(some 31), (some (26, true)), .ca 23 [(.t 30)]⟩,
    ⟨(some 32), (some (26, true)), .len (.t 31)⟩,
    ⟨(some 33), (some (26, true)), .ib .eql (.t 32) (.c (.int .i64 2))⟩,
    ⟨(some 34), none, .pk (.t 26) (.t 33) (.c (.bool false))⟩,
    ⟨(some 0), none, .mv (.t 34)⟩])
  .rt)))))⟩
theorem k9 : cF Tryz.prog Tryz.f9 = some c9 := by kernel_rfl
/-- rundale/rundalemake.Config -/
def c10 : Fu := ⟨43, [.c 2 6 true],
  (.sq (.rg [⟨(some 2), none, .al 24 [(.int .i64 0), (.int .i64 0), (.int .i64 0), (.int .i64 0), (.int .i64 0), (.int .i64 0)]⟩])
  (.sq (.rg [⟨(some 4), none, .mv (.t 0)⟩,
    ⟨(some 5), none, .ca 12 [(.t 4), (.c (.int .i64 4))]⟩,
    ⟨(some 6), none, .mv (.t 0)⟩,
    ⟨(some 7), none, .ib .quo (.t 6) (.c (.int .i64 4))⟩,
    ⟨(some 8), none, .ca 12 [(.t 7), (.c (.int .i64 8))]⟩,
    ⟨(some 9), none, .mv (.t 0)⟩,
    ⟨(some 10), none, .ib .quo (.t 9) (.c (.int .i64 32))⟩,
    ⟨(some 11), none, .ca 12 [(.t 10), (.c (.int .i64 2))]⟩,
    ⟨(some 12), none, .mv (.t 0)⟩,
    ⟨(some 13), none, .ib .quo (.t 12) (.c (.int .i64 64))⟩,
    ⟨(some 14), none, .ca 12 [(.t 13), (.c (.int .i64 4))]⟩,
    ⟨(some 15), none, .mv (.t 0)⟩,
    ⟨(some 16), none, .ib .quo (.t 15) (.c (.int .i64 256))⟩,
    ⟨(some 17), none, .ca 12 [(.t 16), (.c (.int .i64 4))]⟩,
    ⟨(some 18), none, .mv (.t 0)⟩,
    ⟨(some 19), none, .ib .quo (.t 18) (.c (.int .i64 1024))⟩,
    ⟨(some 20), none, .ca 12 [(.t 19), (.c (.int .i64 3))]⟩,
    ⟨(some 21), none, .bs 3 6 [(.int .i64 0), (.int .i64 0), (.int .i64 0), (.int .i64 0), (.int .i64 0), (.int .i64 0)] [(0, 1, (.t 5)), (1, 1, (.t 8)), (2, 1, (.t 11)), (3, 1, (.t 14)), (4, 1, (.t 17)), (5, 1, (.t 20))]⟩,
    ⟨(some 22), none, .bd [(.slice none 0 0), (.int .i64 0)] [(0, 1, (.t 21))]⟩,
    ⟨(some 23), none, .bx 117 (.t 22)⟩,
    ⟨(some 3), none, .mv (.t 23)⟩])
  (.sq (.rg [⟨(some 24), none, .mv (.t 3)⟩,
    ⟨(some 25), none, .ca 55 [(.t 24), (.c (.int .i64 4))]⟩,
    ⟨(some 26), none, .ib .add (.c (.int .i64 1)) (.t 25)⟩,
    ⟨(some 27), none, .mv (.t 3)⟩,
    ⟨(some 28), none, .ca 55 [(.t 27), (.c (.int .i64 8))]⟩,
    ⟨(some 29), none, .ib .add (.c (.int .i64 1)) (.t 28)⟩,
    ⟨(some 30), none, .mv (.t 3)⟩,
    ⟨(some 31), none, .ca 55 [(.t 30), (.c (.int .i64 2))]⟩,
    ⟨(some 32), none, .ib .mul (.c (.int .i64 8)) (.t 31)⟩,
    ⟨(some 33), none, .ib .add (.c (.int .i64 8)) (.t 32)⟩,
    ⟨(some 34), none, .mv (.t 3)⟩,
    ⟨(some 35), none, .ca 55 [(.t 34), (.c (.int .i64 4))]⟩,
    ⟨(some 36), none, .ib .add (.c (.int .i64 1)) (.t 35)⟩,
    ⟨(some 37), none, .mv (.t 3)⟩,
    ⟨(some 38), none, .ca 55 [(.t 37), (.c (.int .i64 4))]⟩,
    ⟨(some 39), none, .mv (.t 3)⟩,
    ⟨(some 40), none, .ca 55 [(.t 39), (.c (.int .i64 3))]⟩,
    ⟨(some 41), none, .ib .add (.c (.int .i64 1)) (.t 40)⟩,
    ⟨(some 42), none, .bd [(.int .i64 0), (.int .i64 0), (.int .i64 0), (.int .i64 0), (.int .i64 0), (.int .i64 0)] [(0, 1, (.t 26)), (1, 1, (.t 29)), (2, 1, (.t 33)), (3, 1, (.t 36)), (4, 1, (.t 38)), (5, 1, (.t 41))]⟩,
    ⟨none, none, .st (.t 2) (.t 42) 6⟩])
  .rt)))⟩
theorem k10 : cF Tryz.prog Tryz.f10 = some c10 := by kernel_rfl
/-- rundale/cells.New -/
def c11 : Fu := ⟨14, [.t 2, .t 3],
  (.sq (.rg [⟨(some 2), none, .mv (.c (.pointer none))⟩,
    ⟨(some 3), none, .mv (.c (.int .i64 0))⟩])
  (.sq (.sq (.rg [⟨(some 4), none, .mv (.t 0)⟩,
    ⟨(some 5), none, .ib .lss (.t 4) (.c (.int .i64 1))⟩,
    ⟨(some 6), none, .mv (.t 5)⟩,
    ⟨(some 7), (some (6, false)), .mv (.t 0)⟩,
    ⟨(some 8), (some (6, false)), .ib .gtr (.t 7) (.c (.int .i64 8388608))⟩,
    ⟨(some 9), none, .pk (.t 6) (.c (.bool true)) (.t 8)⟩])
  (.cd (.t 9)
  (.sq (.rg [⟨(some 2), none, .mv (.c (.pointer none))⟩,
    ⟨(some 3), none, .mv (.c (.int .i64 1))⟩])
  .rt)
  .sk))
  (.sq (.rg [⟨(some 10), none, .mv (.t 0)⟩,
    ⟨(some 11), none, .mk 103 1 8 [(.int .u64 0)] (.t 10) (.t 10)⟩,
    ⟨(some 12), none, .bd [(.slice none 0 0), (.int .i64 0), (.int .i64 0), (.int .i64 0), (.int .u64 0), (.int .u64 0), (.bool false)] [(0, 1, (.t 11))]⟩,
    ⟨(some 13), none, .bx 122 (.t 12)⟩,
    ⟨(some 2), none, .mv (.t 13)⟩,
    ⟨(some 3), none, .mv (.c (.int .i64 0))⟩])
  .rt)))⟩
theorem k11 : cF Tryz.prog Tryz.f11 = some c11 := by kernel_rfl
/-- rundale/rundalemake.Number -/
def c12 : Fu := ⟨15, [.t 4],
  (.sq (.rg [⟨(some 4), none, .mv (.c (.int .i64 0))⟩])
  (.sq (.rg [⟨(some 6), none, .mv (.t 0)⟩,
    ⟨(some 7), none, .mv (.t 1)⟩,
    ⟨(some 8), none, .ib .rem (.t 6) (.t 7)⟩,
    ⟨(some 5), none, .mv (.t 8)⟩])
  (.sq (.sq (.rg [⟨(some 9), none, .mv (.t 5)⟩,
    ⟨(some 10), none, .ib .lss (.t 9) (.c (.int .i64 0))⟩])
  (.cd (.t 10)
  (.rg [⟨(some 11), none, .mv (.t 5)⟩,
    ⟨(some 12), none, .mv (.t 1)⟩,
    ⟨(some 13), none, .ib .add (.t 11) (.t 12)⟩,
    ⟨(some 5), none, .mv (.t 13)⟩])
  .sk))
  (.sq (.rg [⟨(some 14), none, .mv (.t 5)⟩,
    ⟨(some 4), none, .mv (.t 14)⟩])
  .rt))))⟩
theorem k12 : cF Tryz.prog Tryz.f12 = some c12 := by kernel_rfl
/-- rundale/lay.Len -/
def c13 : Fu := ⟨17, [.t 2],
  (.sq (.rg [⟨(some 1), none, .bx 24 (.t 0)⟩,
    ⟨(some 2), none, .mv (.c (.int .i64 0))⟩])
  (.sq (.sq (.rg [⟨(some 5), none, .ld (.t 1) 6 true⟩,
    ⟨(some 6), none, .ca 56 [(.t 5)]⟩,
    ⟨(some 7), none, .nt (.t 6)⟩])
  (.cd (.t 7)
  (.sq (.rg [⟨(some 2), none, .mv (.c (.int .i64 0))⟩])
  .rt)
  .sk))
  (.sq (.rg [⟨(some 8), none, .ld (.t 1) 6 true⟩,
    ⟨(some 9), none, .ca 57 [(.t 8)]⟩,
    ⟨(some 3), none, .al 126 [(.int .i64 0), (.int .i64 0), (.int .i64 0), (.int .i64 0), (.int .i64 0), (.int .i64 0), (.int .i64 0), (.int .i64 0), (.int .i64 0), (.int .i64 0), (.int .i64 0), (.int .i64 0), (.int .i64 0), (.int .i64 0), (.int .i64 0)]⟩,
    ⟨none, none, .st (.t 3) (.t 9) 15⟩])
  (.sq (.rg [⟨(some 10), none, .iaa (.t 3) (.c (.int .i64 4)) 5 3⟩,
    ⟨(some 11), none, .ld (.t 10) 3 true⟩,
    ⟨(some 4), none, .al 125 [(.int .i64 0), (.int .i64 0), (.int .i64 0)]⟩,
    ⟨none, none, .st (.t 4) (.t 11) 3⟩])
  (.sq (.rg [⟨(some 12), none, .fa (.t 4) 1⟩,
    ⟨(some 13), none, .ld (.t 12) 1 false⟩,
    ⟨(some 14), none, .fa (.t 4) 2⟩,
    ⟨(some 15), none, .ld (.t 14) 1 false⟩,
    ⟨(some 16), none, .ib .add (.t 13) (.t 15)⟩,
    ⟨(some 2), none, .mv (.t 16)⟩])
  .rt)))))⟩
theorem k13 : cF Tryz.prog Tryz.f13 = some c13 := by kernel_rfl
/-- rundale/gather.New -/
def c14 : Fu := ⟨34, [.t 4, .t 5],
  (.sq (.rg [⟨(some 3), none, .bx 24 (.t 1)⟩,
    ⟨(some 4), none, .mv (.c (.pointer none))⟩,
    ⟨(some 5), none, .mv (.c (.int .i64 0))⟩])
  (.sq (.sq (.rd [⟨0, 0, [3], ⟨(some 8), none, .ld (.t 3) 6 true⟩⟩,
    ⟨1, 1, [8], ⟨(some 9), none, .ca 56 [(.t 8)]⟩⟩,
    ⟨2, 3, [9], ⟨(some 10), none, .nt (.t 9)⟩⟩,
    ⟨3, 7, [10], ⟨(some 11), none, .mv (.t 10)⟩⟩,
    ⟨4, 15, [0, 11], ⟨(some 12), (some (11, false)), .mv (.t 0)⟩⟩,
    ⟨5, 31, [12, 11], ⟨(some 13), (some (11, false)), .ca 58 [(.t 12)]⟩⟩,
    ⟨6, 15, [3, 11], ⟨(some 14), (some (11, false)), .ld (.t 3) 6 true⟩⟩,
    ⟨7, 127, [14, 11], ⟨(some 15), (some (11, false)), .ca 13 [(.t 14)]⟩⟩,
    ⟨8, 255, [13, 15, 11], ⟨(some 16), (some (11, false)), .ib .lss (.t 13) (.t 15)⟩⟩,
    ⟨9, 511, [11, 16], ⟨(some 17), none, .pk (.t 11) (.c (.bool true)) (.t 16)⟩⟩])
  (.cd (.t 17)
  (.sq (.rg [⟨(some 4), none, .mv (.c (.pointer none))⟩,
    ⟨(some 5), none, .mv (.c (.int .i64 1))⟩])
  .rt)
  .sk))
  (.sq (.rd [⟨0, 0, [0], ⟨(some 19), none, .mv (.t 0)⟩⟩,
    ⟨1, 0, [3], ⟨(some 20), none, .ld (.t 3) 6 true⟩⟩,
    ⟨2, 2, [20], ⟨(some 21), none, .ca 49 [(.t 20), (.c (.int .i64 0))]⟩⟩,
    ⟨3, 0, [3], ⟨(some 22), none, .fa (.t 3) 0⟩⟩,
    ⟨4, 8, [22], ⟨(some 23), none, .ld (.t 22) 1 false⟩⟩,
    ⟨5, 31, [19, 21, 23], ⟨(some 24), none, .ca 59 [(.t 19), (.c (.int .i64 2)), (.t 21), (.t 23)]⟩⟩,
    ⟨6, 63, [24], ⟨(some 18), none, .mv (.t 24)⟩⟩,
    ⟨7, 127, [18], ⟨(some 25), none, .ex (.t 18) 0⟩⟩,
    ⟨8, 127, [18], ⟨(some 26), none, .ex (.t 18) 1⟩⟩,
    ⟨9, 255, [25], ⟨(some 6), none, .mv (.t 25)⟩⟩,
    ⟨10, 1023, [26], ⟨(some 7), none, .mv (.t 26)⟩⟩])
  (.sq (.sq (.rg [⟨(some 27), none, .mv (.t 7)⟩,
    ⟨(some 28), none, .ib .neq (.t 27) (.c (.int .i64 0))⟩])
  (.cd (.t 28)
  (.sq (.rg [⟨(some 29), none, .mv (.t 7)⟩,
    ⟨(some 4), none, .mv (.c (.pointer none))⟩,
    ⟨(some 5), none, .mv (.t 29)⟩])
  .rt)
  .sk))
  (.sq (.rg [⟨(some 30), none, .mv (.t 0)⟩,
    ⟨(some 31), none, .mv (.t 6)⟩,
    ⟨(some 32), none, .bd [(.pointer none), (.pointer none)] [(0, 1, (.t 30)), (1, 1, (.t 31))]⟩,
    ⟨(some 33), none, .bx 131 (.t 32)⟩,
    ⟨(some 4), none, .mv (.t 33)⟩,
    ⟨(some 5), none, .mv (.c (.int .i64 0))⟩])
  .rt)))))⟩
theorem k14 : cF Tryz.prog Tryz.f14 = some c14 := by kernel_rfl
/-- (*rundale/supply.Supply).Stash -/
def c19 : Fu := ⟨8, [.t 2],
  (.sq (.rg [⟨(some 2), none, .mv (.c (.slice none 0 0))⟩])
  (.sq (.rg [⟨(some 3), none, .mv (.t 0)⟩,
    ⟨(some 4), none, .nc (.t 3)⟩,
    ⟨(some 5), none, .fa (.t 4) 8⟩,
    ⟨(some 6), none, .ld (.t 5) 1 false⟩,
    ⟨(some 7), none, .ca 72 [(.t 6)]⟩,
    ⟨(some 2), none, .mv (.t 7)⟩])
  .rt))⟩
theorem k19 : cF Tryz.prog Tryz.f19 = some c19 := by kernel_rfl
/-- (*rundale/supply.Supply).Put -/
def c20 : Fu := ⟨10, [],
  (.rg [⟨(some 4), none, .mv (.t 0)⟩,
    ⟨(some 5), none, .nc (.t 4)⟩,
    ⟨(some 6), none, .fa (.t 5) 8⟩,
    ⟨(some 7), none, .ld (.t 6) 1 false⟩,
    ⟨(some 8), none, .mv (.t 1)⟩,
    ⟨(some 9), none, .ca 73 [(.t 7), (.t 8)]⟩])⟩
theorem k20 : cF Tryz.prog Tryz.f20 = some c20 := by kernel_rfl
/-- (*rundale/stack.Stack).List -/
def c23 : Fu := ⟨45, [.t 2],
  (.sq (.rg [⟨(some 2), none, .mv (.c (.slice none 0 0))⟩])
  (.sq (.rg [⟨(some 3), none, .mv (.c (.slice none 0 0))⟩])
  (.sq (.sq (.rd [⟨0, 0, [0], ⟨(some 5), none, .mv (.t 0)⟩⟩,
    ⟨1, 0, [0], ⟨(some 6), none, .mv (.t 0)⟩⟩,
    ⟨2, 2, [6], ⟨(some 7), none, .nc (.t 6)⟩⟩,
    ⟨3, 6, [7], ⟨(some 8), none, .fa (.t 7) 0⟩⟩,
    ⟨4, 14, [8], ⟨(some 9), none, .ld (.t 8) 1 false⟩⟩,
    ⟨5, 0, [0], ⟨(some 10), none, .mv (.t 0)⟩⟩,
    ⟨6, 32, [10], ⟨(some 11), none, .nc (.t 10)⟩⟩,
    ⟨7, 96, [11], ⟨(some 12), none, .fa (.t 11) 1⟩⟩,
    ⟨8, 224, [12], ⟨(some 13), none, .ld (.t 12) 1 false⟩⟩,
    ⟨9, 510, [9, 13], ⟨(some 14), none, .ca 78 [(.t 9), (.t 13)]⟩⟩,
    ⟨10, 1023, [5, 14], ⟨(some 15), none, .ca 77 [(.t 5), (.t 14)]⟩⟩,
    ⟨11, 2047, [15], ⟨(some 4), none, .mv (.t 15)⟩⟩])
  (.bl 0
  (.lp
  (.sq (.sq (.rg [⟨(some 16), none, .mv (.t 4)⟩,
    ⟨(some 17), none, .ib .geq (.t 16) (.c (.int .i64 0))⟩,
    ⟨(some 18), none, .mv (.t 17)⟩,
    ⟨(some 19), (some (18, true)), .mv (.t 3)⟩,
    ⟨(some 20), (some (18, true)), .len (.t 19)⟩,
    ⟨(some 21), (some (18, true)), .mv (.t 0)⟩,
    ⟨(some 22), (some (18, true)), .nc (.t 21)⟩,
    ⟨(some 23), (some (18, true)), .fa (.t 22) 3⟩,
    ⟨(some 24), (some (18, true)), .ld (.t 23) 1 false⟩,
    ⟨(some 25), (some (18, true)), .ib .lss (.t 20) (.t 24)⟩,
    ⟨(some 26), none, .pk (.t 18) (.t 25) (.c (.bool false))⟩])
  (.cd (.t 26)
  .sk
  (.ex 0)))
  (.sq (.bl 1
  (.rg [⟨(some 40), none, .mv (.t 3)⟩,
    ⟨(some 41), none, .mv (.t 4)⟩,
    ⟨(some 42), none, .bs 3 1 [(.int .i64 0)] [(0, 1, (.t 41))]⟩,
    ⟨(some 43), none, .ap 49 3 1 8 [(.int .i64 0)] (.t 40) (.t 42)⟩,
    ⟨(some 3), none, .mv (.t 43)⟩]))
  (.rd [⟨0, 0, [0], ⟨(some 27), none, .mv (.t 0)⟩⟩,
    ⟨1, 0, [0], ⟨(some 28), none, .mv (.t 0)⟩⟩,
    ⟨2, 2, [28], ⟨(some 29), none, .nc (.t 28)⟩⟩,
    ⟨3, 6, [29], ⟨(some 30), none, .fa (.t 29) 0⟩⟩,
    ⟨4, 14, [30], ⟨(some 31), none, .ld (.t 30) 1 false⟩⟩,
    ⟨5, 0, [0], ⟨(some 32), none, .mv (.t 0)⟩⟩,
    ⟨6, 32, [32], ⟨(some 33), none, .nc (.t 32)⟩⟩,
    ⟨7, 96, [33], ⟨(some 34), none, .fa (.t 33) 2⟩⟩,
    ⟨8, 224, [34], ⟨(some 35), none, .ld (.t 34) 1 false⟩⟩,
    ⟨9, 0, [4], ⟨(some 36), none, .mv (.t 4)⟩⟩,
    ⟨10, 992, [35, 36], ⟨(some 37), none, .ib .add (.t 35) (.t 36)⟩⟩,
    ⟨11, 2046, [31, 37], ⟨(some 38), none, .ca 78 [(.t 31), (.t 37)]⟩⟩,
    ⟨12, 4095, [27, 38], ⟨(some 39), none, .ca 79 [(.t 27), (.t 38)]⟩⟩,
    ⟨13, 8191, [39], ⟨(some 4), none, .mv (.t 39)⟩⟩]))))))
  (.sq (.rg [⟨(some 44), none, .mv (.t 3)⟩,
    ⟨(some 2), none, .mv (.t 44)⟩])
  .rt))))⟩
theorem k23 : cF Tryz.prog Tryz.f23 = some c23 := by kernel_rfl
/-- (*rundale/supply.Supply).All -/
def c24 : Fu := ⟨10, [.t 2],
  (.sq (.rg [⟨(some 2), none, .mv (.c (.pointer none))⟩])
  (.sq (.rg [⟨(some 3), none, .mv (.t 0)⟩,
    ⟨(some 4), none, .mv (.t 0)⟩,
    ⟨(some 5), none, .nc (.t 4)⟩,
    ⟨(some 6), none, .fa (.t 5) 8⟩,
    ⟨(some 7), none, .ld (.t 6) 1 false⟩,
    ⟨(some 8), none, .ca 80 [(.t 7)]⟩,
    ⟨(some 9), none, .ca 75 [(.t 3), (.t 8)]⟩,
    ⟨(some 2), none, .mv (.t 9)⟩])
  .rt))⟩
theorem k24 : cF Tryz.prog Tryz.f24 = some c24 := by kernel_rfl
/-- rundale/rundalelaw17.made -/
def c29 : Fu := ⟨130, [.t 2],
  (.sq (.rg [⟨(some 1), none, .bx 24 (.t 0)⟩,
    ⟨(some 2), none, .mv (.c (.pointer none))⟩])
  (.sq (.rg [⟨(some 16), none, .ld (.t 1) 6 true⟩,
    ⟨(some 17), none, .ca 13 [(.t 16)]⟩,
    ⟨(some 18), none, .ca 11 [(.t 17)]⟩,
    ⟨(some 15), none, .mv (.t 18)⟩,
    ⟨(some 19), none, .ex (.t 15) 0⟩,
    ⟨(some 20), none, .ex (.t 15) 1⟩,
    ⟨(some 3), none, .mv (.t 19)⟩,
    ⟨(some 4), none, .mv (.t 20)⟩])
  (.sq (.sq (.rg [⟨(some 21), none, .mv (.t 3)⟩,
    ⟨(some 22), none, .en 0 false (.t 21) (.c (.pointer none))⟩,
    ⟨(some 23), none, .mv (.t 22)⟩,
    ⟨(some 24), (some (23, false)), .mv (.t 4)⟩,
    ⟨(some 25), (some (23, false)), .ib .neq (.t 24) (.c (.int .i64 0))⟩,
    ⟨(some 26), none, .pk (.t 23) (.c (.bool true)) (.t 25)⟩])
  (.cd (.t 26)
  (.sq (.rg [⟨(some 2), none, .mv (.c (.pointer none))⟩])
  .rt)
  .sk))
  (.sq (.rg [⟨(some 28), none, .mv (.t 3)⟩,
    ⟨(some 29), none, .ld (.t 1) 6 true⟩,
    ⟨(some 30), none, .ca 66 [(.t 28), (.t 29)]⟩,
    ⟨(some 27), none, .mv (.t 30)⟩,
    ⟨(some 31), none, .ex (.t 27) 0⟩,
    ⟨(some 32), none, .ex (.t 27) 1⟩,
    ⟨(some 5), none, .mv (.t 31)⟩,
    ⟨(some 6), none, .mv (.t 32)⟩])
  (.sq (.rg [⟨(some 34), none, .mv (.t 3)⟩,
    ⟨(some 35), none, .ld (.t 1) 6 true⟩,
    ⟨(some 36), none, .ca 14 [(.t 34), (.t 35)]⟩,
    ⟨(some 33), none, .mv (.t 36)⟩,
    ⟨(some 37), none, .ex (.t 33) 0⟩,
    ⟨(some 38), none, .ex (.t 33) 1⟩,
    ⟨(some 7), none, .mv (.t 37)⟩,
    ⟨(some 8), none, .mv (.t 38)⟩])
  (.sq (.rd [⟨0, 0, [3], ⟨(some 40), none, .mv (.t 3)⟩⟩,
    ⟨1, 0, [1], ⟨(some 41), none, .ld (.t 1) 6 true⟩⟩,
    ⟨2, 2, [41], ⟨(some 42), none, .ca 49 [(.t 41), (.c (.int .i64 0))]⟩⟩,
    ⟨3, 0, [1], ⟨(some 43), none, .fa (.t 1) 0⟩⟩,
    ⟨4, 8, [43], ⟨(some 44), none, .ld (.t 43) 1 false⟩⟩,
    ⟨5, 31, [40, 42, 44], ⟨(some 45), none, .ca 59 [(.t 40), (.c (.int .i64 2)), (.t 42), (.t 44)]⟩⟩,
    ⟨6, 63, [45], ⟨(some 39), none, .mv (.t 45)⟩⟩,
    ⟨7, 127, [39], ⟨(some 46), none, .ex (.t 39) 0⟩⟩,
    ⟨8, 127, [39], ⟨(some 47), none, .ex (.t 39) 1⟩⟩,
    ⟨9, 255, [46], ⟨(some 9), none, .mv (.t 46)⟩⟩,
    ⟨10, 1023, [47], ⟨(some 10), none, .mv (.t 47)⟩⟩])
  (.sq (.sq (.rg [⟨(some 48), none, .mv (.t 5)⟩,
    ⟨(some 49), none, .en 0 false (.t 48) (.c (.pointer none))⟩,
    ⟨(some 50), none, .mv (.t 49)⟩,
    ⟨(some 51), (some (50, false)), .mv (.t 6)⟩,
    ⟨(some 52), (some (50, false)), .ib .neq (.t 51) (.c (.int .i64 0))⟩,
    ⟨(some 53), none, .pk (.t 50) (.c (.bool true)) (.t 52)⟩,
    ⟨(some 54), none, .mv (.t 53)⟩,
    ⟨(some 55), (some (54, false)), .mv (.t 7)⟩,
    ⟨(some 56), (some (54, false)), .en 0 false (.t 55) (.c (.pointer none))⟩,
    ⟨(some 57), none, .pk (.t 54) (.c (.bool true)) (.t 56)⟩,
    ⟨(some 58), none, .mv (.t 57)⟩,
    ⟨(some 59), (some (58, false)), .mv (.t 8)⟩,
    ⟨(some 60), (some (58, false)), .ib .neq (.t 59) (.c (.int .i64 0))⟩,
    ⟨(some 61), none, .pk (.t 58) (.c (.bool true)) (.t 60)⟩,
    ⟨(some 62), none, .mv (.t 61)⟩,
    ⟨(some 63), (some (62, false)), .mv (.t 9)⟩,
    ⟨(some 64), (some (62, false)), .en 0 false (.t 63) (.c (.pointer none))⟩,
    ⟨(some 65), none, .pk (.t 62) (.c (.bool true)) (.t 64)⟩,
    ⟨(some 66), none, .mv (.t 65)⟩,
    ⟨(some 67), (some (66, false)), .mv (.t 10)⟩,
    ⟨(some 68), (some (66, false)), .ib .neq (.t 67) (.c (.int .i64 0))⟩,
    ⟨(some 69), none, .pk (.t 66) (.c (.bool true)) (.t 68)⟩,
    ⟨(some 70), none, .mv (.t 69)⟩,
    ⟨(some 71), (some (70, false)), .mv (.t 5)⟩,
    ⟨(some 72), (some (70, false)), .ca 67 [(.t 71)]⟩,
    ⟨(some 73), (some (70, false)), .en 0 false (.t 72) (.c (.pointer none))⟩,
    ⟨(some 74), none, .pk (.t 70) (.c (.bool true)) (.t 73)⟩])
  (.cd (.t 74)
  (.sq (.rg [⟨(some 2), none, .mv (.c (.pointer none))⟩])
  .rt)
  .sk))
  (.sq (.rg [⟨(some 75), none, .mv (.t 5)⟩,
    ⟨(some 76), none, .ca 68 [(.t 75)]⟩])
  (.sq (.rd [⟨0, 0, [1], ⟨(some 77), none, .ld (.t 1) 6 true⟩⟩,
    ⟨1, 0, [3], ⟨(some 78), none, .mv (.t 3)⟩⟩,
    ⟨2, 0, [9], ⟨(some 79), none, .mv (.t 9)⟩⟩,
    ⟨3, 0, [7], ⟨(some 80), none, .mv (.t 7)⟩⟩,
    ⟨4, 0, [5], ⟨(some 81), none, .mv (.t 5)⟩⟩,
    ⟨5, 16, [81], ⟨(some 82), none, .ca 67 [(.t 81)]⟩⟩,
    ⟨6, 0, [1], ⟨(some 83), none, .ld (.t 1) 6 true⟩⟩,
    ⟨7, 112, [83], ⟨(some 84), none, .ca 69 [(.t 83)]⟩⟩,
    ⟨8, 255, [77, 78, 79, 80, 82, 84], ⟨(some 85), none, .bd [(.int .i64 0), (.int .i64 0), (.int .i64 0), (.int .i64 0), (.int .i64 0), (.int .i64 0), (.pointer none), (.pointer none), (.pointer none), (.pointer none), (.slice none 0 0), (.pointer none), (.slice none 0 0)] [(0, 6, (.t 77)), (6, 1, (.t 78)), (7, 1, (.t 79)), (8, 1, (.t 80)), (9, 1, (.t 82)), (11, 1, (.t 84))]⟩⟩,
    ⟨9, 511, [85], ⟨(some 86), none, .bx 80 (.t 85)⟩⟩,
    ⟨10, 1023, [86], ⟨(some 11), none, .mv (.t 86)⟩⟩])
  (.sq (.sq (.rg [⟨(some 12), none, .mv (.c (.int .i64 0))⟩])
  (.bl 0
  (.lp
  (.sq (.sq (.rg [⟨(some 87), none, .mv (.t 12)⟩,
    ⟨(some 88), none, .fa (.t 1) 0⟩,
    ⟨(some 89), none, .ld (.t 88) 1 false⟩,
    ⟨(some 90), none, .ib .lss (.t 87) (.t 89)⟩])
  (.cd (.t 90)
  .sk
  (.ex 0)))
  (.sq (.bl 1
  (.sq (.rg [⟨(some 94), none, .mv (.t 3)⟩,
    ⟨(some 95), none, .ld (.t 1) 6 true⟩,
    ⟨(some 96), none, .ca 60 [(.t 94), (.t 95)]⟩,
    ⟨(some 93), none, .mv (.t 96)⟩,
    ⟨(some 97), none, .ex (.t 93) 0⟩,
    ⟨(some 98), none, .ex (.t 93) 1⟩,
    ⟨(some 13), none, .mv (.t 97)⟩,
    ⟨(some 14), none, .mv (.t 98)⟩])
  (.sq (.sq (.rg [⟨(some 99), none, .mv (.t 13)⟩,
    ⟨(some 100), none, .en 0 false (.t 99) (.c (.pointer none))⟩,
    ⟨(some 101), none, .mv (.t 100)⟩,
    ⟨(some 102), (some (101, false)), .mv (.t 14)⟩,
    ⟨(some 103), (some (101, false)), .ib .neq (.t 102) (.c (.int .i64 0))⟩,
    ⟨(some 104), none, .pk (.t 101) (.c (.bool true)) (.t 103)⟩])
  (.cd (.t 104)
  (.sq (.rg [⟨(some 2), none, .mv (.c (.pointer none))⟩])
  .rt)
  .sk))
  (.sq (.rg [⟨(some 105), none, .mv (.t 11)⟩,
    ⟨(some 106), none, .mv (.t 11)⟩,
    ⟨(some 107), none, .nc (.t 106)⟩,
    ⟨(some 108), none, .fa (.t 107) 10⟩,
    ⟨(some 109), none, .ld (.t 108) 1 false⟩,
    ⟨(some 110), none, .mv (.t 13)⟩,
    ⟨(some 111), none, .bs 39 1 [(.pointer none)] [(0, 1, (.t 110))]⟩,
    ⟨(some 112), none, .ap 41 39 1 8 [(.pointer none)] (.t 109) (.t 111)⟩,
    ⟨(some 113), none, .nc (.t 105)⟩,
    ⟨(some 114), none, .fa (.t 113) 10⟩,
    ⟨none, none, .st (.t 114) (.t 112) 1⟩])
  (.rd [⟨0, 0, [11], ⟨(some 115), none, .mv (.t 11)⟩⟩,
    ⟨1, 0, [11], ⟨(some 116), none, .mv (.t 11)⟩⟩,
    ⟨2, 2, [116], ⟨(some 117), none, .nc (.t 116)⟩⟩,
    ⟨3, 6, [117], ⟨(some 118), none, .fa (.t 117) 12⟩⟩,
    ⟨4, 14, [118], ⟨(some 119), none, .ld (.t 118) 1 false⟩⟩,
    ⟨5, 0, [11], ⟨(some 120), none, .mv (.t 11)⟩⟩,
    ⟨6, 32, [120], ⟨(some 121), none, .nc (.t 120)⟩⟩,
    ⟨7, 96, [121], ⟨(some 122), none, .fa (.t 121) 11⟩⟩,
    ⟨8, 224, [122], ⟨(some 123), none, .ld (.t 122) 1 false⟩⟩,
    ⟨9, 480, [123], ⟨(some 124), none, .ca 70 [(.t 123)]⟩⟩,
    ⟨10, 992, [124], ⟨(some 125), none, .bs 89 1 [(.pointer none)] [(0, 1, (.t 124))]⟩⟩,
    ⟨11, 2046, [119, 125], ⟨(some 126), none, .ap 43 89 1 8 [(.pointer none)] (.t 119) (.t 125)⟩⟩,
    ⟨12, 4095, [115], ⟨(some 127), none, .nc (.t 115)⟩⟩,
    ⟨13, 8191, [127], ⟨(some 128), none, .fa (.t 127) 12⟩⟩,
    ⟨14, 16383, [128, 126], ⟨none, none, .st (.t 128) (.t 126) 1⟩⟩])))))
  (.rg [⟨(some 91), none, .mv (.t 12)⟩,
    ⟨(some 92), none, .ib .add (.t 91) (.c (.int .i64 1))⟩,
    ⟨(some 12), none, .mv (.t 92)⟩]))))))
  (.sq (.rg [⟨(some 129), none, .mv (.t 11)⟩,
    ⟨(some 2), none, .mv (.t 129)⟩])
  .rt)))))))))))⟩
theorem k29 : cF Tryz.prog Tryz.f29 = some c29 := by kernel_rfl
/-- (*rundale/rundalelaw17.all).take -/
def c30 : Fu := ⟨52, [.t 4, .t 5],
  (.sq (.rg [⟨(some 4), none, .mv (.c (.int .i64 0))⟩,
    ⟨(some 5), none, .mv (.c (.bool false))⟩])
  (.sq (.rd [⟨0, 0, [0], ⟨(some 11), none, .mv (.t 0)⟩⟩,
    ⟨1, 1, [11], ⟨(some 12), none, .nc (.t 11)⟩⟩,
    ⟨2, 3, [12], ⟨(some 13), none, .fa (.t 12) 10⟩⟩,
    ⟨3, 7, [13], ⟨(some 14), none, .ld (.t 13) 1 false⟩⟩,
    ⟨4, 0, [1], ⟨(some 15), none, .mv (.t 1)⟩⟩,
    ⟨5, 31, [14, 15], ⟨(some 16), none, .ia (.t 14) (.t 15) 1⟩⟩,
    ⟨6, 63, [16], ⟨(some 17), none, .ld (.t 16) 1 false⟩⟩,
    ⟨7, 127, [17], ⟨(some 18), none, .ca 61 [(.t 17)]⟩⟩,
    ⟨8, 0, [0], ⟨(some 19), none, .mv (.t 0)⟩⟩,
    ⟨9, 256, [19], ⟨(some 20), none, .nc (.t 19)⟩⟩,
    ⟨10, 768, [20], ⟨(some 21), none, .fa (.t 20) 12⟩⟩,
    ⟨11, 1792, [21], ⟨(some 22), none, .ld (.t 21) 1 false⟩⟩,
    ⟨12, 0, [1], ⟨(some 23), none, .mv (.t 1)⟩⟩,
    ⟨13, 7936, [22, 23], ⟨(some 24), none, .ia (.t 22) (.t 23) 1⟩⟩,
    ⟨14, 16128, [24], ⟨(some 25), none, .ld (.t 24) 1 false⟩⟩,
    ⟨15, 32767, [25], ⟨(some 26), none, .ca 85 [(.t 25)]⟩⟩,
    ⟨16, 65535, [18], ⟨(some 6), none, .mv (.t 18)⟩⟩,
    ⟨17, 131071, [26], ⟨(some 7), none, .mv (.t 26)⟩⟩])
  (.sq (.sq (.rg [⟨(some 27), none, .mv (.t 6)⟩,
    ⟨(some 28), none, .en 0 false (.t 27) (.c (.pointer none))⟩])
  (.cd (.t 28)
  (.sq (.rg [⟨(some 4), none, .mv (.c (.int .i64 0))⟩,
    ⟨(some 5), none, .mv (.c (.bool false))⟩])
  .rt)
  .sk))
  (.sq (.sq (.rg [⟨(some 8), none, .mv (.c (.int .i64 0))⟩])
  (.bl 0
  (.lp
  (.sq (.sq (.rg [⟨(some 29), none, .mv (.t 8)⟩,
    ⟨(some 30), none, .ib .lss (.t 29) (.c (.int .i64 40))⟩])
  (.cd (.t 30)
  .sk
  (.ex 0)))
  (.sq (.bl 1
  (.sq (.rg [⟨(some 33), none, .mv (.t 6)⟩,
    ⟨(some 34), none, .ca 63 [(.t 33)]⟩])
  (.rg [⟨(some 35), none, .mv (.t 7)⟩,
    ⟨(some 36), none, .ca 81 [(.t 35)]⟩])))
  (.rg [⟨(some 31), none, .mv (.t 8)⟩,
    ⟨(some 32), none, .ib .add (.t 31) (.c (.int .i64 1))⟩,
    ⟨(some 8), none, .mv (.t 32)⟩]))))))
  (.sq (.rg [⟨(some 38), none, .mv (.t 6)⟩,
    ⟨(some 39), none, .ca 64 [(.t 38)]⟩,
    ⟨(some 37), none, .mv (.t 39)⟩,
    ⟨(some 40), none, .ex (.t 37) 0⟩,
    ⟨(some 41), none, .ex (.t 37) 1⟩,
    ⟨(some 9), none, .mv (.t 40)⟩,
    ⟨(some 10), none, .mv (.t 41)⟩])
  (.sq (.rd [⟨0, 0, [9], ⟨(some 42), none, .mv (.t 9)⟩⟩,
    ⟨1, 0, [10], ⟨(some 43), none, .mv (.t 10)⟩⟩,
    ⟨2, 2, [43], ⟨(some 44), none, .mv (.t 43)⟩⟩,
    ⟨3, 6, [9, 44], ⟨(some 45), (some (44, true)), .mv (.t 9)⟩⟩,
    ⟨4, 6, [7, 44], ⟨(some 46), (some (44, true)), .mv (.t 7)⟩⟩,
    ⟨5, 22, [46, 44], ⟨(some 47), (some (44, true)), .nc (.t 46)⟩⟩,
    ⟨6, 54, [47, 44], ⟨(some 48), (some (44, true)), .fa (.t 47) 2⟩⟩,
    ⟨7, 118, [48, 44], ⟨(some 49), (some (44, true)), .ld (.t 48) 1 false⟩⟩,
    ⟨8, 254, [45, 49, 44], ⟨(some 50), (some (44, true)), .ib .eql (.t 45) (.t 49)⟩⟩,
    ⟨9, 510, [44, 50], ⟨(some 51), none, .pk (.t 44) (.t 50) (.c (.bool false))⟩⟩,
    ⟨10, 7, [42], ⟨(some 4), none, .mv (.t 42)⟩⟩,
    ⟨11, 2047, [51], ⟨(some 5), none, .mv (.t 51)⟩⟩])
  .rt))))))⟩
theorem k30 : cF Tryz.prog Tryz.f30 = some c30 := by kernel_rfl
/-- (*rundale/rundalelaw17.all).collects -/
def c31 : Fu := ⟨45, [.t 4, .t 5],
  (.sq (.rg [⟨(some 4), none, .mv (.c (.bool false))⟩,
    ⟨(some 5), none, .mv (.c (.int .i64 0))⟩])
  (.sq (.rd [⟨0, 0, [0], ⟨(some 9), none, .mv (.t 0)⟩⟩,
    ⟨1, 1, [9], ⟨(some 10), none, .nc (.t 9)⟩⟩,
    ⟨2, 3, [10], ⟨(some 11), none, .fa (.t 10) 8⟩⟩,
    ⟨3, 7, [11], ⟨(some 12), none, .ld (.t 11) 1 false⟩⟩,
    ⟨4, 0, [0], ⟨(some 13), none, .mv (.t 0)⟩⟩,
    ⟨5, 16, [13], ⟨(some 14), none, .nc (.t 13)⟩⟩,
    ⟨6, 48, [14], ⟨(some 15), none, .fa (.t 14) 10⟩⟩,
    ⟨7, 112, [15], ⟨(some 16), none, .ld (.t 15) 1 false⟩⟩,
    ⟨8, 0, [1], ⟨(some 17), none, .mv (.t 1)⟩⟩,
    ⟨9, 496, [16, 17], ⟨(some 18), none, .ia (.t 16) (.t 17) 1⟩⟩,
    ⟨10, 1008, [18], ⟨(some 19), none, .ld (.t 18) 1 false⟩⟩,
    ⟨11, 2047, [12, 19], ⟨(some 20), none, .ca 39 [(.t 12), (.t 19)]⟩⟩,
    ⟨12, 4095, [20], ⟨(some 6), none, .mv (.t 20)⟩⟩])
  (.sq (.sq (.rg [⟨(some 21), none, .mv (.t 6)⟩,
    ⟨(some 22), none, .en 0 false (.t 21) (.c (.pointer none))⟩])
  (.cd (.t 22)
  (.sq (.rg [⟨(some 4), none, .mv (.c (.bool false))⟩,
    ⟨(some 5), none, .mv (.c (.int .i64 (-1)))⟩])
  .rt)
  .sk))
  (.sq (.rg [⟨(some 7), none, .mv (.c (.int .i64 0))⟩])
  (.sq (.sq (.rg [⟨(some 8), none, .mv (.c (.int .i64 0))⟩])
  (.bl 0
  (.lp
  (.sq (.sq (.rg [⟨(some 23), none, .mv (.t 8)⟩,
    ⟨(some 24), none, .ib .lss (.t 23) (.c (.int .i64 400))⟩,
    ⟨(some 25), none, .mv (.t 24)⟩,
    ⟨(some 26), (some (25, true)), .mv (.t 6)⟩,
    ⟨(some 27), (some (25, true)), .ca 33 [(.t 26)]⟩,
    ⟨(some 28), none, .pk (.t 25) (.t 27) (.c (.bool false))⟩])
  (.cd (.t 28)
  .sk
  (.ex 0)))
  (.sq (.bl 1
  (.rg [⟨(some 31), none, .mv (.t 7)⟩,
    ⟨(some 32), none, .ib .add (.t 31) (.c (.int .i64 1))⟩,
    ⟨(some 7), none, .mv (.t 32)⟩]))
  (.rg [⟨(some 29), none, .mv (.t 8)⟩,
    ⟨(some 30), none, .ib .add (.t 29) (.c (.int .i64 1))⟩,
    ⟨(some 8), none, .mv (.t 30)⟩]))))))
  (.sq (.sq (.rg [⟨(some 33), none, .mv (.t 6)⟩,
    ⟨(some 34), none, .ca 35 [(.t 33)]⟩,
    ⟨(some 35), none, .nt (.t 34)⟩,
    ⟨(some 36), none, .mv (.t 35)⟩,
    ⟨(some 37), (some (36, false)), .mv (.t 6)⟩,
    ⟨(some 38), (some (36, false)), .ca 37 [(.t 37)]⟩,
    ⟨(some 39), (some (36, false)), .len (.t 38)⟩,
    ⟨(some 40), (some (36, false)), .ib .neq (.t 39) (.c (.int .i64 0))⟩,
    ⟨(some 41), none, .pk (.t 36) (.c (.bool true)) (.t 40)⟩])
  (.cd (.t 41)
  (.sq (.rg [⟨(some 4), none, .mv (.c (.bool false))⟩,
    ⟨(some 5), none, .mv (.c (.int .i64 (-1)))⟩])
  .rt)
  .sk))
  (.sq (.rg [⟨(some 42), none, .mv (.t 6)⟩,
    ⟨(some 43), none, .ca 36 [(.t 42)]⟩,
    ⟨(some 44), none, .mv (.t 7)⟩,
    ⟨(some 4), none, .mv (.t 43)⟩,
    ⟨(some 5), none, .mv (.t 44)⟩])
  .rt)))))))⟩
theorem k31 : cF Tryz.prog Tryz.f31 = some c31 := by kernel_rfl
/-- (*rundale/epoch.Epoch).Now -/
def c32 : Fu := ⟨13, [.t 2],
  (.sq (.rg [⟨(some 2), none, .mv (.c (.int .i64 0))⟩])
  (.sq (.rd [⟨0, 0, [0], ⟨(some 3), none, .mv (.t 0)⟩⟩,
    ⟨1, 1, [3], ⟨(some 4), none, .nc (.t 3)⟩⟩,
    ⟨2, 3, [4], ⟨(some 5), none, .fa (.t 4) 0⟩⟩,
    ⟨3, 7, [5], ⟨(some 6), none, .ld (.t 5) 1 false⟩⟩,
    ⟨4, 0, [0], ⟨(some 7), none, .mv (.t 0)⟩⟩,
    ⟨5, 16, [7], ⟨(some 8), none, .nc (.t 7)⟩⟩,
    ⟨6, 48, [8], ⟨(some 9), none, .fa (.t 8) 1⟩⟩,
    ⟨7, 112, [9], ⟨(some 10), none, .ld (.t 9) 1 false⟩⟩,
    ⟨8, 255, [6, 10], ⟨(some 11), none, .ca 78 [(.t 6), (.t 10)]⟩⟩,
    ⟨9, 511, [11], ⟨(some 12), none, .ca 92 [(.t 11)]⟩⟩,
    ⟨10, 1023, [12], ⟨(some 2), none, .mv (.t 12)⟩⟩])
  .rt))⟩
theorem k32 : cF Tryz.prog Tryz.f32 = some c32 := by kernel_rfl
/-- (*rundale/gather.Collect).Step -/
def c33 : Fu := ⟨7, [.t 2],
  (.sq (.rg [⟨(some 2), none, .mv (.c (.bool false))⟩])
  (.sq (.rg [⟨(some 3), none, .mv (.t 0)⟩,
    ⟨(some 4), none, .nc (.t 3)⟩,
    ⟨(some 5), none, .fa (.t 4) 0⟩,
    ⟨(some 6), none, .ca 93 [(.t 5)]⟩,
    ⟨(some 2), none, .mv (.t 6)⟩])
  .rt))⟩
theorem k33 : cF Tryz.prog Tryz.f33 = some c33 := by kernel_rfl
/-- (*rundale/gather.Collect).Done -/
def c35 : Fu := ⟨7, [.t 2],
  (.sq (.rg [⟨(some 2), none, .mv (.c (.bool false))⟩])
  (.sq (.rg [⟨(some 3), none, .mv (.t 0)⟩,
    ⟨(some 4), none, .nc (.t 3)⟩,
    ⟨(some 5), none, .fa (.t 4) 0⟩,
    ⟨(some 6), none, .ca 97 [(.t 5)]⟩,
    ⟨(some 2), none, .mv (.t 6)⟩])
  .rt))⟩
theorem k35 : cF Tryz.prog Tryz.f35 = some c35 := by kernel_rfl
/-- (*rundale/gather.Collect).Won -/
def c36 : Fu := ⟨8, [.t 2],
  (.sq (.rg [⟨(some 2), none, .mv (.c (.bool false))⟩])
  (.sq (.rg [⟨(some 3), none, .mv (.t 0)⟩,
    ⟨(some 4), none, .nc (.t 3)⟩,
    ⟨(some 5), none, .fa (.t 4) 7⟩,
    ⟨(some 6), none, .ld (.t 5) 1 false⟩,
    ⟨(some 7), none, .ca 98 [(.t 6)]⟩,
    ⟨(some 2), none, .mv (.t 7)⟩])
  .rt))⟩
theorem k36 : cF Tryz.prog Tryz.f36 = some c36 := by kernel_rfl
/-- (*rundale/gather.Collect).Hand -/
def c37 : Fu := ⟨13, [.t 2],
  (.sq (.rg [⟨(some 2), none, .mv (.c (.slice none 0 0))⟩])
  (.sq (.sq (.rg [⟨(some 3), none, .mv (.t 0)⟩,
    ⟨(some 4), none, .nc (.t 3)⟩,
    ⟨(some 5), none, .fa (.t 4) 8⟩,
    ⟨(some 6), none, .ld (.t 5) 1 false⟩,
    ⟨(some 7), none, .en 0 false (.t 6) (.c (.pointer none))⟩])
  (.cd (.t 7)
  (.sq (.rg [⟨(some 2), none, .mv (.c (.slice none 0 0))⟩])
  .rt)
  .sk))
  (.sq (.rg [⟨(some 8), none, .mv (.t 0)⟩,
    ⟨(some 9), none, .nc (.t 8)⟩,
    ⟨(some 10), none, .fa (.t 9) 8⟩,
    ⟨(some 11), none, .ld (.t 10) 1 false⟩,
    ⟨(some 12), none, .ca 99 [(.t 11)]⟩,
    ⟨(some 2), none, .mv (.t 12)⟩])
  .rt)))⟩
theorem k37 : cF Tryz.prog Tryz.f37 = some c37 := by kernel_rfl
/-- (*rundale/gather.Gather).Collect -/
def c39 : Fu := ⟨32, [.t 4],
  (.sq (.rg [⟨(some 4), none, .mv (.c (.pointer none))⟩])
  (.sq (.rg [⟨(some 6), none, .mv (.t 0)⟩,
    ⟨(some 7), none, .mv (.t 1)⟩,
    ⟨(some 8), none, .mv (.t 0)⟩,
    ⟨(some 9), none, .nc (.t 8)⟩,
    ⟨(some 10), none, .fa (.t 9) 1⟩,
    ⟨(some 11), none, .ld (.t 10) 1 false⟩,
    ⟨(some 12), none, .ca 101 [(.t 11)]⟩,
    ⟨(some 13), none, .bd [.nilFunc, .nilFunc, .nilFunc, .nilFunc, (.int .i64 0), (.pointer none), (.pointer none), (.pointer none), (.pointer none)] [(5, 1, (.t 6)), (6, 1, (.t 7)), (7, 1, (.t 12))]⟩,
    ⟨(some 14), none, .bx 166 (.t 13)⟩,
    ⟨(some 5), none, .mv (.t 14)⟩])
  (.sq (.rd [⟨0, 0, [5], ⟨(some 15), none, .mv (.t 5)⟩⟩,
    ⟨1, 1, [15], ⟨(some 16), none, .nc (.t 15)⟩⟩,
    ⟨2, 3, [16], ⟨(some 17), none, .fa (.t 16) 0⟩⟩,
    ⟨3, 0, [5], ⟨(some 18), none, .mv (.t 5)⟩⟩,
    ⟨4, 8, [18], ⟨(some 19), none, .nc (.t 18)⟩⟩,
    ⟨5, 24, [19], ⟨(some 20), none, .fa (.t 19) 7⟩⟩,
    ⟨6, 56, [20], ⟨(some 21), none, .ld (.t 20) 1 false⟩⟩,
    ⟨7, 120, [21], ⟨(some 22), none, .mf (.func 103) [(.t 21)] []⟩⟩,
    ⟨8, 0, [5], ⟨(some 23), none, .mv (.t 5)⟩⟩,
    ⟨9, 256, [23], ⟨(some 24), none, .nc (.t 23)⟩⟩,
    ⟨10, 768, [24], ⟨(some 25), none, .fa (.t 24) 7⟩⟩,
    ⟨11, 1792, [25], ⟨(some 26), none, .ld (.t 25) 1 false⟩⟩,
    ⟨12, 3840, [26], ⟨(some 27), none, .mf (.func 104) [(.t 26)] []⟩⟩,
    ⟨13, 0, [5], ⟨(some 28), none, .mv (.t 5)⟩⟩,
    ⟨14, 8192, [28], ⟨(some 29), none, .mf (.func 105) [(.t 28)] []⟩⟩,
    ⟨15, 32767, [17, 22, 27, 29], ⟨(some 30), none, .ca 102 [(.t 17), (.t 22), (.t 27), (.t 29)]⟩⟩])
  (.sq (.rg [⟨(some 31), none, .mv (.t 5)⟩,
    ⟨(some 4), none, .mv (.t 31)⟩])
  .rt))))⟩
theorem k39 : cF Tryz.prog Tryz.f39 = some c39 := by kernel_rfl
/-- (*rundale/rundaleref5.Stash).Give -/
def c45 : Fu := ⟨14, [],
  (.rg [⟨(some 4), none, .mv (.t 0)⟩,
    ⟨(some 5), none, .mv (.t 0)⟩,
    ⟨(some 6), none, .nc (.t 5)⟩,
    ⟨(some 7), none, .fa (.t 6) 1⟩,
    ⟨(some 8), none, .ld (.t 7) 1 false⟩,
    ⟨(some 9), none, .ap 49 3 1 8 [(.int .i64 0)] (.c (.slice none 0 0)) (.t 8)⟩,
    ⟨(some 10), none, .mv (.t 1)⟩,
    ⟨(some 11), none, .ap 49 3 1 8 [(.int .i64 0)] (.t 9) (.t 10)⟩,
    ⟨(some 12), none, .nc (.t 4)⟩,
    ⟨(some 13), none, .fa (.t 12) 1⟩,
    ⟨none, none, .st (.t 13) (.t 11) 1⟩])⟩
theorem k45 : cF Tryz.prog Tryz.f45 = some c45 := by kernel_rfl
/-- rundale/rundaleref1.Pin -/
def c47 : Fu := ⟨10, [.t 4],
  (.sq (.rg [⟨(some 2), none, .bx 24 (.t 0)⟩,
    ⟨(some 4), none, .mv (.c (.int .i64 0))⟩])
  (.sq (.rg [⟨(some 5), none, .ld (.t 2) 6 true⟩,
    ⟨(some 6), none, .fa (.t 2) 0⟩,
    ⟨(some 7), none, .ld (.t 6) 1 false⟩,
    ⟨(some 8), none, .mv (.t 1)⟩,
    ⟨(some 9), none, .ca 109 [(.t 5), (.c (.int .i64 3)), (.t 7), (.t 8)]⟩,
    ⟨(some 4), none, .mv (.t 9)⟩])
  .rt))⟩
theorem k47 : cF Tryz.prog Tryz.f47 = some c47 := by kernel_rfl
/-- (*rundale/cells.Cells).Lay -/
def c48 : Fu := ⟨18, [.t 6],
  (.sq (.rg [⟨(some 6), none, .mv (.c (.int .i64 0))⟩])
  (.sq (.sq (.rg [⟨(some 7), none, .mv (.t 0)⟩,
    ⟨(some 8), none, .mv (.t 1)⟩,
    ⟨(some 9), none, .ca 110 [(.t 7), (.t 8)]⟩,
    ⟨(some 10), none, .nt (.t 9)⟩])
  (.cd (.t 10)
  (.sq (.rg [⟨(some 6), none, .mv (.c (.int .i64 1))⟩])
  .rt)
  .sk))
  (.sq (.rg [⟨(some 11), none, .mv (.t 0)⟩,
    ⟨(some 12), none, .nc (.t 11)⟩,
    ⟨(some 13), none, .fa (.t 12) 0⟩,
    ⟨(some 14), none, .ld (.t 13) 1 false⟩,
    ⟨(some 15), none, .mv (.t 1)⟩,
    ⟨(some 16), none, .mv (.t 2)⟩,
    ⟨(some 17), none, .ia (.t 14) (.t 15) 1⟩,
    ⟨none, none, .st (.t 17) (.t 16) 1⟩])
  (.sq (.rg [⟨(some 6), none, .mv (.c (.int .i64 0))⟩])
  .rt))))⟩
theorem k48 : cF Tryz.prog Tryz.f48 = some c48 := by kernel_rfl
/-- rundale/lay.Pin -/
def c49 : Fu := ⟨8, [.t 4],
  (.sq (.rg [⟨(some 2), none, .bx 24 (.t 0)⟩,
    ⟨(some 4), none, .mv (.c (.int .i64 0))⟩])
  (.sq (.rg [⟨(some 5), none, .ld (.t 2) 6 true⟩,
    ⟨(some 6), none, .mv (.t 1)⟩,
    ⟨(some 7), none, .ca 111 [(.t 5), (.c (.int .i64 3)), (.t 6)]⟩,
    ⟨(some 4), none, .mv (.t 7)⟩])
  .rt))⟩
theorem k49 : cF Tryz.prog Tryz.f49 = some c49 := by kernel_rfl
/-- (*rundale/rundalemake.Seq).N -/
def c55 : Fu := ⟨36, [.t 4],
  (.sq (.rg [⟨(some 4), none, .mv (.c (.int .i64 0))⟩])
  (.sq (.rg [⟨(some 5), none, .mv (.c (.int .i64 0))⟩])
  (.sq (.sq (.rd [⟨0, 0, [0], ⟨(some 6), none, .mv (.t 0)⟩⟩,
    ⟨1, 1, [6], ⟨(some 7), none, .nc (.t 6)⟩⟩,
    ⟨2, 3, [7], ⟨(some 8), none, .fa (.t 7) 1⟩⟩,
    ⟨3, 7, [8], ⟨(some 9), none, .ld (.t 8) 1 false⟩⟩,
    ⟨4, 0, [0], ⟨(some 10), none, .mv (.t 0)⟩⟩,
    ⟨5, 16, [10], ⟨(some 11), none, .nc (.t 10)⟩⟩,
    ⟨6, 48, [11], ⟨(some 12), none, .fa (.t 11) 0⟩⟩,
    ⟨7, 112, [12], ⟨(some 13), none, .ld (.t 12) 1 false⟩⟩,
    ⟨8, 240, [13], ⟨(some 14), none, .len (.t 13)⟩⟩,
    ⟨9, 511, [9, 14], ⟨(some 15), none, .ib .lss (.t 9) (.t 14)⟩⟩])
  (.cd (.t 15)
  (.rd [⟨0, 0, [0], ⟨(some 16), none, .mv (.t 0)⟩⟩,
    ⟨1, 1, [16], ⟨(some 17), none, .nc (.t 16)⟩⟩,
    ⟨2, 3, [17], ⟨(some 18), none, .fa (.t 17) 0⟩⟩,
    ⟨3, 7, [18], ⟨(some 19), none, .ld (.t 18) 1 false⟩⟩,
    ⟨4, 0, [0], ⟨(some 20), none, .mv (.t 0)⟩⟩,
    ⟨5, 16, [20], ⟨(some 21), none, .nc (.t 20)⟩⟩,
    ⟨6, 48, [21], ⟨(some 22), none, .fa (.t 21) 1⟩⟩,
    ⟨7, 112, [22], ⟨(some 23), none, .ld (.t 22) 1 false⟩⟩,
    ⟨8, 255, [19, 23], ⟨(some 24), none, .ia (.t 19) (.t 23) 1⟩⟩,
    ⟨9, 511, [24], ⟨(some 25), none, .ld (.t 24) 1 false⟩⟩,
    ⟨10, 1023, [25], ⟨(some 5), none, .mv (.t 25)⟩⟩])
  .sk))
  (.sq (.rg [⟨(some 26), none, .mv (.t 0)⟩,
    ⟨(some 27), none, .nc (.t 26)⟩,
    ⟨(some 28), none, .fa (.t 27) 1⟩,
    ⟨(some 29), none, .ld (.t 28) 1 false⟩,
    ⟨(some 30), none, .ib .add (.t 29) (.c (.int .i64 1))⟩,
    ⟨(some 31), none, .nc (.t 26)⟩,
    ⟨(some 32), none, .fa (.t 31) 1⟩,
    ⟨none, none, .st (.t 32) (.t 30) 1⟩])
  (.sq (.rg [⟨(some 33), none, .mv (.t 5)⟩,
    ⟨(some 34), none, .mv (.t 1)⟩,
    ⟨(some 35), none, .ca 12 [(.t 33), (.t 34)]⟩,
    ⟨(some 4), none, .mv (.t 35)⟩])
  .rt)))))⟩
theorem k55 : cF Tryz.prog Tryz.f55 = some c55 := by kernel_rfl
/-- rundale/lay.May -/
def c56 : Fu := ⟨37, [.t 2],
  (.sq (.rg [⟨(some 1), none, .bx 24 (.t 0)⟩,
    ⟨(some 2), none, .mv (.c (.bool false))⟩])
  (.sq (.rg [⟨(some 3), none, .fa (.t 1) 0⟩,
    ⟨(some 4), none, .ld (.t 3) 1 false⟩,
    ⟨(some 5), none, .ca 117 [(.t 4), (.c (.int .i64 1)), (.c (.int .i64 64))]⟩,
    ⟨(some 6), none, .mv (.t 5)⟩,
    ⟨(some 7), (some (6, true)), .fa (.t 1) 1⟩,
    ⟨(some 8), (some (6, true)), .ld (.t 7) 1 false⟩,
    ⟨(some 9), (some (6, true)), .ca 117 [(.t 8), (.c (.int .i64 1)), (.c (.int .i64 4096))]⟩,
    ⟨(some 10), none, .pk (.t 6) (.t 9) (.c (.bool false))⟩,
    ⟨(some 11), none, .mv (.t 10)⟩,
    ⟨(some 12), (some (11, true)), .fa (.t 1) 2⟩,
    ⟨(some 13), (some (11, true)), .ld (.t 12) 1 false⟩,
    ⟨(some 14), (some (11, true)), .ca 117 [(.t 13), (.c (.int .i64 8)), (.c (.int .i64 1024))]⟩,
    ⟨(some 15), none, .pk (.t 11) (.t 14) (.c (.bool false))⟩,
    ⟨(some 16), none, .mv (.t 15)⟩,
    ⟨(some 17), (some (16, true)), .fa (.t 1) 2⟩,
    ⟨(some 18), (some (16, true)), .ld (.t 17) 1 false⟩,
    ⟨(some 19), (some (16, true)), .ib .rem (.t 18) (.c (.int .i64 8))⟩,
    ⟨(some 20), (some (16, true)), .ib .eql (.t 19) (.c (.int .i64 0))⟩,
    ⟨(some 21), none, .pk (.t 16) (.t 20) (.c (.bool false))⟩,
    ⟨(some 22), none, .mv (.t 21)⟩,
    ⟨(some 23), (some (22, true)), .fa (.t 1) 3⟩,
    ⟨(some 24), (some (22, true)), .ld (.t 23) 1 false⟩,
    ⟨(some 25), (some (22, true)), .ca 117 [(.t 24), (.c (.int .i64 1)), (.c (.int .i64 4096))]⟩,
    ⟨(some 26), none, .pk (.t 22) (.t 25) (.c (.bool false))⟩,
    ⟨(some 27), none, .mv (.t 26)⟩,
    ⟨(some 28), (some (27, true)), .fa (.t 1) 4⟩,
    ⟨(some 29), (some (27, true)), .ld (.t 28) 1 false⟩,
    ⟨(some 30), (some (27, true)), .ca 117 [(.t 29), (.c (.int .i64 0)), (.c (.int .i64 64))]⟩,
    ⟨(some 31), none, .pk (.t 27) (.t 30) (.c (.bool false))⟩,
    ⟨(some 32), none, .mv (.t 31)⟩,
    ⟨(some 33), (some (32, true)), .fa (.t 1) 5⟩,
    ⟨(some 34), (some (32, true)), .ld (.t 33) 1 false⟩,
    ⟨(some 35), (some (32, true)), .ca 117 [(.t 34), (.c (.int .i64 1)), (.c (.int .i64 8))]⟩,
    ⟨(some 36), none, .pk (.t 32) (.t 35) (.c (.bool false))⟩,
    ⟨(some 2), none, .mv (.t 36)⟩])
  .rt))⟩
theorem k56 : cF Tryz.prog Tryz.f56 = some c56 := by kernel_rfl
/-- rundale/lay.parts -/
def c57 : Fu := ⟨40, [.c 2 15 true],
  (.sq (.rg [⟨(some 1), none, .bx 24 (.t 0)⟩,
    ⟨(some 2), none, .al 126 [(.int .i64 0), (.int .i64 0), (.int .i64 0), (.int .i64 0), (.int .i64 0), (.int .i64 0), (.int .i64 0), (.int .i64 0), (.int .i64 0), (.int .i64 0), (.int .i64 0), (.int .i64 0), (.int .i64 0), (.int .i64 0), (.int .i64 0)]⟩])
  (.sq (.rg [⟨(some 6), none, .fa (.t 1) 0⟩,
    ⟨(some 7), none, .ld (.t 6) 1 false⟩,
    ⟨(some 8), none, .bd [(.int .i64 0), (.int .i64 0), (.int .i64 0)] [(0, 1, (.c (.int .i64 3))), (2, 1, (.t 7))]⟩,
    ⟨(some 9), none, .fa (.t 1) 3⟩,
    ⟨(some 10), none, .ld (.t 9) 1 false⟩,
    ⟨(some 11), none, .bd [(.int .i64 0), (.int .i64 0), (.int .i64 0)] [(0, 1, (.c (.int .i64 4))), (2, 1, (.t 10))]⟩,
    ⟨(some 12), none, .fa (.t 1) 3⟩,
    ⟨(some 13), none, .ld (.t 12) 1 false⟩,
    ⟨(some 14), none, .bd [(.int .i64 0), (.int .i64 0), (.int .i64 0)] [(0, 1, (.c (.int .i64 5))), (2, 1, (.t 13))]⟩,
    ⟨(some 15), none, .fa (.t 1) 1⟩,
    ⟨(some 16), none, .ld (.t 15) 1 false⟩,
    ⟨(some 17), none, .bd [(.int .i64 0), (.int .i64 0), (.int .i64 0)] [(0, 1, (.c (.int .i64 6))), (2, 1, (.t 16))]⟩,
    ⟨(some 18), none, .fa (.t 1) 1⟩,
    ⟨(some 19), none, .ld (.t 18) 1 false⟩,
    ⟨(some 20), none, .fa (.t 1) 2⟩,
    ⟨(some 21), none, .ld (.t 20) 1 false⟩,
    ⟨(some 22), none, .ib .mul (.t 19) (.t 21)⟩,
    ⟨(some 23), none, .bd [(.int .i64 0), (.int .i64 0), (.int .i64 0)] [(0, 1, (.c (.int .i64 7))), (2, 1, (.t 22))]⟩,
    ⟨(some 24), none, .bd [(.int .i64 0), (.int .i64 0), (.int .i64 0), (.int .i64 0), (.int .i64 0), (.int .i64 0), (.int .i64 0), (.int .i64 0), (.int .i64 0), (.int .i64 0), (.int .i64 0), (.int .i64 0), (.int .i64 0), (.int .i64 0), (.int .i64 0)] [(0, 3, (.t 8)), (3, 3, (.t 11)), (6, 3, (.t 14)), (9, 3, (.t 17)), (12, 3, (.t 23))]⟩,
    ⟨(some 3), none, .al 126 [(.int .i64 0), (.int .i64 0), (.int .i64 0), (.int .i64 0), (.int .i64 0), (.int .i64 0), (.int .i64 0), (.int .i64 0), (.int .i64 0), (.int .i64 0), (.int .i64 0), (.int .i64 0), (.int .i64 0), (.int .i64 0), (.int .i64 0)]⟩,
    ⟨none, none, .st (.t 3) (.t 24) 15⟩])
  (.sq (.rg [⟨(some 4), none, .mv (.c (.int .i64 3))⟩])
  (.sq (.sq (.rg [⟨(some 25), none, .mv (.c (.int .i64 0))⟩])
  (.bl 0
  (.lp
  (.sq (.rg [⟨(some 26), none, .ib .lss (.t 25) (.c (.int .i64 5))⟩])
  (.sq (.cd (.t 26)
  .sk
  (.ex 0))
  (.sq (.bl 1
  (.sq (.rg [⟨(some 27), none, .mv (.t 25)⟩,
    ⟨(some 5), none, .mv (.t 27)⟩])
  (.sq (.rg [⟨(some 28), none, .mv (.t 5)⟩,
    ⟨(some 29), none, .mv (.t 4)⟩,
    ⟨(some 30), none, .iaa (.t 3) (.t 28) 5 3⟩,
    ⟨(some 31), none, .fa (.t 30) 1⟩,
    ⟨none, none, .st (.t 31) (.t 29) 1⟩])
  (.rg [⟨(some 32), none, .mv (.t 4)⟩,
    ⟨(some 33), none, .mv (.t 5)⟩,
    ⟨(some 34), none, .iaa (.t 3) (.t 33) 5 3⟩,
    ⟨(some 35), none, .fa (.t 34) 2⟩,
    ⟨(some 36), none, .ld (.t 35) 1 false⟩,
    ⟨(some 37), none, .ib .add (.t 32) (.t 36)⟩,
    ⟨(some 4), none, .mv (.t 37)⟩]))))
  (.rg [⟨(some 38), none, .ib .add (.t 25) (.c (.int .i64 1))⟩,
    ⟨(some 25), none, .mv (.t 38)⟩])))))))
  (.sq (.rg [⟨(some 39), none, .ld (.t 3) 15 true⟩,
    ⟨none, none, .st (.t 2) (.t 39) 15⟩])
  .rt)))))⟩
theorem k57 : cF Tryz.prog Tryz.f57 = some c57 := by kernel_rfl
/-- (*rundale/cells.Cells).Len -/
def c58 : Fu := ⟨8, [.t 2],
  (.sq (.rg [⟨(some 2), none, .mv (.c (.int .i64 0))⟩])
  (.sq (.rg [⟨(some 3), none, .mv (.t 0)⟩,
    ⟨(some 4), none, .nc (.t 3)⟩,
    ⟨(some 5), none, .fa (.t 4) 0⟩,
    ⟨(some 6), none, .ld (.t 5) 1 false⟩,
    ⟨(some 7), none, .len (.t 6)⟩,
    ⟨(some 2), none, .mv (.t 7)⟩])
  .rt))⟩
theorem k58 : cF Tryz.prog Tryz.f58 = some c58 := by kernel_rfl
/-- rundale/epoch.New -/
def c59 : Fu := ⟨57, [.t 8, .t 9],
  (.sq (.rg [⟨(some 4), none, .bx 26 (.t 0)⟩,
    ⟨(some 8), none, .mv (.c (.pointer none))⟩,
    ⟨(some 9), none, .mv (.c (.int .i64 0))⟩])
  (.sq (.rg [⟨(some 11), none, .mf (.func 118) [] [(.t 4)]⟩,
    ⟨(some 10), none, .mv (.t 11)⟩])
  (.sq (.sq (.rg [⟨(some 12), none, .mv (.t 3)⟩,
    ⟨(some 13), none, .ib .lss (.t 12) (.c (.int .i64 1))⟩,
    ⟨(some 14), none, .mv (.t 13)⟩,
    ⟨(some 15), (some (14, false)), .mv (.t 3)⟩,
    ⟨(some 16), (some (14, false)), .ib .gtr (.t 15) (.c (.int .i64 64))⟩,
    ⟨(some 17), none, .pk (.t 14) (.c (.bool true)) (.t 16)⟩,
    ⟨(some 18), none, .mv (.t 17)⟩,
    ⟨(some 19), (some (18, false)), .mv (.t 10)⟩,
    ⟨(some 20), (some (18, false)), .mv (.t 1)⟩,
    ⟨(some 21), (some (18, false)), .cl (.t 19) [(.t 20)]⟩,
    ⟨(some 22), (some (18, false)), .nt (.t 21)⟩,
    ⟨(some 23), none, .pk (.t 18) (.c (.bool true)) (.t 22)⟩,
    ⟨(some 24), none, .mv (.t 23)⟩,
    ⟨(some 25), (some (24, false)), .mv (.t 10)⟩,
    ⟨(some 26), (some (24, false)), .mv (.t 2)⟩,
    ⟨(some 27), (some (24, false)), .cl (.t 25) [(.t 26)]⟩,
    ⟨(some 28), (some (24, false)), .nt (.t 27)⟩,
    ⟨(some 29), none, .pk (.t 24) (.c (.bool true)) (.t 28)⟩,
    ⟨(some 30), none, .mv (.t 29)⟩,
    ⟨(some 31), (some (30, false)), .mv (.t 10)⟩,
    ⟨(some 32), (some (30, false)), .mv (.t 2)⟩,
    ⟨(some 33), (some (30, false)), .mv (.t 3)⟩,
    ⟨(some 34), (some (30, false)), .ib .add (.t 32) (.t 33)⟩,
    ⟨(some 35), (some (30, false)), .ib .sub (.t 34) (.c (.int .i64 1))⟩,
    ⟨(some 36), (some (30, false)), .cl (.t 31) [(.t 35)]⟩,
    ⟨(some 37), (some (30, false)), .nt (.t 36)⟩,
    ⟨(some 38), none, .pk (.t 30) (.c (.bool true)) (.t 37)⟩,
    ⟨(some 39), none, .mv (.t 38)⟩,
    ⟨(some 40), (some (39, false)), .mv (.t 1)⟩,
    ⟨(some 41), (some (39, false)), .mv (.t 2)⟩,
    ⟨(some 42), (some (39, false)), .ib .geq (.t 40) (.t 41)⟩,
    ⟨(some 43), (some (39, false)), .mv (.t 42)⟩,
    ⟨(some 44), (some (43, true)), .mv (.t 1)⟩,
    ⟨(some 45), (some (43, true)), .mv (.t 2)⟩,
    ⟨(some 46), (some (43, true)), .mv (.t 3)⟩,
    ⟨(some 47), (some (43, true)), .ib .add (.t 45) (.t 46)⟩,
    ⟨(some 48), (some (43, true)), .ib .lss (.t 44) (.t 47)⟩,
    ⟨(some 49), (some (39, false)), .pk (.t 43) (.t 48) (.c (.bool false))⟩,
    ⟨(some 50), none, .pk (.t 39) (.c (.bool true)) (.t 49)⟩])
  (.cd (.t 50)
  (.sq (.rg [⟨(some 8), none, .mv (.c (.pointer none))⟩,
    ⟨(some 9), none, .mv (.c (.int .i64 1))⟩])
  .rt)
  .sk))
  (.sq (.rg [⟨(some 51), none, .ld (.t 4) 1 false⟩,
    ⟨(some 52), none, .mv (.t 1)⟩,
    ⟨(some 53), none, .mv (.t 2)⟩,
    ⟨(some 54), none, .mv (.t 3)⟩,
    ⟨(some 55), none, .bd [(.pointer none), (.int .i64 0), (.int .i64 0), (.int .i64 0)] [(0, 1, (.t 51)), (1, 1, (.t 52)), (2, 1, (.t 53)), (3, 1, (.t 54))]⟩,
    ⟨(some 56), none, .bx 161 (.t 55)⟩,
    ⟨(some 8), none, .mv (.t 56)⟩,
    ⟨(some 9), none, .mv (.c (.int .i64 0))⟩])
  .rt))))⟩
theorem k59 : cF Tryz.prog Tryz.f59 = some c59 := by kernel_rfl
/-- rundale/supply.New -/
def c60 : Fu := ⟨27, [.t 4, .t 5],
  (.sq (.rg [⟨(some 3), none, .bx 24 (.t 1)⟩,
    ⟨(some 4), none, .mv (.c (.pointer none))⟩,
    ⟨(some 5), none, .mv (.c (.int .i64 0))⟩])
  (.sq (.rg [⟨(some 9), none, .mv (.t 0)⟩,
    ⟨(some 10), none, .ld (.t 3) 6 true⟩,
    ⟨(some 11), none, .ca 66 [(.t 9), (.t 10)]⟩,
    ⟨(some 8), none, .mv (.t 11)⟩,
    ⟨(some 12), none, .ex (.t 8) 0⟩,
    ⟨(some 13), none, .ex (.t 8) 1⟩,
    ⟨(some 6), none, .mv (.t 12)⟩,
    ⟨(some 7), none, .mv (.t 13)⟩])
  (.sq (.sq (.rg [⟨(some 14), none, .mv (.t 7)⟩,
    ⟨(some 15), none, .ib .neq (.t 14) (.c (.int .i64 0))⟩])
  (.cd (.t 15)
  (.sq (.rg [⟨(some 16), none, .mv (.t 7)⟩,
    ⟨(some 4), none, .mv (.c (.pointer none))⟩,
    ⟨(some 5), none, .mv (.t 16)⟩])
  .rt)
  .sk))
  (.sq (.rd [⟨0, 0, [0], ⟨(some 17), none, .mv (.t 0)⟩⟩,
    ⟨1, 0, [3], ⟨(some 18), none, .ld (.t 3) 6 true⟩⟩,
    ⟨2, 0, [6], ⟨(some 19), none, .mv (.t 6)⟩⟩,
    ⟨3, 4, [19], ⟨(some 20), none, .ca 67 [(.t 19)]⟩⟩,
    ⟨4, 0, [3], ⟨(some 21), none, .fa (.t 3) 4⟩⟩,
    ⟨5, 16, [21], ⟨(some 22), none, .ld (.t 21) 1 false⟩⟩,
    ⟨6, 60, [22], ⟨(some 23), none, .ca 119 [(.t 22)]⟩⟩,
    ⟨7, 124, [], ⟨(some 24), none, .ca 120 []⟩⟩,
    ⟨8, 255, [17, 18, 20, 23, 24], ⟨(some 25), none, .bd [(.pointer none), (.int .i64 0), (.int .i64 0), (.int .i64 0), (.int .i64 0), (.int .i64 0), (.int .i64 0), (.pointer none), (.pointer none), (.pointer none)] [(0, 1, (.t 17)), (1, 6, (.t 18)), (7, 1, (.t 20)), (8, 1, (.t 23)), (9, 1, (.t 24))]⟩⟩,
    ⟨9, 511, [25], ⟨(some 26), none, .bx 145 (.t 25)⟩⟩,
    ⟨10, 1023, [26], ⟨(some 4), none, .mv (.t 26)⟩⟩,
    ⟨11, 2047, [], ⟨(some 5), none, .mv (.c (.int .i64 0))⟩⟩])
  .rt))))⟩
theorem k60 : cF Tryz.prog Tryz.f60 = some c60 := by kernel_rfl
/-- (*rundale/supply.Supply).Take -/
def c61 : Fu := ⟨26, [.t 2],
  (.sq (.rg [⟨(some 2), none, .mv (.c (.pointer none))⟩])
  (.sq (.rg [⟨(some 4), none, .mv (.t 0)⟩,
    ⟨(some 5), none, .bd [.nilFunc, .nilFunc, .nilFunc, .nilFunc, (.int .i64 0), (.pointer none), (.pointer none), (.int .i64 0), (.int .i64 0), (.bool false)] [(5, 1, (.t 4)), (8, 1, (.c (.int .i64 (-1))))]⟩,
    ⟨(some 6), none, .bx 194 (.t 5)⟩,
    ⟨(some 3), none, .mv (.t 6)⟩])
  (.sq (.bl 0
  (.sq (.rg [⟨(some 10), none, .mv (.t 3)⟩,
    ⟨(some 11), none, .ca 121 [(.t 10)]⟩,
    ⟨(some 9), none, .mv (.t 11)⟩])
  (.cd (.t 9)
  .sk
  (.sq (.rg [⟨(some 13), none, .mv (.t 0)⟩,
    ⟨(some 14), none, .nc (.t 13)⟩,
    ⟨(some 15), none, .fa (.t 14) 9⟩,
    ⟨(some 16), none, .ld (.t 15) 1 false⟩,
    ⟨(some 17), none, .ca 122 [(.t 16)]⟩,
    ⟨(some 18), none, .ib .gtr (.t 17) (.c (.int .i64 0))⟩,
    ⟨(some 12), none, .mv (.t 18)⟩])
  (.cd (.t 12)
  (.rg [⟨(some 19), none, .mv (.t 3)⟩,
    ⟨(some 20), none, .nc (.t 19)⟩,
    ⟨(some 21), none, .fa (.t 20) 0⟩,
    ⟨(some 22), none, .mv (.t 3)⟩,
    ⟨(some 23), none, .mf (.func 123) [(.t 22)] []⟩,
    ⟨(some 24), none, .ca 114 [(.t 21), (.t 23)]⟩])
  (.rg [⟨(some 7), none, .mv (.t 3)⟩,
    ⟨(some 8), none, .ca 124 [(.t 7)]⟩]))))))
  (.sq (.rg [⟨(some 25), none, .mv (.t 3)⟩,
    ⟨(some 2), none, .mv (.t 25)⟩])
  .rt))))⟩
theorem k61 : cF Tryz.prog Tryz.f61 = some c61 := by kernel_rfl
/-- (*rundale/supply.Take).Done -/
def c62 : Fu := ⟨7, [.t 2],
  (.sq (.rg [⟨(some 2), none, .mv (.c (.bool false))⟩])
  (.sq (.rg [⟨(some 3), none, .mv (.t 0)⟩,
    ⟨(some 4), none, .nc (.t 3)⟩,
    ⟨(some 5), none, .fa (.t 4) 0⟩,
    ⟨(some 6), none, .ca 97 [(.t 5)]⟩,
    ⟨(some 2), none, .mv (.t 6)⟩])
  .rt))⟩
theorem k62 : cF Tryz.prog Tryz.f62 = some c62 := by kernel_rfl
/-- (*rundale/supply.Take).Step -/
def c63 : Fu := ⟨7, [.t 2],
  (.sq (.rg [⟨(some 2), none, .mv (.c (.bool false))⟩])
  (.sq (.rg [⟨(some 3), none, .mv (.t 0)⟩,
    ⟨(some 4), none, .nc (.t 3)⟩,
    ⟨(some 5), none, .fa (.t 4) 0⟩,
    ⟨(some 6), none, .ca 93 [(.t 5)]⟩,
    ⟨(some 2), none, .mv (.t 6)⟩])
  .rt))⟩
theorem k63 : cF Tryz.prog Tryz.f63 = some c63 := by kernel_rfl
/-- (*rundale/supply.Take).Chunk -/
def c64 : Fu := ⟨15, [.t 2, .t 3],
  (.sq (.rg [⟨(some 2), none, .mv (.c (.int .i64 0))⟩,
    ⟨(some 3), none, .mv (.c (.bool false))⟩])
  (.sq (.sq (.rg [⟨(some 4), none, .mv (.t 0)⟩,
    ⟨(some 5), none, .ca 62 [(.t 4)]⟩,
    ⟨(some 6), none, .nt (.t 5)⟩])
  (.cd (.t 6)
  (.sq (.rg [⟨(some 2), none, .mv (.c (.int .i64 0))⟩,
    ⟨(some 3), none, .mv (.c (.bool false))⟩])
  .rt)
  .sk))
  (.sq (.rd [⟨0, 0, [0], ⟨(some 7), none, .mv (.t 0)⟩⟩,
    ⟨1, 1, [7], ⟨(some 8), none, .nc (.t 7)⟩⟩,
    ⟨2, 3, [8], ⟨(some 9), none, .fa (.t 8) 7⟩⟩,
    ⟨3, 7, [9], ⟨(some 10), none, .ld (.t 9) 1 false⟩⟩,
    ⟨4, 0, [0], ⟨(some 11), none, .mv (.t 0)⟩⟩,
    ⟨5, 16, [11], ⟨(some 12), none, .nc (.t 11)⟩⟩,
    ⟨6, 48, [12], ⟨(some 13), none, .fa (.t 12) 9⟩⟩,
    ⟨7, 112, [13], ⟨(some 14), none, .ld (.t 13) 1 false⟩⟩,
    ⟨8, 15, [10], ⟨(some 2), none, .mv (.t 10)⟩⟩,
    ⟨9, 511, [14], ⟨(some 3), none, .mv (.t 14)⟩⟩])
  .rt)))⟩
theorem k64 : cF Tryz.prog Tryz.f64 = some c64 := by kernel_rfl
/-- rundale/chain.New -/
def c66 : Fu := ⟨35, [.t 4, .t 5],
  (.sq (.rg [⟨(some 3), none, .bx 24 (.t 1)⟩,
    ⟨(some 4), none, .mv (.c (.pointer none))⟩,
    ⟨(some 5), none, .mv (.c (.int .i64 0))⟩])
  (.sq (.sq (.rd [⟨0, 0, [3], ⟨(some 8), none, .ld (.t 3) 6 true⟩⟩,
    ⟨1, 1, [8], ⟨(some 9), none, .ca 56 [(.t 8)]⟩⟩,
    ⟨2, 3, [9], ⟨(some 10), none, .nt (.t 9)⟩⟩,
    ⟨3, 7, [10], ⟨(some 11), none, .mv (.t 10)⟩⟩,
    ⟨4, 15, [0, 11], ⟨(some 12), (some (11, false)), .mv (.t 0)⟩⟩,
    ⟨5, 31, [12, 11], ⟨(some 13), (some (11, false)), .ca 58 [(.t 12)]⟩⟩,
    ⟨6, 15, [3, 11], ⟨(some 14), (some (11, false)), .ld (.t 3) 6 true⟩⟩,
    ⟨7, 127, [14, 11], ⟨(some 15), (some (11, false)), .ca 13 [(.t 14)]⟩⟩,
    ⟨8, 255, [13, 15, 11], ⟨(some 16), (some (11, false)), .ib .lss (.t 13) (.t 15)⟩⟩,
    ⟨9, 511, [11, 16], ⟨(some 17), none, .pk (.t 11) (.c (.bool true)) (.t 16)⟩⟩])
  (.cd (.t 17)
  (.sq (.rg [⟨(some 4), none, .mv (.c (.pointer none))⟩,
    ⟨(some 5), none, .mv (.c (.int .i64 1))⟩])
  .rt)
  .sk))
  (.sq (.rd [⟨0, 0, [0], ⟨(some 19), none, .mv (.t 0)⟩⟩,
    ⟨1, 0, [3], ⟨(some 20), none, .ld (.t 3) 6 true⟩⟩,
    ⟨2, 2, [20], ⟨(some 21), none, .ca 126 [(.t 20), (.c (.int .i64 0))]⟩⟩,
    ⟨3, 0, [3], ⟨(some 22), none, .fa (.t 3) 1⟩⟩,
    ⟨4, 8, [22], ⟨(some 23), none, .ld (.t 22) 1 false⟩⟩,
    ⟨5, 31, [19, 21, 23], ⟨(some 24), none, .ca 125 [(.t 19), (.c (.int .i64 0)), (.t 21), (.t 23)]⟩⟩,
    ⟨6, 63, [24], ⟨(some 18), none, .mv (.t 24)⟩⟩,
    ⟨7, 127, [18], ⟨(some 25), none, .ex (.t 18) 0⟩⟩,
    ⟨8, 127, [18], ⟨(some 26), none, .ex (.t 18) 1⟩⟩,
    ⟨9, 255, [25], ⟨(some 6), none, .mv (.t 25)⟩⟩,
    ⟨10, 1023, [26], ⟨(some 7), none, .mv (.t 26)⟩⟩])
  (.sq (.sq (.rg [⟨(some 27), none, .mv (.t 7)⟩,
    ⟨(some 28), none, .ib .neq (.t 27) (.c (.int .i64 0))⟩])
  (.cd (.t 28)
  (.sq (.rg [⟨(some 29), none, .mv (.t 7)⟩,
    ⟨(some 4), none, .mv (.c (.pointer none))⟩,
    ⟨(some 5), none, .mv (.t 29)⟩])
  .rt)
  .sk))
  (.sq (.rg [⟨(some 30), none, .mv (.t 0)⟩,
    ⟨(some 31), none, .ld (.t 3) 6 true⟩,
    ⟨(some 32), none, .mv (.t 6)⟩,
    ⟨(some 33), none, .bd [(.pointer none), (.int .i64 0), (.int .i64 0), (.int .i64 0), (.int .i64 0), (.int .i64 0), (.int .i64 0), (.pointer none)] [(0, 1, (.t 30)), (1, 6, (.t 31)), (7, 1, (.t 32))]⟩,
    ⟨(some 34), none, .bx 198 (.t 33)⟩,
    ⟨(some 4), none, .mv (.t 34)⟩,
    ⟨(some 5), none, .mv (.c (.int .i64 0))⟩])
  .rt)))))⟩
theorem k66 : cF Tryz.prog Tryz.f66 = some c66 := by kernel_rfl
/-- (*rundale/chain.Chains).Pool -/
def c67 : Fu := ⟨7, [.t 2],
  (.sq (.rg [⟨(some 2), none, .mv (.c (.pointer none))⟩])
  (.sq (.rg [⟨(some 3), none, .mv (.t 0)⟩,
    ⟨(some 4), none, .nc (.t 3)⟩,
    ⟨(some 5), none, .fa (.t 4) 7⟩,
    ⟨(some 6), none, .ld (.t 5) 1 false⟩,
    ⟨(some 2), none, .mv (.t 6)⟩])
  .rt))⟩
theorem k67 : cF Tryz.prog Tryz.f67 = some c67 := by kernel_rfl
/-- (*rundale/chain.Chains).Fill -/
def c68 : Fu := ⟨7, [],
  (.rg [⟨(some 2), none, .mv (.t 0)⟩,
    ⟨(some 3), none, .nc (.t 2)⟩,
    ⟨(some 4), none, .fa (.t 3) 7⟩,
    ⟨(some 5), none, .ld (.t 4) 1 false⟩,
    ⟨(some 6), none, .ca 127 [(.t 5)]⟩])⟩
theorem k68 : cF Tryz.prog Tryz.f68 = some c68 := by kernel_rfl
/-- rundale/rundaleref11.New -/
def c69 : Fu := ⟨53, [.t 2],
  (.sq (.rg [⟨(some 1), none, .bx 24 (.t 0)⟩,
    ⟨(some 2), none, .mv (.c (.pointer none))⟩])
  (.sq (.rg [⟨(some 5), none, .ld (.t 1) 6 true⟩,
    ⟨(some 6), none, .ca 129 [(.t 5)]⟩,
    ⟨(some 7), none, .ca 128 [(.t 6)]⟩,
    ⟨(some 3), none, .mv (.t 7)⟩])
  (.sq (.rg [⟨(some 8), none, .ld (.t 1) 6 true⟩,
    ⟨(some 9), none, .mv (.t 3)⟩,
    ⟨(some 10), none, .bd [(.int .i64 0), (.int .i64 0), (.int .i64 0), (.int .i64 0), (.int .i64 0), (.int .i64 0), (.pointer none), (.pointer none), (.pointer none), (.pointer none)] [(0, 6, (.t 8)), (6, 1, (.t 9))]⟩,
    ⟨(some 11), none, .bx 74 (.t 10)⟩,
    ⟨(some 4), none, .mv (.t 11)⟩])
  (.sq (.rd [⟨0, 0, [4], ⟨(some 12), none, .mv (.t 4)⟩⟩,
    ⟨1, 0, [3], ⟨(some 13), none, .mv (.t 3)⟩⟩,
    ⟨2, 0, [1], ⟨(some 14), none, .ld (.t 1) 6 true⟩⟩,
    ⟨3, 4, [14], ⟨(some 15), none, .ca 130 [(.t 14), (.c (.int .i64 0))]⟩⟩,
    ⟨4, 0, [1], ⟨(some 16), none, .fa (.t 1) 1⟩⟩,
    ⟨5, 16, [16], ⟨(some 17), none, .ld (.t 16) 1 false⟩⟩,
    ⟨6, 62, [13, 15, 17], ⟨(some 18), none, .bd [(.pointer none), (.int .i64 0), (.int .i64 0), (.int .i64 0)] [(0, 1, (.t 13)), (1, 1, (.c (.int .i64 0))), (2, 1, (.t 15)), (3, 1, (.t 17))]⟩⟩,
    ⟨7, 126, [18], ⟨(some 19), none, .bx 156 (.t 18)⟩⟩,
    ⟨8, 255, [12], ⟨(some 20), none, .nc (.t 12)⟩⟩,
    ⟨9, 511, [20], ⟨(some 21), none, .fa (.t 20) 7⟩⟩,
    ⟨10, 1023, [21, 19], ⟨none, none, .st (.t 21) (.t 19) 1⟩⟩])
  (.sq (.rd [⟨0, 0, [4], ⟨(some 22), none, .mv (.t 4)⟩⟩,
    ⟨1, 0, [3], ⟨(some 23), none, .mv (.t 3)⟩⟩,
    ⟨2, 0, [1], ⟨(some 24), none, .ld (.t 1) 6 true⟩⟩,
    ⟨3, 4, [24], ⟨(some 25), none, .ca 71 [(.t 24), (.c (.int .i64 0))]⟩⟩,
    ⟨4, 0, [1], ⟨(some 26), none, .fa (.t 1) 3⟩⟩,
    ⟨5, 16, [26], ⟨(some 27), none, .ld (.t 26) 1 false⟩⟩,
    ⟨6, 62, [23, 25, 27], ⟨(some 28), none, .bd [(.pointer none), (.int .i64 0), (.int .i64 0), (.int .i64 0)] [(0, 1, (.t 23)), (1, 1, (.c (.int .i64 1))), (2, 1, (.t 25)), (3, 1, (.t 27))]⟩⟩,
    ⟨7, 126, [28], ⟨(some 29), none, .bx 156 (.t 28)⟩⟩,
    ⟨8, 255, [22], ⟨(some 30), none, .nc (.t 22)⟩⟩,
    ⟨9, 511, [30], ⟨(some 31), none, .fa (.t 30) 8⟩⟩,
    ⟨10, 1023, [31, 29], ⟨none, none, .st (.t 31) (.t 29) 1⟩⟩])
  (.sq (.rd [⟨0, 0, [4], ⟨(some 32), none, .mv (.t 4)⟩⟩,
    ⟨1, 0, [3], ⟨(some 33), none, .mv (.t 3)⟩⟩,
    ⟨2, 0, [1], ⟨(some 34), none, .ld (.t 1) 6 true⟩⟩,
    ⟨3, 4, [34], ⟨(some 35), none, .ca 47 [(.t 34), (.c (.int .i64 0))]⟩⟩,
    ⟨4, 0, [1], ⟨(some 36), none, .fa (.t 1) 0⟩⟩,
    ⟨5, 16, [36], ⟨(some 37), none, .ld (.t 36) 1 false⟩⟩,
    ⟨6, 62, [33, 35, 37], ⟨(some 38), none, .bd [(.pointer none), (.int .i64 0), (.int .i64 0), (.int .i64 0)] [(0, 1, (.t 33)), (1, 1, (.c (.int .i64 2))), (2, 1, (.t 35)), (3, 1, (.t 37))]⟩⟩,
    ⟨7, 126, [38], ⟨(some 39), none, .bx 175 (.t 38)⟩⟩,
    ⟨8, 255, [32], ⟨(some 40), none, .nc (.t 32)⟩⟩,
    ⟨9, 511, [40], ⟨(some 41), none, .fa (.t 40) 9⟩⟩,
    ⟨10, 1023, [41, 39], ⟨none, none, .st (.t 41) (.t 39) 1⟩⟩])
  (.sq (.rg [⟨(some 42), none, .mv (.t 4)⟩,
    ⟨(some 43), none, .nc (.t 42)⟩,
    ⟨(some 44), none, .fa (.t 43) 7⟩,
    ⟨(some 45), none, .ld (.t 44) 1 false⟩,
    ⟨(some 46), none, .ca 131 [(.t 45)]⟩])
  (.sq (.rg [⟨(some 47), none, .mv (.t 4)⟩,
    ⟨(some 48), none, .nc (.t 47)⟩,
    ⟨(some 49), none, .fa (.t 48) 8⟩,
    ⟨(some 50), none, .ld (.t 49) 1 false⟩,
    ⟨(some 51), none, .ca 131 [(.t 50)]⟩])
  (.sq (.rg [⟨(some 52), none, .mv (.t 4)⟩,
    ⟨(some 2), none, .mv (.t 52)⟩])
  .rt)))))))))⟩
theorem k69 : cF Tryz.prog Tryz.f69 = some c69 := by kernel_rfl
/-- (*rundale/rundaleref11.W).Supply -/
def c70 : Fu := ⟨13, [.t 2],
  (.sq (.rg [⟨(some 2), none, .mv (.c (.pointer none))⟩])
  (.sq (.rg [⟨(some 3), none, .mv (.t 0)⟩,
    ⟨(some 4), none, .mv (.t 0)⟩,
    ⟨(some 5), none, .nc (.t 4)⟩,
    ⟨(some 6), none, .fa (.t 5) 0⟩,
    ⟨(some 7), none, .fa (.t 6) 4⟩,
    ⟨(some 8), none, .ld (.t 7) 1 false⟩,
    ⟨(some 9), none, .ca 132 [(.t 8)]⟩,
    ⟨(some 10), none, .ca 133 []⟩,
    ⟨(some 11), none, .bd [(.pointer none), (.pointer none), (.pointer none)] [(0, 1, (.t 3)), (1, 1, (.t 9)), (2, 1, (.t 10))]⟩,
    ⟨(some 12), none, .bx 100 (.t 11)⟩,
    ⟨(some 2), none, .mv (.t 12)⟩])
  .rt))⟩
theorem k70 : cF Tryz.prog Tryz.f70 = some c70 := by kernel_rfl
/-- rundale/rundaleref1.Slot -/
def c71 : Fu := ⟨16, [.t 4],
  (.sq (.rg [⟨(some 2), none, .bx 24 (.t 0)⟩,
    ⟨(some 4), none, .mv (.c (.int .i64 0))⟩])
  (.sq (.rg [⟨(some 5), none, .ld (.t 2) 6 true⟩,
    ⟨(some 6), none, .fa (.t 2) 0⟩,
    ⟨(some 7), none, .ld (.t 6) 1 false⟩,
    ⟨(some 8), none, .ib .add (.c (.int .i64 3)) (.t 7)⟩,
    ⟨(some 9), none, .fa (.t 2) 3⟩,
    ⟨(some 10), none, .ld (.t 9) 1 false⟩,
    ⟨(some 11), none, .ib .add (.t 8) (.t 10)⟩,
    ⟨(some 12), none, .fa (.t 2) 3⟩,
    ⟨(some 13), none, .ld (.t 12) 1 false⟩,
    ⟨(some 14), none, .mv (.t 1)⟩,
    ⟨(some 15), none, .ca 109 [(.t 5), (.t 11), (.t 13), (.t 14)]⟩,
    ⟨(some 4), none, .mv (.t 15)⟩])
  .rt))⟩
theorem k71 : cF Tryz.prog Tryz.f71 = some c71 := by kernel_rfl
/-- (*rundale/stash.Stash).List -/
def c72 : Fu := ⟨8, [.t 2],
  (.sq (.rg [⟨(some 2), none, .mv (.c (.slice none 0 0))⟩])
  (.sq (.rg [⟨(some 3), none, .mv (.t 0)⟩,
    ⟨(some 4), none, .nc (.t 3)⟩,
    ⟨(some 5), none, .fa (.t 4) 1⟩,
    ⟨(some 6), none, .ld (.t 5) 1 false⟩,
    ⟨(some 7), none, .ca 134 [(.t 6)]⟩,
    ⟨(some 2), none, .mv (.t 7)⟩])
  .rt))⟩
theorem k72 : cF Tryz.prog Tryz.f72 = some c72 := by kernel_rfl
/-- (*rundale/stash.Stash).Give -/
def c73 : Fu := ⟨13, [],
  (.rg [⟨(some 4), none, .mv (.t 0)⟩,
    ⟨(some 5), none, .mv (.t 0)⟩,
    ⟨(some 6), none, .nc (.t 5)⟩,
    ⟨(some 7), none, .fa (.t 6) 1⟩,
    ⟨(some 8), none, .ld (.t 7) 1 false⟩,
    ⟨(some 9), none, .mv (.t 1)⟩,
    ⟨(some 10), none, .ap 49 3 1 8 [(.int .i64 0)] (.t 8) (.t 9)⟩,
    ⟨(some 11), none, .nc (.t 4)⟩,
    ⟨(some 12), none, .fa (.t 11) 1⟩,
    ⟨none, none, .st (.t 12) (.t 10) 1⟩])⟩
theorem k73 : cF Tryz.prog Tryz.f73 = some c73 := by kernel_rfl
/-- (*rundale/supply.Give).Step -/
def c74 : Fu := ⟨7, [.t 2],
  (.sq (.rg [⟨(some 2), none, .mv (.c (.bool false))⟩])
  (.sq (.rg [⟨(some 3), none, .mv (.t 0)⟩,
    ⟨(some 4), none, .nc (.t 3)⟩,
    ⟨(some 5), none, .fa (.t 4) 0⟩,
    ⟨(some 6), none, .ca 93 [(.t 5)]⟩,
    ⟨(some 2), none, .mv (.t 6)⟩])
  .rt))⟩
theorem k74 : cF Tryz.prog Tryz.f74 = some c74 := by kernel_rfl
/-- (*rundale/supply.Supply).give -/
def c75 : Fu := ⟨33, [.t 4],
  (.sq (.rg [⟨(some 4), none, .mv (.c (.pointer none))⟩])
  (.sq (.rg [⟨(some 8), none, .mv (.t 1)⟩,
    ⟨(some 9), none, .bd [.nilFunc, .nilFunc, .nilFunc, .nilFunc, (.int .i64 0), (.slice none 0 0)] [(5, 1, (.t 8))]⟩,
    ⟨(some 10), none, .bx 206 (.t 9)⟩,
    ⟨(some 5), none, .mv (.t 10)⟩])
  (.sq (.sq (.rg [⟨(some 12), none, .mv (.t 0)⟩,
    ⟨(some 13), none, .nc (.t 12)⟩,
    ⟨(some 14), none, .fa (.t 13) 7⟩,
    ⟨(some 15), none, .ld (.t 14) 1 false⟩,
    ⟨(some 16), none, .mv (.t 1)⟩,
    ⟨(some 17), none, .ca 135 [(.t 15), (.t 16)]⟩,
    ⟨(some 11), none, .mv (.t 17)⟩,
    ⟨(some 18), none, .ex (.t 11) 0⟩,
    ⟨(some 19), none, .ex (.t 11) 1⟩,
    ⟨(some 6), none, .mv (.t 18)⟩,
    ⟨(some 7), none, .mv (.t 19)⟩])
  (.sq (.rg [⟨(some 20), none, .mv (.t 7)⟩,
    ⟨(some 21), none, .ib .eql (.t 20) (.c (.int .i64 0))⟩])
  (.cd (.t 21)
  (.rg [⟨(some 22), none, .mv (.t 5)⟩,
    ⟨(some 23), none, .nc (.t 22)⟩,
    ⟨(some 24), none, .fa (.t 23) 0⟩,
    ⟨(some 25), none, .mv (.t 6)⟩,
    ⟨(some 26), none, .mf (.func 136) [(.t 25)] []⟩,
    ⟨(some 27), none, .mv (.t 6)⟩,
    ⟨(some 28), none, .mf (.func 137) [(.t 27)] []⟩,
    ⟨(some 29), none, .mv (.t 5)⟩,
    ⟨(some 30), none, .mf (.func 138) [(.t 29)] []⟩,
    ⟨(some 31), none, .ca 102 [(.t 24), (.t 26), (.t 28), (.t 30)]⟩])
  .sk)))
  (.sq (.rg [⟨(some 32), none, .mv (.t 5)⟩,
    ⟨(some 4), none, .mv (.t 32)⟩])
  .rt))))⟩
theorem k75 : cF Tryz.prog Tryz.f75 = some c75 := by kernel_rfl
/-- (*rundale/stack.Stack).top -/
def c77 : Fu := ⟨17, [.t 4],
  (.sq (.rg [⟨(some 4), none, .mv (.c (.int .i64 0))⟩])
  (.sq (.sq (.rg [⟨(some 6), none, .mv (.t 1)⟩,
    ⟨(some 7), none, .ca 140 [(.t 6)]⟩,
    ⟨(some 5), none, .al 212 [(.int .i64 0), (.int .i64 0)]⟩,
    ⟨none, none, .st (.t 5) (.t 7) 2⟩])
  (.sq (.rd [⟨0, 0, [5], ⟨(some 8), none, .fa (.t 5) 0⟩⟩,
    ⟨1, 1, [8], ⟨(some 9), none, .ld (.t 8) 1 false⟩⟩,
    ⟨2, 0, [0], ⟨(some 10), none, .mv (.t 0)⟩⟩,
    ⟨3, 4, [10], ⟨(some 11), none, .nc (.t 10)⟩⟩,
    ⟨4, 12, [11], ⟨(some 12), none, .fa (.t 11) 3⟩⟩,
    ⟨5, 28, [12], ⟨(some 13), none, .ld (.t 12) 1 false⟩⟩,
    ⟨6, 63, [9, 13], ⟨(some 14), none, .ib .lss (.t 9) (.t 13)⟩⟩])
  (.cd (.t 14)
  (.sq (.rg [⟨(some 15), none, .fa (.t 5) 0⟩,
    ⟨(some 16), none, .ld (.t 15) 1 false⟩,
    ⟨(some 4), none, .mv (.t 16)⟩])
  .rt)
  .sk)))
  (.sq (.rg [⟨(some 4), none, .mv (.c (.int .i64 (-1)))⟩])
  .rt)))⟩
theorem k77 : cF Tryz.prog Tryz.f77 = some c77 := by kernel_rfl
/-- (*rundale/cells.Cells).Peek -/
def c78 : Fu := ⟨16, [.t 4],
  (.sq (.rg [⟨(some 4), none, .mv (.c (.int .u64 0))⟩])
  (.sq (.sq (.rg [⟨(some 5), none, .mv (.t 0)⟩,
    ⟨(some 6), none, .mv (.t 1)⟩,
    ⟨(some 7), none, .ca 110 [(.t 5), (.t 6)]⟩,
    ⟨(some 8), none, .nt (.t 7)⟩])
  (.cd (.t 8)
  (.sq (.rg [⟨(some 4), none, .mv (.c (.int .u64 0))⟩])
  .rt)
  .sk))
  (.sq (.rg [⟨(some 9), none, .mv (.t 0)⟩,
    ⟨(some 10), none, .nc (.t 9)⟩,
    ⟨(some 11), none, .fa (.t 10) 0⟩,
    ⟨(some 12), none, .ld (.t 11) 1 false⟩,
    ⟨(some 13), none, .mv (.t 1)⟩,
    ⟨(some 14), none, .ia (.t 12) (.t 13) 1⟩,
    ⟨(some 15), none, .ld (.t 14) 1 false⟩,
    ⟨(some 4), none, .mv (.t 15)⟩])
  .rt)))⟩
theorem k78 : cF Tryz.prog Tryz.f78 = some c78 := by kernel_rfl
/-- (*rundale/stack.Stack).below -/
def c79 : Fu := ⟨15, [.t 4],
  (.sq (.rg [⟨(some 4), none, .mv (.c (.int .i64 0))⟩])
  (.sq (.sq (.rg [⟨(some 5), none, .mv (.t 1)⟩,
    ⟨(some 6), none, .mv (.t 0)⟩,
    ⟨(some 7), none, .nc (.t 6)⟩,
    ⟨(some 8), none, .fa (.t 7) 3⟩,
    ⟨(some 9), none, .ld (.t 8) 1 false⟩,
    ⟨(some 10), none, .cv .u64 (.t 9)⟩,
    ⟨(some 11), none, .ib .gtr (.t 5) (.t 10)⟩])
  (.cd (.t 11)
  (.sq (.rg [⟨(some 4), none, .mv (.c (.int .i64 (-1)))⟩])
  .rt)
  .sk))
  (.sq (.rg [⟨(some 12), none, .mv (.t 1)⟩,
    ⟨(some 13), none, .cv .i64 (.t 12)⟩,
    ⟨(some 14), none, .ib .sub (.t 13) (.c (.int .i64 1))⟩,
    ⟨(some 4), none, .mv (.t 14)⟩])
  .rt)))⟩
theorem k79 : cF Tryz.prog Tryz.f79 = some c79 := by kernel_rfl
/-- (*rundale/stash.Stash).All -/
def c80 : Fu := ⟨10, [.t 2],
  (.sq (.rg [⟨(some 2), none, .mv (.c (.slice none 0 0))⟩])
  (.sq (.rg [⟨(some 3), none, .mv (.t 0)⟩,
    ⟨(some 4), none, .mv (.t 0)⟩,
    ⟨(some 5), none, .nc (.t 4)⟩,
    ⟨(some 6), none, .fa (.t 5) 1⟩,
    ⟨(some 7), none, .ld (.t 6) 1 false⟩,
    ⟨(some 8), none, .len (.t 7)⟩,
    ⟨(some 9), none, .ca 139 [(.t 3), (.t 8)]⟩,
    ⟨(some 2), none, .mv (.t 9)⟩])
  .rt))⟩
theorem k80 : cF Tryz.prog Tryz.f80 = some c80 := by kernel_rfl
/-- (*rundale/rundaleref11.Take).Step -/
def c81 : Fu := ⟨86, [.t 2],
  (.sq (.rg [⟨(some 2), none, .mv (.c (.bool false))⟩])
  (.sq (.sq (.rg [⟨(some 4), none, .mv (.t 0)⟩,
    ⟨(some 5), none, .nc (.t 4)⟩,
    ⟨(some 6), none, .fa (.t 5) 5⟩,
    ⟨(some 7), none, .ld (.t 6) 1 false⟩])
  (.cd (.t 7)
  (.sq (.rg [⟨(some 2), none, .mv (.c (.bool false))⟩])
  .rt)
  .sk))
  (.sq (.sq (.rg [⟨(some 8), none, .mv (.t 0)⟩,
    ⟨(some 9), none, .nc (.t 8)⟩,
    ⟨(some 10), none, .fa (.t 9) 1⟩,
    ⟨(some 11), none, .ld (.t 10) 1 false⟩,
    ⟨(some 12), none, .ib .eql (.t 11) (.c (.int .i64 0))⟩])
  (.cd (.t 12)
  (.sq (.rg [⟨(some 13), none, .mv (.t 0)⟩,
    ⟨(some 14), none, .mv (.t 0)⟩,
    ⟨(some 15), none, .nc (.t 14)⟩,
    ⟨(some 16), none, .fa (.t 15) 0⟩,
    ⟨(some 17), none, .ld (.t 16) 1 false⟩,
    ⟨(some 18), none, .nc (.t 17)⟩,
    ⟨(some 19), none, .fa (.t 18) 0⟩,
    ⟨(some 20), none, .ld (.t 19) 1 false⟩,
    ⟨(some 21), none, .nc (.t 20)⟩,
    ⟨(some 22), none, .fa (.t 21) 6⟩,
    ⟨(some 23), none, .ld (.t 22) 1 false⟩,
    ⟨(some 24), none, .ca 96 [(.t 23), (.c (.int .i64 2))]⟩,
    ⟨(some 25), none, .ca 95 [(.t 24)]⟩,
    ⟨(some 26), none, .nc (.t 13)⟩,
    ⟨(some 27), none, .fa (.t 26) 3⟩,
    ⟨none, none, .st (.t 27) (.t 25) 1⟩])
  (.sq (.rd [⟨0, 0, [0], ⟨(some 28), none, .mv (.t 0)⟩⟩,
    ⟨1, 1, [28], ⟨(some 29), none, .nc (.t 28)⟩⟩,
    ⟨2, 3, [29], ⟨(some 30), none, .fa (.t 29) 0⟩⟩,
    ⟨3, 7, [30], ⟨(some 31), none, .ld (.t 30) 1 false⟩⟩,
    ⟨4, 0, [0], ⟨(some 32), none, .mv (.t 0)⟩⟩,
    ⟨5, 16, [32], ⟨(some 33), none, .nc (.t 32)⟩⟩,
    ⟨6, 48, [33], ⟨(some 34), none, .fa (.t 33) 3⟩⟩,
    ⟨7, 112, [34], ⟨(some 35), none, .ld (.t 34) 1 false⟩⟩,
    ⟨8, 255, [31, 35], ⟨(some 36), none, .ca 89 [(.t 31), (.t 35)]⟩⟩])
  (.sq (.rg [⟨(some 37), none, .mv (.t 0)⟩,
    ⟨(some 38), none, .ca 141 [(.t 37)]⟩])
  (.sq (.sq (.rg [⟨(some 39), none, .mv (.t 0)⟩,
    ⟨(some 40), none, .nc (.t 39)⟩,
    ⟨(some 41), none, .fa (.t 40) 5⟩,
    ⟨(some 42), none, .ld (.t 41) 1 false⟩,
    ⟨(some 43), none, .nt (.t 42)⟩])
  (.cd (.t 43)
  (.rg [⟨(some 44), none, .mv (.t 0)⟩,
    ⟨(some 45), none, .ca 142 [(.t 44)]⟩])
  .sk))
  (.sq (.rg [⟨(some 2), none, .mv (.c (.bool true))⟩])
  .rt)))))
  .sk))
  (.sq (.rg [⟨(some 46), none, .mv (.t 0)⟩,
    ⟨(some 47), none, .nc (.t 46)⟩,
    ⟨(some 48), none, .fa (.t 47) 4⟩,
    ⟨(some 49), none, .ld (.t 48) 1 false⟩,
    ⟨(some 50), none, .ca 143 [(.t 49)]⟩])
  (.sq (.sq (.rg [⟨(some 51), none, .mv (.t 0)⟩,
    ⟨(some 52), none, .nc (.t 51)⟩,
    ⟨(some 53), none, .fa (.t 52) 4⟩,
    ⟨(some 54), none, .ld (.t 53) 1 false⟩,
    ⟨(some 55), none, .nc (.t 54)⟩,
    ⟨(some 56), none, .fa (.t 55) 6⟩,
    ⟨(some 57), none, .ld (.t 56) 1 false⟩,
    ⟨(some 58), none, .nt (.t 57)⟩])
  (.cd (.t 58)
  (.sq (.rg [⟨(some 2), none, .mv (.c (.bool true))⟩])
  .rt)
  .sk))
  (.sq (.rg [⟨(some 59), none, .mv (.t 0)⟩,
    ⟨(some 60), none, .nc (.t 59)⟩,
    ⟨(some 61), none, .fa (.t 60) 4⟩,
    ⟨(some 62), none, .ld (.t 61) 1 false⟩,
    ⟨(some 63), none, .ca 144 [(.t 62)]⟩,
    ⟨(some 3), none, .mv (.t 63)⟩])
  (.sq (.sq (.rg [⟨(some 64), none, .mv (.t 3)⟩,
    ⟨(some 65), none, .len (.t 64)⟩,
    ⟨(some 66), none, .ib .gtr (.t 65) (.c (.int .i64 0))⟩])
  (.cd (.t 66)
  (.sq (.rg [⟨(some 67), none, .mv (.t 0)⟩,
    ⟨(some 68), none, .mv (.t 3)⟩,
    ⟨(some 69), none, .ia (.t 68) (.c (.int .i64 0)) 1⟩,
    ⟨(some 70), none, .ld (.t 69) 1 false⟩,
    ⟨(some 71), none, .nc (.t 67)⟩,
    ⟨(some 72), none, .fa (.t 71) 2⟩,
    ⟨none, none, .st (.t 72) (.t 70) 1⟩])
  (.rd [⟨0, 0, [0], ⟨(some 73), none, .mv (.t 0)⟩⟩,
    ⟨1, 1, [73], ⟨(some 74), none, .nc (.t 73)⟩⟩,
    ⟨2, 3, [74], ⟨(some 75), none, .fa (.t 74) 0⟩⟩,
    ⟨3, 7, [75], ⟨(some 76), none, .ld (.t 75) 1 false⟩⟩,
    ⟨4, 15, [76], ⟨(some 77), none, .nc (.t 76)⟩⟩,
    ⟨5, 31, [77], ⟨(some 78), none, .fa (.t 77) 1⟩⟩,
    ⟨6, 63, [78], ⟨(some 79), none, .ld (.t 78) 1 false⟩⟩,
    ⟨7, 0, [3], ⟨(some 80), none, .mv (.t 3)⟩⟩,
    ⟨8, 128, [80], ⟨(some 81), none, .sl 1 (.t 80) (some (.c (.int .i64 1))) none none⟩⟩,
    ⟨9, 511, [79, 81], ⟨(some 82), none, .ca 45 [(.t 79), (.t 81)]⟩⟩]))
  .sk))
  (.sq (.rg [⟨(some 83), none, .mv (.t 0)⟩,
    ⟨(some 84), none, .nc (.t 83)⟩,
    ⟨(some 85), none, .fa (.t 84) 5⟩,
    ⟨none, none, .st (.t 85) (.c (.bool true)) 1⟩])
  (.sq (.rg [⟨(some 2), none, .mv (.c (.bool true))⟩])
  .rt)))))))))⟩
theorem k81 : cF Tryz.prog Tryz.f81 = some c81 := by kernel_rfl
/-- (*rundale/rundaleref11.Supply).Take -/
def c85 : Fu := ⟨25, [.t 2],
  (.sq (.rg [⟨(some 2), none, .mv (.c (.pointer none))⟩])
  (.sq (.rg [⟨(some 4), none, .mv (.t 0)⟩,
    ⟨(some 5), none, .bd [(.pointer none), (.int .i64 0), (.int .i64 0), (.int .i64 0), (.pointer none), (.bool false)] [(0, 1, (.t 4)), (2, 1, (.c (.int .i64 (-1)))), (3, 1, (.c (.int .i64 (-1))))]⟩,
    ⟨(some 6), none, .bx 159 (.t 5)⟩,
    ⟨(some 3), none, .mv (.t 6)⟩])
  (.sq (.rg [⟨(some 7), none, .mv (.t 3)⟩,
    ⟨(some 8), none, .ca 141 [(.t 7)]⟩])
  (.sq (.sq (.rg [⟨(some 9), none, .mv (.t 3)⟩,
    ⟨(some 10), none, .nc (.t 9)⟩,
    ⟨(some 11), none, .fa (.t 10) 5⟩,
    ⟨(some 12), none, .ld (.t 11) 1 false⟩,
    ⟨(some 13), none, .nt (.t 12)⟩,
    ⟨(some 14), none, .mv (.t 13)⟩,
    ⟨(some 15), (some (14, true)), .mv (.t 0)⟩,
    ⟨(some 16), (some (14, true)), .nc (.t 15)⟩,
    ⟨(some 17), (some (14, true)), .fa (.t 16) 2⟩,
    ⟨(some 18), (some (14, true)), .ld (.t 17) 1 false⟩,
    ⟨(some 19), (some (14, true)), .ca 147 [(.t 18)]⟩,
    ⟨(some 20), (some (14, true)), .ib .eql (.t 19) (.c (.int .i64 0))⟩,
    ⟨(some 21), none, .pk (.t 14) (.t 20) (.c (.bool false))⟩])
  (.cd (.t 21)
  (.rg [⟨(some 22), none, .mv (.t 3)⟩,
    ⟨(some 23), none, .ca 142 [(.t 22)]⟩])
  .sk))
  (.sq (.rg [⟨(some 24), none, .mv (.t 3)⟩,
    ⟨(some 2), none, .mv (.t 24)⟩])
  .rt)))))⟩
theorem k85 : cF Tryz.prog Tryz.f85 = some c85 := by kernel_rfl
/-- (*rundale/supply.Supply).Ready -/
def c88 : Fu := ⟨20, [.t 4],
  (.sq (.rg [⟨(some 4), none, .mv (.c (.int .i64 0))⟩])
  (.sq (.rg [⟨(some 6), none, .mv (.t 0)⟩,
    ⟨(some 7), none, .nc (.t 6)⟩,
    ⟨(some 8), none, .fa (.t 7) 9⟩,
    ⟨(some 9), none, .ld (.t 8) 1 false⟩,
    ⟨(some 10), none, .mv (.t 1)⟩,
    ⟨(some 11), none, .ca 151 [(.t 9), (.t 10)]⟩,
    ⟨(some 5), none, .mv (.t 11)⟩])
  (.sq (.rg [⟨(some 12), none, .mv (.t 0)⟩,
    ⟨(some 13), none, .nc (.t 12)⟩,
    ⟨(some 14), none, .fa (.t 13) 8⟩,
    ⟨(some 15), none, .ld (.t 14) 1 false⟩,
    ⟨(some 16), none, .mv (.t 5)⟩,
    ⟨(some 17), none, .ca 73 [(.t 15), (.t 16)]⟩])
  (.sq (.rg [⟨(some 18), none, .mv (.t 5)⟩,
    ⟨(some 19), none, .len (.t 18)⟩,
    ⟨(some 4), none, .mv (.t 19)⟩])
  .rt))))⟩
theorem k88 : cF Tryz.prog Tryz.f88 = some c88 := by kernel_rfl
/-- (*rundale/rundaleref11.Supply).Ready -/
def c89 : Fu := ⟨20, [.t 4],
  (.sq (.rg [⟨(some 4), none, .mv (.c (.int .i64 0))⟩])
  (.sq (.rg [⟨(some 6), none, .mv (.t 0)⟩,
    ⟨(some 7), none, .nc (.t 6)⟩,
    ⟨(some 8), none, .fa (.t 7) 2⟩,
    ⟨(some 9), none, .ld (.t 8) 1 false⟩,
    ⟨(some 10), none, .mv (.t 1)⟩,
    ⟨(some 11), none, .ca 152 [(.t 9), (.t 10)]⟩,
    ⟨(some 5), none, .mv (.t 11)⟩])
  (.sq (.rg [⟨(some 12), none, .mv (.t 0)⟩,
    ⟨(some 13), none, .nc (.t 12)⟩,
    ⟨(some 14), none, .fa (.t 13) 1⟩,
    ⟨(some 15), none, .ld (.t 14) 1 false⟩,
    ⟨(some 16), none, .mv (.t 5)⟩,
    ⟨(some 17), none, .ca 45 [(.t 15), (.t 16)]⟩])
  (.sq (.rg [⟨(some 18), none, .mv (.t 5)⟩,
    ⟨(some 19), none, .len (.t 18)⟩,
    ⟨(some 4), none, .mv (.t 19)⟩])
  .rt))))⟩
theorem k89 : cF Tryz.prog Tryz.f89 = some c89 := by kernel_rfl
/-- (*rundale/rundaleref5.Stack).Top -/
def c90 : Fu := ⟨16, [.t 4],
  (.sq (.rg [⟨(some 4), none, .mv (.c (.int .i64 0))⟩])
  (.sq (.rg [⟨(some 6), none, .mv (.t 1)⟩,
    ⟨(some 7), none, .ca 153 [(.t 6)]⟩,
    ⟨(some 8), none, .fv (.t 7) 0 1 false⟩,
    ⟨(some 5), none, .mv (.t 8)⟩])
  (.sq (.sq (.rg [⟨(some 9), none, .mv (.t 5)⟩,
    ⟨(some 10), none, .mv (.t 0)⟩,
    ⟨(some 11), none, .nc (.t 10)⟩,
    ⟨(some 12), none, .fa (.t 11) 3⟩,
    ⟨(some 13), none, .ld (.t 12) 1 false⟩,
    ⟨(some 14), none, .ib .geq (.t 9) (.t 13)⟩])
  (.cd (.t 14)
  (.sq (.rg [⟨(some 4), none, .mv (.c (.int .i64 (-1)))⟩])
  .rt)
  .sk))
  (.sq (.rg [⟨(some 15), none, .mv (.t 5)⟩,
    ⟨(some 4), none, .mv (.t 15)⟩])
  .rt))))⟩
theorem k90 : cF Tryz.prog Tryz.f90 = some c90 := by kernel_rfl
/-- (*rundale/rundaleref5.Stack).Below -/
def c91 : Fu := ⟨15, [.t 4],
  (.sq (.rg [⟨(some 4), none, .mv (.c (.int .i64 0))⟩])
  (.sq (.sq (.rg [⟨(some 5), none, .mv (.t 1)⟩,
    ⟨(some 6), none, .mv (.t 0)⟩,
    ⟨(some 7), none, .nc (.t 6)⟩,
    ⟨(some 8), none, .fa (.t 7) 3⟩,
    ⟨(some 9), none, .ld (.t 8) 1 false⟩,
    ⟨(some 10), none, .cv .u64 (.t 9)⟩,
    ⟨(some 11), none, .ib .gtr (.t 5) (.t 10)⟩])
  (.cd (.t 11)
  (.sq (.rg [⟨(some 4), none, .mv (.c (.int .i64 (-1)))⟩])
  .rt)
  .sk))
  (.sq (.rg [⟨(some 12), none, .mv (.t 1)⟩,
    ⟨(some 13), none, .cv .i64 (.t 12)⟩,
    ⟨(some 14), none, .ib .sub (.t 13) (.c (.int .i64 1))⟩,
    ⟨(some 4), none, .mv (.t 14)⟩])
  .rt)))⟩
theorem k91 : cF Tryz.prog Tryz.f91 = some c91 := by kernel_rfl
/-- rundale/epoch.Cut -/
def c92 : Fu := ⟨6, [.t 2],
  (.sq (.rg [⟨(some 2), none, .mv (.c (.int .i64 0))⟩])
  (.sq (.rg [⟨(some 3), none, .mv (.t 0)⟩,
    ⟨(some 4), none, .mm false (.t 3) (.c (.int .u64 4611686018427387903))⟩,
    ⟨(some 5), none, .cv .i64 (.t 4)⟩,
    ⟨(some 2), none, .mv (.t 5)⟩])
  .rt))⟩
theorem k92 : cF Tryz.prog Tryz.f92 = some c92 := by kernel_rfl
/-- (*rundale/run.Machine).Step -/
def c93 : Fu := ⟨25, [.t 2],
  (.sq (.rg [⟨(some 2), none, .mv (.c (.bool false))⟩])
  (.sq (.sq (.rg [⟨(some 4), none, .mv (.t 0)⟩,
    ⟨(some 5), none, .nc (.t 4)⟩,
    ⟨(some 6), none, .fa (.t 5) 0⟩,
    ⟨(some 7), none, .ld (.t 6) 1 false⟩,
    ⟨(some 8), none, .en 2 false (.t 7) (.c .nilFunc)⟩])
  (.cd (.t 8)
  (.sq (.rg [⟨(some 2), none, .mv (.c (.bool false))⟩])
  .rt)
  .sk))
  (.sq (.rg [⟨(some 9), none, .mv (.t 0)⟩,
    ⟨(some 10), none, .nc (.t 9)⟩,
    ⟨(some 11), none, .fa (.t 10) 0⟩,
    ⟨(some 12), none, .ld (.t 11) 1 false⟩,
    ⟨(some 3), none, .mv (.t 12)⟩])
  (.sq (.rg [⟨(some 13), none, .mv (.t 0)⟩,
    ⟨(some 14), none, .nc (.t 13)⟩,
    ⟨(some 15), none, .fa (.t 14) 0⟩,
    ⟨none, none, .st (.t 15) (.c .nilFunc) 1⟩])
  (.sq (.rg [⟨(some 16), none, .mv (.t 0)⟩,
    ⟨(some 17), none, .nc (.t 16)⟩,
    ⟨(some 18), none, .fa (.t 17) 4⟩,
    ⟨(some 19), none, .ld (.t 18) 1 false⟩,
    ⟨(some 20), none, .ib .add (.t 19) (.c (.int .i64 1))⟩,
    ⟨(some 21), none, .nc (.t 16)⟩,
    ⟨(some 22), none, .fa (.t 21) 4⟩,
    ⟨none, none, .st (.t 22) (.t 20) 1⟩])
  (.sq (.rg [⟨(some 23), none, .mv (.t 3)⟩,
    ⟨(some 24), none, .cl (.t 23) []⟩])
  (.sq (.rg [⟨(some 2), none, .mv (.c (.bool true))⟩])
  .rt)))))))⟩
theorem k93 : cF Tryz.prog Tryz.f93 = some c93 := by kernel_rfl
/-- rundale/rundaleref5.Cut -/
def c95 : Fu := ⟨7, [.t 2],
  (.sq (.rg [⟨(some 2), none, .mv (.c (.int .i64 0))⟩])
  (.sq (.sq (.rg [⟨(some 3), none, .mv (.t 0)⟩,
    ⟨(some 4), none, .ib .gtr (.t 3) (.c (.int .u64 4611686018427387903))⟩])
  (.cd (.t 4)
  (.sq (.rg [⟨(some 2), none, .mv (.c (.int .i64 4611686018427387903))⟩])
  .rt)
  .sk))
  (.sq (.rg [⟨(some 5), none, .mv (.t 0)⟩,
    ⟨(some 6), none, .cv .i64 (.t 5)⟩,
    ⟨(some 2), none, .mv (.t 6)⟩])
  .rt)))⟩
theorem k95 : cF Tryz.prog Tryz.f95 = some c95 := by kernel_rfl
/-- (*rundale/rundaleref5.M).Load -/
def c96 : Fu := ⟨19, [.t 4],
  (.sq (.rg [⟨(some 4), none, .mv (.c (.int .u64 0))⟩])
  (.sq (.rg [⟨(some 5), none, .mv (.t 0)⟩,
    ⟨(some 6), none, .nc (.t 5)⟩,
    ⟨(some 7), none, .fa (.t 6) 1⟩,
    ⟨(some 8), none, .ld (.t 7) 1 false⟩,
    ⟨(some 9), none, .ib .add (.t 8) (.c (.int .i64 1))⟩,
    ⟨(some 10), none, .nc (.t 5)⟩,
    ⟨(some 11), none, .fa (.t 10) 1⟩,
    ⟨none, none, .st (.t 11) (.t 9) 1⟩])
  (.sq (.rg [⟨(some 12), none, .mv (.t 0)⟩,
    ⟨(some 13), none, .nc (.t 12)⟩,
    ⟨(some 14), none, .fa (.t 13) 0⟩,
    ⟨(some 15), none, .ld (.t 14) 1 false⟩,
    ⟨(some 16), none, .mv (.t 1)⟩,
    ⟨(some 17), none, .ia (.t 15) (.t 16) 1⟩,
    ⟨(some 18), none, .ld (.t 17) 1 false⟩,
    ⟨(some 4), none, .mv (.t 18)⟩])
  .rt)))⟩
theorem k96 : cF Tryz.prog Tryz.f96 = some c96 := by kernel_rfl
/-- (*rundale/run.Machine).Done -/
def c97 : Fu := ⟨8, [.t 2],
  (.sq (.rg [⟨(some 2), none, .mv (.c (.bool false))⟩])
  (.sq (.rg [⟨(some 3), none, .mv (.t 0)⟩,
    ⟨(some 4), none, .nc (.t 3)⟩,
    ⟨(some 5), none, .fa (.t 4) 0⟩,
    ⟨(some 6), none, .ld (.t 5) 1 false⟩,
    ⟨(some 7), none, .en 2 false (.t 6) (.c .nilFunc)⟩,
    ⟨(some 2), none, .mv (.t 7)⟩])
  .rt))⟩
theorem k97 : cF Tryz.prog Tryz.f97 = some c97 := by kernel_rfl
/-- (*rundale/epoch.Advance).Won -/
def c98 : Fu := ⟨7, [.t 2],
  (.sq (.rg [⟨(some 2), none, .mv (.c (.bool false))⟩])
  (.sq (.rg [⟨(some 3), none, .mv (.t 0)⟩,
    ⟨(some 4), none, .nc (.t 3)⟩,
    ⟨(some 5), none, .fa (.t 4) 8⟩,
    ⟨(some 6), none, .ld (.t 5) 1 false⟩,
    ⟨(some 2), none, .mv (.t 6)⟩])
  .rt))⟩
theorem k98 : cF Tryz.prog Tryz.f98 = some c98 := by kernel_rfl
/-- (*rundale/supply.Give).Hand -/
def c99 : Fu := ⟨10, [.t 2],
  (.sq (.rg [⟨(some 2), none, .mv (.c (.slice none 0 0))⟩])
  (.sq (.sq (.rg [⟨(some 3), none, .mv (.t 0)⟩,
    ⟨(some 4), none, .ca 146 [(.t 3)]⟩])
  (.cd (.t 4)
  (.sq (.rg [⟨(some 2), none, .mv (.c (.slice none 0 0))⟩])
  .rt)
  .sk))
  (.sq (.rg [⟨(some 5), none, .mv (.t 0)⟩,
    ⟨(some 6), none, .nc (.t 5)⟩,
    ⟨(some 7), none, .fa (.t 6) 5⟩,
    ⟨(some 8), none, .ld (.t 7) 1 false⟩,
    ⟨(some 9), none, .ca 134 [(.t 8)]⟩,
    ⟨(some 2), none, .mv (.t 9)⟩])
  .rt)))⟩
theorem k99 : cF Tryz.prog Tryz.f99 = some c99 := by kernel_rfl
/-- (*rundale/epoch.Epoch).Advance -/
def c101 : Fu := ⟨14, [.t 2],
  (.sq (.rg [⟨(some 2), none, .mv (.c (.pointer none))⟩])
  (.sq (.rg [⟨(some 4), none, .mv (.t 0)⟩,
    ⟨(some 5), none, .bd [.nilFunc, .nilFunc, .nilFunc, .nilFunc, (.int .i64 0), (.pointer none), (.int .u64 0), (.int .i64 0), (.bool false)] [(5, 1, (.t 4))]⟩,
    ⟨(some 6), none, .bx 225 (.t 5)⟩,
    ⟨(some 3), none, .mv (.t 6)⟩])
  (.sq (.rg [⟨(some 7), none, .mv (.t 3)⟩,
    ⟨(some 8), none, .nc (.t 7)⟩,
    ⟨(some 9), none, .fa (.t 8) 0⟩,
    ⟨(some 10), none, .mv (.t 3)⟩,
    ⟨(some 11), none, .mf (.func 156) [(.t 10)] []⟩,
    ⟨(some 12), none, .ca 114 [(.t 9), (.t 11)]⟩])
  (.sq (.rg [⟨(some 13), none, .mv (.t 3)⟩,
    ⟨(some 2), none, .mv (.t 13)⟩])
  .rt))))⟩
theorem k101 : cF Tryz.prog Tryz.f101 = some c101 := by kernel_rfl
/-- (*rundale/run.Machine).Through -/
def c102 : Fu := ⟨22, [],
  (.sq (.rg [⟨(some 8), none, .mv (.t 0)⟩,
    ⟨(some 9), none, .mv (.t 0)⟩,
    ⟨(some 10), none, .mv (.t 0)⟩,
    ⟨(some 11), none, .mv (.t 1)⟩,
    ⟨(some 12), none, .mv (.t 2)⟩,
    ⟨(some 13), none, .mv (.t 3)⟩,
    ⟨(some 14), none, .nc (.t 8)⟩,
    ⟨(some 15), none, .fa (.t 14) 1⟩,
    ⟨none, none, .st (.t 15) (.t 11) 1⟩,
    ⟨(some 16), none, .nc (.t 9)⟩,
    ⟨(some 17), none, .fa (.t 16) 2⟩,
    ⟨none, none, .st (.t 17) (.t 12) 1⟩,
    ⟨(some 18), none, .nc (.t 10)⟩,
    ⟨(some 19), none, .fa (.t 18) 3⟩,
    ⟨none, none, .st (.t 19) (.t 13) 1⟩])
  (.rg [⟨(some 20), none, .mv (.t 0)⟩,
    ⟨(some 21), none, .ca 157 [(.t 20)]⟩]))⟩
theorem k102 : cF Tryz.prog Tryz.f102 = some c102 := by kernel_rfl
/-- (*rundale/epoch.Advance).Step -/
def c103 : Fu := ⟨7, [.t 2],
  (.sq (.rg [⟨(some 2), none, .mv (.c (.bool false))⟩])
  (.sq (.rg [⟨(some 3), none, .mv (.t 0)⟩,
    ⟨(some 4), none, .nc (.t 3)⟩,
    ⟨(some 5), none, .fa (.t 4) 0⟩,
    ⟨(some 6), none, .ca 93 [(.t 5)]⟩,
    ⟨(some 2), none, .mv (.t 6)⟩])
  .rt))⟩
theorem k103 : cF Tryz.prog Tryz.f103 = some c103 := by kernel_rfl
/-- (*rundale/epoch.Advance).Done -/
def c104 : Fu := ⟨7, [.t 2],
  (.sq (.rg [⟨(some 2), none, .mv (.c (.bool false))⟩])
  (.sq (.rg [⟨(some 3), none, .mv (.t 0)⟩,
    ⟨(some 4), none, .nc (.t 3)⟩,
    ⟨(some 5), none, .fa (.t 4) 0⟩,
    ⟨(some 6), none, .ca 97 [(.t 5)]⟩,
    ⟨(some 2), none, .mv (.t 6)⟩])
  .rt))⟩
theorem k104 : cF Tryz.prog Tryz.f104 = some c104 := by kernel_rfl
/-- (*rundale/gather.Collect).advanced -/
def c105 : Fu := ⟨8, [],
  (.rg [⟨(some 2), none, .mv (.t 0)⟩,
    ⟨(some 3), none, .nc (.t 2)⟩,
    ⟨(some 4), none, .fa (.t 3) 0⟩,
    ⟨(some 5), none, .mv (.t 0)⟩,
    ⟨(some 6), none, .mf (.func 158) [(.t 5)] []⟩,
    ⟨(some 7), none, .ca 114 [(.t 4), (.t 6)]⟩])⟩
theorem k105 : cF Tryz.prog Tryz.f105 = some c105 := by kernel_rfl
/-- rundale/rundaleref1.in -/
def c108 : Fu := ⟨15, [.t 6],
  (.sq (.rg [⟨(some 6), none, .mv (.c (.bool false))⟩])
  (.sq (.rg [⟨(some 7), none, .mv (.t 0)⟩,
    ⟨(some 8), none, .mv (.t 1)⟩,
    ⟨(some 9), none, .ib .geq (.t 7) (.t 8)⟩,
    ⟨(some 10), none, .mv (.t 9)⟩,
    ⟨(some 11), (some (10, true)), .mv (.t 0)⟩,
    ⟨(some 12), (some (10, true)), .mv (.t 2)⟩,
    ⟨(some 13), (some (10, true)), .ib .leq (.t 11) (.t 12)⟩,
    ⟨(some 14), none, .pk (.t 10) (.t 13) (.c (.bool false))⟩,
    ⟨(some 6), none, .mv (.t 14)⟩])
  .rt))⟩
theorem k108 : cF Tryz.prog Tryz.f108 = some c108 := by kernel_rfl
/-- rundale/rundaleref1.at -/
def c109 : Fu := ⟨24, [.t 8],
  (.sq (.rg [⟨(some 4), none, .bx 24 (.t 0)⟩,
    ⟨(some 8), none, .mv (.c (.int .i64 0))⟩])
  (.sq (.sq (.rg [⟨(some 9), none, .ld (.t 4) 6 true⟩,
    ⟨(some 10), none, .ca 159 [(.t 9)]⟩,
    ⟨(some 11), none, .nt (.t 10)⟩,
    ⟨(some 12), none, .mv (.t 11)⟩,
    ⟨(some 13), (some (12, false)), .mv (.t 3)⟩,
    ⟨(some 14), (some (12, false)), .ib .lss (.t 13) (.c (.int .i64 0))⟩,
    ⟨(some 15), none, .pk (.t 12) (.c (.bool true)) (.t 14)⟩,
    ⟨(some 16), none, .mv (.t 15)⟩,
    ⟨(some 17), (some (16, false)), .mv (.t 3)⟩,
    ⟨(some 18), (some (16, false)), .mv (.t 2)⟩,
    ⟨(some 19), (some (16, false)), .ib .geq (.t 17) (.t 18)⟩,
    ⟨(some 20), none, .pk (.t 16) (.c (.bool true)) (.t 19)⟩])
  (.cd (.t 20)
  (.sq (.rg [⟨(some 8), none, .mv (.c (.int .i64 (-1)))⟩])
  .rt)
  .sk))
  (.sq (.rg [⟨(some 21), none, .mv (.t 1)⟩,
    ⟨(some 22), none, .mv (.t 3)⟩,
    ⟨(some 23), none, .ib .add (.t 21) (.t 22)⟩,
    ⟨(some 8), none, .mv (.t 23)⟩])
  .rt)))⟩
theorem k109 : cF Tryz.prog Tryz.f109 = some c109 := by kernel_rfl
/-- (*rundale/cells.Cells).is -/
def c110 : Fu := ⟨16, [.t 4],
  (.sq (.rg [⟨(some 4), none, .mv (.c (.bool false))⟩])
  (.sq (.rg [⟨(some 5), none, .mv (.t 1)⟩,
    ⟨(some 6), none, .ib .geq (.t 5) (.c (.int .i64 0))⟩,
    ⟨(some 7), none, .mv (.t 6)⟩,
    ⟨(some 8), (some (7, true)), .mv (.t 1)⟩,
    ⟨(some 9), (some (7, true)), .mv (.t 0)⟩,
    ⟨(some 10), (some (7, true)), .nc (.t 9)⟩,
    ⟨(some 11), (some (7, true)), .fa (.t 10) 0⟩,
    ⟨(some 12), (some (7, true)), .ld (.t 11) 1 false⟩,
    ⟨(some 13), (some (7, true)), .len (.t 12)⟩,
    ⟨(some 14), (some (7, true)), .ib .lss (.t 8) (.t 13)⟩,
    ⟨(some 15), none, .pk (.t 7) (.t 14) (.c (.bool false))⟩,
    ⟨(some 4), none, .mv (.t 15)⟩])
  .rt))⟩
theorem k110 : cF Tryz.prog Tryz.f110 = some c110 := by kernel_rfl
/-- rundale/lay.cell -/
def c111 : Fu := ⟨33, [.t 6],
  (.sq (.rg [⟨(some 3), none, .bx 24 (.t 0)⟩,
    ⟨(some 6), none, .mv (.c (.int .i64 0))⟩])
  (.sq (.sq (.rg [⟨(some 9), none, .ld (.t 3) 6 true⟩,
    ⟨(some 10), none, .ca 56 [(.t 9)]⟩,
    ⟨(some 11), none, .nt (.t 10)⟩])
  (.cd (.t 11)
  (.sq (.rg [⟨(some 6), none, .mv (.c (.int .i64 (-1)))⟩])
  .rt)
  .sk))
  (.sq (.sq (.rg [⟨(some 12), none, .ld (.t 3) 6 true⟩,
    ⟨(some 13), none, .ca 57 [(.t 12)]⟩,
    ⟨(some 14), none, .mv (.c (.int .i64 0))⟩])
  (.bl 0
  (.lp
  (.sq (.rg [⟨(some 15), none, .ib .lss (.t 14) (.c (.int .i64 5))⟩])
  (.sq (.cd (.t 15)
  .sk
  (.ex 0))
  (.sq (.bl 1
  (.sq (.rg [⟨(some 16), none, .iv (.t 13) (.t 14) 5 3 true⟩,
    ⟨(some 8), none, .al 125 [(.int .i64 0), (.int .i64 0), (.int .i64 0)]⟩,
    ⟨none, none, .st (.t 8) (.t 16) 3⟩])
  (.sq (.rg [⟨(some 17), none, .fa (.t 8) 0⟩,
    ⟨(some 18), none, .ld (.t 17) 1 false⟩,
    ⟨(some 19), none, .mv (.t 1)⟩,
    ⟨(some 20), none, .ib .eql (.t 18) (.t 19)⟩,
    ⟨(some 21), none, .mv (.t 20)⟩,
    ⟨(some 22), (some (21, true)), .mv (.t 2)⟩,
    ⟨(some 23), (some (21, true)), .fa (.t 8) 2⟩,
    ⟨(some 24), (some (21, true)), .ld (.t 23) 1 false⟩,
    ⟨(some 25), (some (21, true)), .ib .sub (.t 24) (.c (.int .i64 1))⟩,
    ⟨(some 26), (some (21, true)), .ca 117 [(.t 22), (.c (.int .i64 0)), (.t 25)]⟩,
    ⟨(some 27), none, .pk (.t 21) (.t 26) (.c (.bool false))⟩])
  (.cd (.t 27)
  (.sq (.rg [⟨(some 28), none, .fa (.t 8) 1⟩,
    ⟨(some 29), none, .ld (.t 28) 1 false⟩,
    ⟨(some 30), none, .mv (.t 2)⟩,
    ⟨(some 31), none, .ib .add (.t 29) (.t 30)⟩,
    ⟨(some 6), none, .mv (.t 31)⟩])
  .rt)
  .sk))))
  (.rg [⟨(some 32), none, .ib .add (.t 14) (.c (.int .i64 1))⟩,
    ⟨(some 14), none, .mv (.t 32)⟩])))))))
  (.sq (.rg [⟨(some 6), none, .mv (.c (.int .i64 (-1)))⟩])
  .rt))))⟩
theorem k111 : cF Tryz.prog Tryz.f111 = some c111 := by kernel_rfl
/-- (*rundale/run.Machine).Go -/
def c114 : Fu := ⟨8, [],
  (.rg [⟨(some 4), none, .mv (.t 0)⟩,
    ⟨(some 5), none, .mv (.t 1)⟩,
    ⟨(some 6), none, .nc (.t 4)⟩,
    ⟨(some 7), none, .fa (.t 6) 0⟩,
    ⟨none, none, .st (.t 7) (.t 5) 1⟩])⟩
theorem k114 : cF Tryz.prog Tryz.f114 = some c114 := by kernel_rfl
/-- rundale/lay.within -/
def c117 : Fu := ⟨15, [.t 6],
  (.sq (.rg [⟨(some 6), none, .mv (.c (.bool false))⟩])
  (.sq (.rg [⟨(some 7), none, .mv (.t 0)⟩,
    ⟨(some 8), none, .mv (.t 1)⟩,
    ⟨(some 9), none, .ib .geq (.t 7) (.t 8)⟩,
    ⟨(some 10), none, .mv (.t 9)⟩,
    ⟨(some 11), (some (10, true)), .mv (.t 0)⟩,
    ⟨(some 12), (some (10, true)), .mv (.t 2)⟩,
    ⟨(some 13), (some (10, true)), .ib .leq (.t 11) (.t 12)⟩,
    ⟨(some 14), none, .pk (.t 10) (.t 13) (.c (.bool false))⟩,
    ⟨(some 6), none, .mv (.t 14)⟩])
  .rt))⟩
theorem k117 : cF Tryz.prog Tryz.f117 = some c117 := by kernel_rfl
/-- rundale/epoch.New$1 -/
def c118 : Fu := ⟨12, [.t 3],
  (.sq (.rg [⟨(some 3), none, .mv (.c (.bool false))⟩])
  (.sq (.rg [⟨(some 4), none, .mv (.t 0)⟩,
    ⟨(some 5), none, .ib .geq (.t 4) (.c (.int .i64 0))⟩,
    ⟨(some 6), none, .mv (.t 5)⟩,
    ⟨(some 7), (some (6, true)), .mv (.t 0)⟩,
    ⟨(some 8), (some (6, true)), .ld (.t 1) 1 false⟩,
    ⟨(some 9), (some (6, true)), .ca 58 [(.t 8)]⟩,
    ⟨(some 10), (some (6, true)), .ib .lss (.t 7) (.t 9)⟩,
    ⟨(some 11), none, .pk (.t 6) (.t 10) (.c (.bool false))⟩,
    ⟨(some 3), none, .mv (.t 11)⟩])
  .rt))⟩
theorem k118 : cF Tryz.prog Tryz.f118 = some c118 := by kernel_rfl
/-- rundale/stash.New -/
def c119 : Fu := ⟨8, [.t 2],
  (.sq (.rg [⟨(some 2), none, .mv (.c (.pointer none))⟩])
  (.sq (.rg [⟨(some 3), none, .mv (.t 0)⟩,
    ⟨(some 4), none, .mm true (.t 3) (.c (.int .i64 0))⟩,
    ⟨(some 5), none, .mm false (.t 4) (.c (.int .i64 64))⟩,
    ⟨(some 6), none, .bd [(.int .i64 0), (.slice none 0 0)] [(0, 1, (.t 5))]⟩,
    ⟨(some 7), none, .bx 204 (.t 6)⟩,
    ⟨(some 2), none, .mv (.t 7)⟩])
  .rt))⟩
theorem k119 : cF Tryz.prog Tryz.f119 = some c119 := by kernel_rfl
/-- rundale/limbo.New -/
def c120 : Fu := ⟨3, [.t 0],
  (.sq (.rg [⟨(some 0), none, .mv (.c (.pointer none))⟩])
  (.sq (.rg [⟨(some 1), none, .bd [(.int .i64 0), (.slice none 0 0), (.int .i64 0), (.slice none 0 0), (.int .i64 0), (.slice none 0 0), (.int .i64 0)] []⟩,
    ⟨(some 2), none, .bx 230 (.t 1)⟩,
    ⟨(some 0), none, .mv (.t 2)⟩])
  .rt))⟩
theorem k120 : cF Tryz.prog Tryz.f120 = some c120 := by kernel_rfl
/-- (*rundale/supply.Take).kept -/
def c121 : Fu := ⟨24, [.t 2],
  (.sq (.rg [⟨(some 2), none, .mv (.c (.bool false))⟩])
  (.sq (.rg [⟨(some 4), none, .mv (.t 0)⟩,
    ⟨(some 5), none, .mv (.t 0)⟩,
    ⟨(some 6), none, .mv (.t 0)⟩,
    ⟨(some 7), none, .nc (.t 6)⟩,
    ⟨(some 8), none, .fa (.t 7) 5⟩,
    ⟨(some 9), none, .ld (.t 8) 1 false⟩,
    ⟨(some 10), none, .nc (.t 9)⟩,
    ⟨(some 11), none, .fa (.t 10) 8⟩,
    ⟨(some 12), none, .ld (.t 11) 1 false⟩,
    ⟨(some 13), none, .ca 162 [(.t 12)]⟩,
    ⟨(some 3), none, .mv (.t 13)⟩,
    ⟨(some 14), none, .ex (.t 3) 0⟩,
    ⟨(some 15), none, .ex (.t 3) 1⟩,
    ⟨(some 16), none, .nc (.t 4)⟩,
    ⟨(some 17), none, .fa (.t 16) 7⟩,
    ⟨none, none, .st (.t 17) (.t 14) 1⟩,
    ⟨(some 18), none, .nc (.t 5)⟩,
    ⟨(some 19), none, .fa (.t 18) 9⟩,
    ⟨none, none, .st (.t 19) (.t 15) 1⟩])
  (.sq (.rg [⟨(some 20), none, .mv (.t 0)⟩,
    ⟨(some 21), none, .nc (.t 20)⟩,
    ⟨(some 22), none, .fa (.t 21) 9⟩,
    ⟨(some 23), none, .ld (.t 22) 1 false⟩,
    ⟨(some 2), none, .mv (.t 23)⟩])
  .rt)))⟩
theorem k121 : cF Tryz.prog Tryz.f121 = some c121 := by kernel_rfl
/-- (*rundale/limbo.Limbo).Len -/
def c122 : Fu := ⟨20, [.t 2],
  (.sq (.rg [⟨(some 2), none, .mv (.c (.int .i64 0))⟩])
  (.sq (.rg [⟨(some 3), none, .mv (.c (.int .i64 0))⟩])
  (.sq (.sq (.rg [⟨(some 6), none, .mv (.t 0)⟩,
    ⟨(some 7), none, .nc (.t 6)⟩,
    ⟨(some 8), none, .fa (.t 7) 0⟩,
    ⟨(some 9), none, .ld (.t 8) 6 true⟩,
    ⟨(some 10), none, .mv (.c (.int .i64 0))⟩])
  (.bl 0
  (.lp
  (.sq (.rg [⟨(some 11), none, .ib .lss (.t 10) (.c (.int .i64 3))⟩])
  (.sq (.cd (.t 11)
  .sk
  (.ex 0))
  (.sq (.bl 1
  (.sq (.rg [⟨(some 12), none, .iv (.t 9) (.t 10) 3 2 true⟩,
    ⟨(some 5), none, .al 227 [(.int .i64 0), (.slice none 0 0)]⟩,
    ⟨none, none, .st (.t 5) (.t 12) 2⟩])
  (.rg [⟨(some 13), none, .mv (.t 3)⟩,
    ⟨(some 14), none, .fa (.t 5) 1⟩,
    ⟨(some 15), none, .ld (.t 14) 1 false⟩,
    ⟨(some 16), none, .len (.t 15)⟩,
    ⟨(some 17), none, .ib .add (.t 13) (.t 16)⟩,
    ⟨(some 3), none, .mv (.t 17)⟩])))
  (.rg [⟨(some 18), none, .ib .add (.t 10) (.c (.int .i64 1))⟩,
    ⟨(some 10), none, .mv (.t 18)⟩])))))))
  (.sq (.rg [⟨(some 19), none, .mv (.t 3)⟩,
    ⟨(some 2), none, .mv (.t 19)⟩])
  .rt))))⟩
theorem k122 : cF Tryz.prog Tryz.f122 = some c122 := by kernel_rfl
end Go.Proofs.YtnbkjcmmjgkdaaaGreat
