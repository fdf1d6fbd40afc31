/-
  The functions' small code, as a program printed it off the translation; each held against the model's own code by the kernel.
-/
import Derived.Test.YtinomeobmpaakaaSlB
import Derived.Test.YtinomeobmpaakaaProg
import Derived.KernelRfl
namespace Go.Proofs.Ytinomeobmpaakaa
open Go
set_option maxRecDepth 100000
/-- rundale/rundalelaw8.StashCuts -/
def c3 : Fu := ⟨74, [.t 4],
  (.sq (.rg [⟨(some 4), none, .mv (.c (.bool false))⟩])
  (.sq (.rg [⟨(some 11), none, .ca 13 []⟩,
    ⟨(some 5), none, .mv (.t 11)⟩])
  (.sq (.sq (.rg [⟨(some 12), none, .mv (.t 5)⟩,
    ⟨(some 13), none, .nt (.t 12)⟩])
  (.cd (.t 13)
  (.sq (.rg [⟨(some 4), none, .mv (.c (.bool false))⟩])
  .rt)
  .sk))
  (.sq (.rg [⟨(some 14), none, .mv (.t 1)⟩,
    ⟨(some 15), none, .ca 14 [(.t 14), (.c (.int .i64 150))]⟩,
    ⟨(some 16), none, .ib .add (.c (.int .i64 1)) (.t 15)⟩,
    ⟨(some 6), none, .mv (.t 16)⟩])
  (.sq (.rg [⟨(some 17), none, .mv (.t 0)⟩,
    ⟨(some 18), none, .ca 14 [(.t 17), (.c (.int .i64 1000))]⟩,
    ⟨(some 19), none, .ib .add (.c (.int .i64 1)) (.t 18)⟩,
    ⟨(some 7), none, .mv (.t 19)⟩])
  (.sq (.rg [⟨(some 20), none, .mv (.t 7)⟩,
    ⟨(some 21), none, .ng (.t 20)⟩,
    ⟨(some 22), none, .ca 15 [(.t 21)]⟩,
    ⟨(some 23), none, .mv (.t 7)⟩,
    ⟨(some 24), none, .ib .add (.c (.int .i64 64)) (.t 23)⟩,
    ⟨(some 25), none, .ca 15 [(.t 24)]⟩,
    ⟨(some 8), none, .mv (.t 22)⟩,
    ⟨(some 9), none, .mv (.t 25)⟩])
  (.sq (.sq (.rg [⟨(some 26), none, .mv (.t 8)⟩,
    ⟨(some 27), none, .en 0 false (.t 26) (.c (.pointer none))⟩,
    ⟨(some 28), none, .mv (.t 27)⟩,
    ⟨(some 29), (some (28, false)), .mv (.t 9)⟩,
    ⟨(some 30), (some (28, false)), .en 0 false (.t 29) (.c (.pointer none))⟩,
    ⟨(some 31), none, .pk (.t 28) (.c (.bool true)) (.t 30)⟩])
  (.cd (.t 31)
  (.sq (.rg [⟨(some 4), none, .mv (.c (.bool false))⟩])
  .rt)
  .sk))
  (.sq (.sq (.rg [⟨(some 10), none, .mv (.c (.int .i64 0))⟩])
  (.bl 0
  (.lp
  (.sq (.sq (.rg [⟨(some 32), none, .mv (.t 10)⟩,
    ⟨(some 33), none, .mv (.t 6)⟩,
    ⟨(some 34), none, .ib .lss (.t 32) (.t 33)⟩])
  (.cd (.t 34)
  .sk
  (.ex 0)))
  (.sq (.bl 1
  (.sq (.rg [⟨(some 37), none, .mv (.t 8)⟩,
    ⟨(some 38), none, .mv (.t 10)⟩,
    ⟨(some 39), none, .bs 3 1 [(.int .i64 0)] [(0, 1, (.t 38))]⟩,
    ⟨(some 40), none, .ca 16 [(.t 37), (.t 39)]⟩])
  (.rg [⟨(some 41), none, .mv (.t 9)⟩,
    ⟨(some 42), none, .mv (.t 10)⟩,
    ⟨(some 43), none, .bs 3 1 [(.int .i64 0)] [(0, 1, (.t 42))]⟩,
    ⟨(some 44), none, .ca 16 [(.t 41), (.t 43)]⟩])))
  (.rg [⟨(some 35), none, .mv (.t 10)⟩,
    ⟨(some 36), none, .ib .add (.t 35) (.c (.int .i64 1))⟩,
    ⟨(some 10), none, .mv (.t 36)⟩]))))))
  (.sq (.rg [⟨(some 45), none, .mv (.t 5)⟩,
    ⟨(some 46), none, .mv (.t 45)⟩,
    ⟨(some 47), (some (46, true)), .mv (.t 8)⟩,
    ⟨(some 48), (some (46, true)), .ca 17 [(.t 47)]⟩,
    ⟨(some 49), (some (46, true)), .len (.t 48)⟩,
    ⟨(some 50), (some (46, true)), .mv (.t 6)⟩,
    ⟨(some 51), (some (46, true)), .ib .eql (.t 49) (.t 50)⟩,
    ⟨(some 52), none, .pk (.t 46) (.t 51) (.c (.bool false))⟩,
    ⟨(some 53), none, .mv (.t 52)⟩,
    ⟨(some 54), (some (53, true)), .mv (.t 8)⟩,
    ⟨(some 55), (some (53, true)), .ca 18 [(.t 54)]⟩,
    ⟨(some 56), (some (53, true)), .ib .eql (.t 55) (.c (.int .i64 0))⟩,
    ⟨(some 57), none, .pk (.t 53) (.t 56) (.c (.bool false))⟩,
    ⟨(some 58), none, .mv (.t 57)⟩,
    ⟨(some 59), (some (58, true)), .mv (.t 9)⟩,
    ⟨(some 60), (some (58, true)), .ca 17 [(.t 59)]⟩,
    ⟨(some 61), (some (58, true)), .len (.t 60)⟩,
    ⟨(some 62), (some (58, true)), .mv (.t 6)⟩,
    ⟨(some 63), (some (58, true)), .ib .sub (.t 62) (.c (.int .i64 64))⟩,
    ⟨(some 64), (some (58, true)), .mm true (.t 63) (.c (.int .i64 0))⟩,
    ⟨(some 65), (some (58, true)), .ib .eql (.t 61) (.t 64)⟩,
    ⟨(some 66), none, .pk (.t 58) (.t 65) (.c (.bool false))⟩,
    ⟨(some 67), none, .mv (.t 66)⟩,
    ⟨(some 68), (some (67, true)), .mv (.t 9)⟩,
    ⟨(some 69), (some (67, true)), .ca 18 [(.t 68)]⟩,
    ⟨(some 70), (some (67, true)), .mv (.t 6)⟩,
    ⟨(some 71), (some (67, true)), .mm false (.t 70) (.c (.int .i64 64))⟩,
    ⟨(some 72), (some (67, true)), .ib .eql (.t 69) (.t 71)⟩,
    ⟨(some 73), none, .pk (.t 67) (.t 72) (.c (.bool false))⟩,
    ⟨(some 4), none, .mv (.t 73)⟩])
  .rt)))))))))⟩
theorem k3 : cF Try.prog Try.f3 = some c3 := by kernel_rfl
/-- rundale/rundalelaw8.StashBack -/
def c4 : Fu := ⟨114, [.t 6],
  (.sq (.rg [⟨(some 6), none, .mv (.c (.bool false))⟩])
  (.sq (.rg [⟨(some 20), none, .ca 13 []⟩,
    ⟨(some 7), none, .mv (.t 20)⟩])
  (.sq (.sq (.rg [⟨(some 21), none, .mv (.t 7)⟩,
    ⟨(some 22), none, .nt (.t 21)⟩])
  (.cd (.t 22)
  (.sq (.rg [⟨(some 6), none, .mv (.c (.bool false))⟩])
  .rt)
  .sk))
  (.sq (.rg [⟨(some 23), none, .mv (.t 0)⟩,
    ⟨(some 24), none, .ca 14 [(.t 23), (.c (.int .i64 65))]⟩,
    ⟨(some 8), none, .mv (.t 24)⟩])
  (.sq (.rg [⟨(some 25), none, .mv (.t 1)⟩,
    ⟨(some 26), none, .ca 14 [(.t 25), (.c (.int .i64 100))]⟩,
    ⟨(some 9), none, .mv (.t 26)⟩])
  (.sq (.rg [⟨(some 27), none, .mv (.t 8)⟩,
    ⟨(some 28), none, .ca 15 [(.t 27)]⟩,
    ⟨(some 10), none, .mv (.t 28)⟩])
  (.sq (.sq (.rg [⟨(some 29), none, .mv (.t 10)⟩,
    ⟨(some 30), none, .en 0 false (.t 29) (.c (.pointer none))⟩])
  (.cd (.t 30)
  (.sq (.rg [⟨(some 6), none, .mv (.c (.bool false))⟩])
  .rt)
  .sk))
  (.sq (.sq (.rg [⟨(some 11), none, .mv (.c (.int .i64 0))⟩])
  (.bl 0
  (.lp
  (.sq (.sq (.rg [⟨(some 31), none, .mv (.t 11)⟩,
    ⟨(some 32), none, .mv (.t 9)⟩,
    ⟨(some 33), none, .ib .lss (.t 31) (.t 32)⟩])
  (.cd (.t 33)
  .sk
  (.ex 0)))
  (.sq (.bl 1
  (.rg [⟨(some 36), none, .mv (.t 10)⟩,
    ⟨(some 37), none, .mv (.t 11)⟩,
    ⟨(some 38), none, .bs 3 1 [(.int .i64 0)] [(0, 1, (.t 37))]⟩,
    ⟨(some 39), none, .ca 16 [(.t 36), (.t 38)]⟩]))
  (.rg [⟨(some 34), none, .mv (.t 11)⟩,
    ⟨(some 35), none, .ib .add (.t 34) (.c (.int .i64 1))⟩,
    ⟨(some 11), none, .mv (.t 35)⟩]))))))
  (.sq (.rg [⟨(some 12), none, .mv (.c (.int .i64 0))⟩])
  (.sq (.sq (.rg [⟨(some 40), none, .mv (.t 2)⟩])
  (.cd (.t 40)
  (.sq (.rg [⟨(some 41), none, .mv (.t 10)⟩,
    ⟨(some 42), none, .ca 17 [(.t 41)]⟩,
    ⟨(some 13), none, .mv (.t 42)⟩])
  (.sq (.rg [⟨(some 43), none, .mv (.t 9)⟩,
    ⟨(some 44), none, .mv (.t 8)⟩,
    ⟨(some 45), none, .ib .sub (.t 43) (.t 44)⟩,
    ⟨(some 46), none, .mm true (.t 45) (.c (.int .i64 0))⟩,
    ⟨(some 12), none, .mv (.t 46)⟩])
  (.sq (.sq (.rg [⟨(some 47), none, .mv (.t 13)⟩,
    ⟨(some 48), none, .len (.t 47)⟩,
    ⟨(some 49), none, .mv (.t 12)⟩,
    ⟨(some 50), none, .ib .neq (.t 48) (.t 49)⟩])
  (.cd (.t 50)
  (.sq (.rg [⟨(some 6), none, .mv (.c (.bool false))⟩])
  .rt)
  .sk))
  (.sq (.rg [⟨(some 14), none, .mv (.c (.int .i64 0))⟩])
  (.bl 2
  (.lp
  (.sq (.sq (.rg [⟨(some 51), none, .mv (.t 14)⟩,
    ⟨(some 52), none, .mv (.t 13)⟩,
    ⟨(some 53), none, .len (.t 52)⟩,
    ⟨(some 54), none, .ib .lss (.t 51) (.t 53)⟩])
  (.cd (.t 54)
  .sk
  (.ex 2)))
  (.sq (.bl 3
  (.sq (.rg [⟨(some 57), none, .mv (.t 13)⟩,
    ⟨(some 58), none, .mv (.t 14)⟩,
    ⟨(some 59), none, .ia (.t 57) (.t 58) 1⟩,
    ⟨(some 60), none, .ld (.t 59) 1 false⟩,
    ⟨(some 61), none, .mv (.t 14)⟩,
    ⟨(some 62), none, .ib .neq (.t 60) (.t 61)⟩])
  (.cd (.t 62)
  (.sq (.rg [⟨(some 6), none, .mv (.c (.bool false))⟩])
  .rt)
  .sk)))
  (.rg [⟨(some 55), none, .mv (.t 14)⟩,
    ⟨(some 56), none, .ib .add (.t 55) (.c (.int .i64 1))⟩,
    ⟨(some 14), none, .mv (.t 56)⟩])))))))))
  .sk))
  (.sq (.sq (.rg [⟨(some 63), none, .mv (.t 10)⟩,
    ⟨(some 64), none, .ca 18 [(.t 63)]⟩,
    ⟨(some 65), none, .mv (.t 9)⟩,
    ⟨(some 66), none, .mv (.t 12)⟩,
    ⟨(some 67), none, .ib .sub (.t 65) (.t 66)⟩,
    ⟨(some 68), none, .ib .neq (.t 64) (.t 67)⟩])
  (.cd (.t 68)
  (.sq (.rg [⟨(some 6), none, .mv (.c (.bool false))⟩])
  .rt)
  .sk))
  (.sq (.sq (.rg [⟨(some 69), none, .mv (.t 9)⟩,
    ⟨(some 70), none, .ib .sub (.t 69) (.c (.int .i64 1))⟩,
    ⟨(some 15), none, .mv (.t 70)⟩])
  (.bl 4
  (.lp
  (.sq (.sq (.rg [⟨(some 71), none, .mv (.t 15)⟩,
    ⟨(some 72), none, .mv (.t 12)⟩,
    ⟨(some 73), none, .ib .geq (.t 71) (.t 72)⟩])
  (.cd (.t 73)
  .sk
  (.ex 4)))
  (.sq (.bl 5
  (.sq (.rg [⟨(some 77), none, .mv (.t 10)⟩,
    ⟨(some 78), none, .ca 19 [(.t 77)]⟩,
    ⟨(some 76), none, .mv (.t 78)⟩,
    ⟨(some 79), none, .ex (.t 76) 0⟩,
    ⟨(some 80), none, .ex (.t 76) 1⟩,
    ⟨(some 16), none, .mv (.t 79)⟩,
    ⟨(some 17), none, .mv (.t 80)⟩])
  (.sq (.rg [⟨(some 81), none, .mv (.t 17)⟩,
    ⟨(some 82), none, .nt (.t 81)⟩,
    ⟨(some 83), none, .mv (.t 82)⟩,
    ⟨(some 84), (some (83, false)), .mv (.t 16)⟩,
    ⟨(some 85), (some (83, false)), .mv (.t 15)⟩,
    ⟨(some 86), (some (83, false)), .ib .neq (.t 84) (.t 85)⟩,
    ⟨(some 87), none, .pk (.t 83) (.c (.bool true)) (.t 86)⟩])
  (.cd (.t 87)
  (.sq (.rg [⟨(some 6), none, .mv (.c (.bool false))⟩])
  .rt)
  .sk))))
  (.rg [⟨(some 74), none, .mv (.t 15)⟩,
    ⟨(some 75), none, .ib .sub (.t 74) (.c (.int .i64 1))⟩,
    ⟨(some 15), none, .mv (.t 75)⟩]))))))
  (.sq (.rg [⟨(some 89), none, .mv (.t 10)⟩,
    ⟨(some 90), none, .ca 19 [(.t 89)]⟩,
    ⟨(some 88), none, .mv (.t 90)⟩,
    ⟨(some 91), none, .ex (.t 88) 0⟩,
    ⟨(some 92), none, .ex (.t 88) 1⟩,
    ⟨(some 18), none, .mv (.t 91)⟩,
    ⟨(some 19), none, .mv (.t 92)⟩])
  (.sq (.rg [⟨(some 93), none, .mv (.t 7)⟩,
    ⟨(some 94), none, .mv (.t 93)⟩,
    ⟨(some 95), (some (94, true)), .mv (.t 18)⟩,
    ⟨(some 96), (some (94, true)), .ib .eql (.t 95) (.c (.int .i64 0))⟩,
    ⟨(some 97), none, .pk (.t 94) (.t 96) (.c (.bool false))⟩,
    ⟨(some 98), none, .mv (.t 97)⟩,
    ⟨(some 99), (some (98, true)), .mv (.t 19)⟩,
    ⟨(some 100), (some (98, true)), .nt (.t 99)⟩,
    ⟨(some 101), none, .pk (.t 98) (.t 100) (.c (.bool false))⟩,
    ⟨(some 102), none, .mv (.t 101)⟩,
    ⟨(some 103), (some (102, true)), .mv (.t 10)⟩,
    ⟨(some 104), (some (102, true)), .ca 20 [(.t 103)]⟩,
    ⟨(some 105), (some (102, true)), .len (.t 104)⟩,
    ⟨(some 106), (some (102, true)), .ib .eql (.t 105) (.c (.int .i64 0))⟩,
    ⟨(some 107), none, .pk (.t 102) (.t 106) (.c (.bool false))⟩,
    ⟨(some 108), none, .mv (.t 107)⟩,
    ⟨(some 109), (some (108, true)), .mv (.t 10)⟩,
    ⟨(some 110), (some (108, true)), .ca 17 [(.t 109)]⟩,
    ⟨(some 111), (some (108, true)), .len (.t 110)⟩,
    ⟨(some 112), (some (108, true)), .ib .eql (.t 111) (.c (.int .i64 0))⟩,
    ⟨(some 113), none, .pk (.t 108) (.t 112) (.c (.bool false))⟩,
    ⟨(some 6), none, .mv (.t 113)⟩])
  .rt))))))))))))))⟩
theorem k4 : cF Try.prog Try.f4 = some c4 := by kernel_rfl
/-- rundale/rundalelaw8.StashPlays -/
def c5 : Fu := ⟨110, [.t 4],
  (.sq (.rg [⟨(some 4), none, .mv (.c (.bool false))⟩])
  (.sq (.rg [⟨(some 14), none, .ca 13 []⟩,
    ⟨(some 5), none, .mv (.t 14)⟩])
  (.sq (.sq (.rg [⟨(some 15), none, .mv (.t 5)⟩,
    ⟨(some 16), none, .nt (.t 15)⟩])
  (.cd (.t 16)
  (.sq (.rg [⟨(some 4), none, .mv (.c (.bool false))⟩])
  .rt)
  .sk))
  (.sq (.sq (.rg [⟨(some 17), none, .mv (.t 1)⟩,
    ⟨(some 18), none, .len (.t 17)⟩,
    ⟨(some 19), none, .ib .gtr (.t 18) (.c (.int .i64 60))⟩])
  (.cd (.t 19)
  (.sq (.rg [⟨(some 20), none, .mv (.t 5)⟩,
    ⟨(some 4), none, .mv (.t 20)⟩])
  .rt)
  .sk))
  (.sq (.rg [⟨(some 21), none, .mv (.t 0)⟩,
    ⟨(some 22), none, .ca 15 [(.t 21)]⟩,
    ⟨(some 6), none, .mv (.t 22)⟩])
  (.sq (.rg [⟨(some 23), none, .mv (.t 0)⟩,
    ⟨(some 24), none, .ca 21 [(.t 23)]⟩,
    ⟨(some 7), none, .mv (.t 24)⟩])
  (.sq (.sq (.rg [⟨(some 25), none, .mv (.t 6)⟩,
    ⟨(some 26), none, .en 0 false (.t 25) (.c (.pointer none))⟩])
  (.cd (.t 26)
  (.sq (.rg [⟨(some 4), none, .mv (.c (.bool false))⟩])
  .rt)
  .sk))
  (.sq (.sq (.rg [⟨(some 8), none, .mv (.c (.int .i64 0))⟩])
  (.bl 0
  (.lp
  (.sq (.sq (.rg [⟨(some 27), none, .mv (.t 8)⟩,
    ⟨(some 28), none, .mv (.t 1)⟩,
    ⟨(some 29), none, .len (.t 28)⟩,
    ⟨(some 30), none, .ib .lss (.t 27) (.t 29)⟩])
  (.cd (.t 30)
  .sk
  (.ex 0)))
  (.sq (.bl 1
  (.sq (.rg [⟨(some 33), none, .mv (.t 1)⟩,
    ⟨(some 34), none, .mv (.t 8)⟩,
    ⟨(some 35), none, .ia (.t 33) (.t 34) 2⟩,
    ⟨(some 36), none, .ld (.t 35) 2 true⟩,
    ⟨(some 9), none, .al 38 [(.int .i64 0), (.slice none 0 0)]⟩,
    ⟨none, none, .st (.t 9) (.t 36) 2⟩])
  (.sq (.sq (.rg [⟨(some 37), none, .fa (.t 9) 1⟩,
    ⟨(some 38), none, .ld (.t 37) 1 false⟩,
    ⟨(some 39), none, .len (.t 38)⟩,
    ⟨(some 40), none, .ib .gtr (.t 39) (.c (.int .i64 40))⟩])
  (.cd (.t 40)
  (.sq (.rg [⟨(some 41), none, .mv (.t 5)⟩,
    ⟨(some 4), none, .mv (.t 41)⟩])
  .rt)
  .sk))
  (.sq (.sq (.rg [⟨(some 42), none, .fa (.t 9) 0⟩,
    ⟨(some 43), none, .ld (.t 42) 1 false⟩,
    ⟨(some 44), none, .ca 14 [(.t 43), (.c (.int .i64 5))]⟩])
  (.bl 2
  (.sq (.sq (.rg [⟨(some 52), none, .ib .eql (.t 44) (.c (.int .i64 0))⟩,
    ⟨(some 51), none, .mv (.t 52)⟩])
  (.cd (.t 51)
  .sk
  (.rg [⟨(some 53), none, .ib .eql (.t 44) (.c (.int .i64 1))⟩,
    ⟨(some 51), none, .mv (.t 53)⟩])))
  (.cd (.t 51)
  (.sq (.rg [⟨(some 54), none, .mv (.t 6)⟩,
    ⟨(some 55), none, .fa (.t 9) 1⟩,
    ⟨(some 56), none, .ld (.t 55) 1 false⟩,
    ⟨(some 57), none, .ap 27 3 1 8 [(.int .i64 0)] (.c (.slice none 0 0)) (.t 56)⟩,
    ⟨(some 58), none, .ca 16 [(.t 54), (.t 57)]⟩])
  (.rg [⟨(some 59), none, .mv (.t 7)⟩,
    ⟨(some 60), none, .fa (.t 9) 1⟩,
    ⟨(some 61), none, .ld (.t 60) 1 false⟩,
    ⟨(some 62), none, .ca 22 [(.t 59), (.t 61)]⟩]))
  (.sq (.rg [⟨(some 64), none, .ib .eql (.t 44) (.c (.int .i64 2))⟩,
    ⟨(some 63), none, .mv (.t 64)⟩])
  (.cd (.t 63)
  (.sq (.rg [⟨(some 66), none, .mv (.t 6)⟩,
    ⟨(some 67), none, .ca 19 [(.t 66)]⟩,
    ⟨(some 65), none, .mv (.t 67)⟩,
    ⟨(some 68), none, .ex (.t 65) 0⟩,
    ⟨(some 69), none, .ex (.t 65) 1⟩,
    ⟨(some 10), none, .mv (.t 68)⟩,
    ⟨(some 11), none, .mv (.t 69)⟩])
  (.sq (.rg [⟨(some 71), none, .mv (.t 7)⟩,
    ⟨(some 72), none, .ca 23 [(.t 71)]⟩,
    ⟨(some 70), none, .mv (.t 72)⟩,
    ⟨(some 73), none, .ex (.t 70) 0⟩,
    ⟨(some 74), none, .ex (.t 70) 1⟩,
    ⟨(some 12), none, .mv (.t 73)⟩,
    ⟨(some 13), none, .mv (.t 74)⟩])
  (.sq (.rg [⟨(some 75), none, .mv (.t 10)⟩,
    ⟨(some 76), none, .mv (.t 12)⟩,
    ⟨(some 77), none, .ib .neq (.t 75) (.t 76)⟩,
    ⟨(some 78), none, .mv (.t 77)⟩,
    ⟨(some 79), (some (78, false)), .mv (.t 11)⟩,
    ⟨(some 80), (some (78, false)), .mv (.t 13)⟩,
    ⟨(some 81), (some (78, false)), .bb true (.t 79) (.t 80)⟩,
    ⟨(some 82), none, .pk (.t 78) (.c (.bool true)) (.t 81)⟩])
  (.cd (.t 82)
  (.sq (.rg [⟨(some 4), none, .mv (.c (.bool false))⟩])
  .rt)
  .sk))))
  (.sq (.rg [⟨(some 84), none, .ib .eql (.t 44) (.c (.int .i64 3))⟩,
    ⟨(some 83), none, .mv (.t 84)⟩])
  (.cd (.t 83)
  (.sq (.rg [⟨(some 85), none, .mv (.t 6)⟩,
    ⟨(some 86), none, .ca 17 [(.t 85)]⟩,
    ⟨(some 87), none, .mv (.t 7)⟩,
    ⟨(some 88), none, .ca 25 [(.t 87)]⟩,
    ⟨(some 89), none, .ca 24 [(.t 86), (.t 88)]⟩,
    ⟨(some 90), none, .nt (.t 89)⟩])
  (.cd (.t 90)
  (.sq (.rg [⟨(some 4), none, .mv (.c (.bool false))⟩])
  .rt)
  .sk))
  (.sq (.rg [⟨(some 45), none, .mv (.t 6)⟩,
    ⟨(some 46), none, .ca 20 [(.t 45)]⟩,
    ⟨(some 47), none, .mv (.t 7)⟩,
    ⟨(some 48), none, .ca 26 [(.t 47)]⟩,
    ⟨(some 49), none, .ca 24 [(.t 46), (.t 48)]⟩,
    ⟨(some 50), none, .nt (.t 49)⟩])
  (.cd (.t 50)
  (.sq (.rg [⟨(some 4), none, .mv (.c (.bool false))⟩])
  .rt)
  .sk))))))))))
  (.sq (.rd [⟨0, 0, [6], ⟨(some 91), none, .mv (.t 6)⟩⟩,
    ⟨1, 1, [91], ⟨(some 92), none, .ca 27 [(.t 91)]⟩⟩,
    ⟨2, 0, [7], ⟨(some 93), none, .mv (.t 7)⟩⟩,
    ⟨3, 4, [93], ⟨(some 94), none, .nc (.t 93)⟩⟩,
    ⟨4, 12, [94], ⟨(some 95), none, .fa (.t 94) 1⟩⟩,
    ⟨5, 28, [95], ⟨(some 96), none, .ld (.t 95) 1 false⟩⟩,
    ⟨6, 63, [92, 96], ⟨(some 97), none, .ca 24 [(.t 92), (.t 96)]⟩⟩,
    ⟨7, 127, [97], ⟨(some 98), none, .nt (.t 97)⟩⟩,
    ⟨8, 255, [98], ⟨(some 99), none, .mv (.t 98)⟩⟩,
    ⟨9, 511, [6, 99], ⟨(some 100), (some (99, false)), .mv (.t 6)⟩⟩,
    ⟨10, 1023, [100, 99], ⟨(some 101), (some (99, false)), .ca 18 [(.t 100)]⟩⟩,
    ⟨11, 511, [7, 99], ⟨(some 102), (some (99, false)), .mv (.t 7)⟩⟩,
    ⟨12, 2559, [102, 99], ⟨(some 103), (some (99, false)), .nc (.t 102)⟩⟩,
    ⟨13, 6655, [103, 99], ⟨(some 104), (some (99, false)), .fa (.t 103) 1⟩⟩,
    ⟨14, 14847, [104, 99], ⟨(some 105), (some (99, false)), .ld (.t 104) 1 false⟩⟩,
    ⟨15, 31231, [105, 99], ⟨(some 106), (some (99, false)), .len (.t 105)⟩⟩,
    ⟨16, 65535, [101, 106, 99], ⟨(some 107), (some (99, false)), .ib .neq (.t 101) (.t 106)⟩⟩,
    ⟨17, 131071, [99, 107], ⟨(some 108), none, .pk (.t 99) (.c (.bool true)) (.t 107)⟩⟩])
  (.cd (.t 108)
  (.sq (.rg [⟨(some 4), none, .mv (.c (.bool false))⟩])
  .rt)
  .sk))))))
  (.rg [⟨(some 31), none, .mv (.t 8)⟩,
    ⟨(some 32), none, .ib .add (.t 31) (.c (.int .i64 1))⟩,
    ⟨(some 8), none, .mv (.t 32)⟩]))))))
  (.sq (.rg [⟨(some 109), none, .mv (.t 5)⟩,
    ⟨(some 4), none, .mv (.t 109)⟩])
  .rt)))))))))⟩
theorem k5 : cF Try.prog Try.f5 = some c5 := by kernel_rfl
/-- rundale/rundalelaw8.StashLots -/
def c6 : Fu := ⟨130, [.t 4],
  (.sq (.rg [⟨(some 4), none, .mv (.c (.bool false))⟩])
  (.sq (.rg [⟨(some 14), none, .ca 13 []⟩,
    ⟨(some 5), none, .mv (.t 14)⟩])
  (.sq (.sq (.rg [⟨(some 15), none, .mv (.t 5)⟩,
    ⟨(some 16), none, .nt (.t 15)⟩])
  (.cd (.t 16)
  (.sq (.rg [⟨(some 4), none, .mv (.c (.bool false))⟩])
  .rt)
  .sk))
  (.sq (.sq (.rg [⟨(some 17), none, .mv (.t 1)⟩,
    ⟨(some 18), none, .len (.t 17)⟩,
    ⟨(some 19), none, .ib .gtr (.t 18) (.c (.int .i64 20))⟩])
  (.cd (.t 19)
  (.sq (.rg [⟨(some 20), none, .mv (.t 5)⟩,
    ⟨(some 4), none, .mv (.t 20)⟩])
  .rt)
  .sk))
  (.sq (.rg [⟨(some 21), none, .mv (.t 0)⟩,
    ⟨(some 22), none, .ca 15 [(.t 21)]⟩,
    ⟨(some 23), none, .mv (.t 0)⟩,
    ⟨(some 24), none, .ca 15 [(.t 23)]⟩,
    ⟨(some 6), none, .mv (.t 22)⟩,
    ⟨(some 7), none, .mv (.t 24)⟩])
  (.sq (.sq (.rg [⟨(some 25), none, .mv (.t 6)⟩,
    ⟨(some 26), none, .en 0 false (.t 25) (.c (.pointer none))⟩,
    ⟨(some 27), none, .mv (.t 26)⟩,
    ⟨(some 28), (some (27, false)), .mv (.t 7)⟩,
    ⟨(some 29), (some (27, false)), .en 0 false (.t 28) (.c (.pointer none))⟩,
    ⟨(some 30), none, .pk (.t 27) (.c (.bool true)) (.t 29)⟩])
  (.cd (.t 30)
  (.sq (.rg [⟨(some 4), none, .mv (.c (.bool false))⟩])
  .rt)
  .sk))
  (.sq (.rg [⟨(some 8), none, .mv (.c (.int .i64 0))⟩])
  (.sq (.sq (.rg [⟨(some 9), none, .mv (.c (.int .i64 0))⟩])
  (.bl 0
  (.lp
  (.sq (.sq (.rg [⟨(some 31), none, .mv (.t 9)⟩,
    ⟨(some 32), none, .mv (.t 1)⟩,
    ⟨(some 33), none, .len (.t 32)⟩,
    ⟨(some 34), none, .ib .lss (.t 31) (.t 33)⟩])
  (.cd (.t 34)
  .sk
  (.ex 0)))
  (.sq (.bl 1
  (.sq (.sq (.rg [⟨(some 37), none, .mv (.t 1)⟩,
    ⟨(some 38), none, .mv (.t 9)⟩,
    ⟨(some 39), none, .ia (.t 37) (.t 38) 1⟩,
    ⟨(some 40), none, .ld (.t 39) 1 false⟩,
    ⟨(some 41), none, .len (.t 40)⟩,
    ⟨(some 42), none, .ib .gtr (.t 41) (.c (.int .i64 20))⟩])
  (.cd (.t 42)
  (.sq (.rg [⟨(some 43), none, .mv (.t 5)⟩,
    ⟨(some 4), none, .mv (.t 43)⟩])
  .rt)
  .sk))
  (.sq (.rg [⟨(some 44), none, .mv (.t 6)⟩,
    ⟨(some 45), none, .mv (.t 1)⟩,
    ⟨(some 46), none, .mv (.t 9)⟩,
    ⟨(some 47), none, .ia (.t 45) (.t 46) 1⟩,
    ⟨(some 48), none, .ld (.t 47) 1 false⟩,
    ⟨(some 49), none, .ap 27 3 1 8 [(.int .i64 0)] (.c (.slice none 0 0)) (.t 48)⟩,
    ⟨(some 50), none, .ca 16 [(.t 44), (.t 49)]⟩])
  (.sq (.sq (.rg [⟨(some 10), none, .mv (.c (.int .i64 0))⟩])
  (.bl 2
  (.lp
  (.sq (.sq (.rg [⟨(some 51), none, .mv (.t 10)⟩,
    ⟨(some 52), none, .mv (.t 1)⟩,
    ⟨(some 53), none, .mv (.t 9)⟩,
    ⟨(some 54), none, .ia (.t 52) (.t 53) 1⟩,
    ⟨(some 55), none, .ld (.t 54) 1 false⟩,
    ⟨(some 56), none, .len (.t 55)⟩,
    ⟨(some 57), none, .ib .lss (.t 51) (.t 56)⟩])
  (.cd (.t 57)
  .sk
  (.ex 2)))
  (.sq (.bl 3
  (.rg [⟨(some 60), none, .mv (.t 7)⟩,
    ⟨(some 61), none, .mv (.t 1)⟩,
    ⟨(some 62), none, .mv (.t 9)⟩,
    ⟨(some 63), none, .ia (.t 61) (.t 62) 1⟩,
    ⟨(some 64), none, .ld (.t 63) 1 false⟩,
    ⟨(some 65), none, .mv (.t 10)⟩,
    ⟨(some 66), none, .ia (.t 64) (.t 65) 1⟩,
    ⟨(some 67), none, .ld (.t 66) 1 false⟩,
    ⟨(some 68), none, .bs 3 1 [(.int .i64 0)] [(0, 1, (.t 67))]⟩,
    ⟨(some 69), none, .ca 16 [(.t 60), (.t 68)]⟩]))
  (.rg [⟨(some 58), none, .mv (.t 10)⟩,
    ⟨(some 59), none, .ib .add (.t 58) (.c (.int .i64 1))⟩,
    ⟨(some 10), none, .mv (.t 59)⟩]))))))
  (.rg [⟨(some 70), none, .mv (.t 8)⟩,
    ⟨(some 71), none, .mv (.t 1)⟩,
    ⟨(some 72), none, .mv (.t 9)⟩,
    ⟨(some 73), none, .ia (.t 71) (.t 72) 1⟩,
    ⟨(some 74), none, .ld (.t 73) 1 false⟩,
    ⟨(some 75), none, .len (.t 74)⟩,
    ⟨(some 76), none, .ib .add (.t 70) (.t 75)⟩,
    ⟨(some 8), none, .mv (.t 76)⟩])))))
  (.rg [⟨(some 35), none, .mv (.t 9)⟩,
    ⟨(some 36), none, .ib .add (.t 35) (.c (.int .i64 1))⟩,
    ⟨(some 9), none, .mv (.t 36)⟩]))))))
  (.sq (.rg [⟨(some 77), none, .mv (.t 6)⟩,
    ⟨(some 78), none, .ca 27 [(.t 77)]⟩,
    ⟨(some 11), none, .mv (.t 78)⟩])
  (.sq (.sq (.rg [⟨(some 79), none, .mv (.t 11)⟩,
    ⟨(some 80), none, .mv (.t 7)⟩,
    ⟨(some 81), none, .ca 27 [(.t 80)]⟩,
    ⟨(some 82), none, .ca 24 [(.t 79), (.t 81)]⟩,
    ⟨(some 83), none, .nt (.t 82)⟩,
    ⟨(some 84), none, .mv (.t 83)⟩,
    ⟨(some 85), (some (84, false)), .mv (.t 11)⟩,
    ⟨(some 86), (some (84, false)), .len (.t 85)⟩,
    ⟨(some 87), (some (84, false)), .mv (.t 8)⟩,
    ⟨(some 88), (some (84, false)), .ib .neq (.t 86) (.t 87)⟩,
    ⟨(some 89), none, .pk (.t 84) (.c (.bool true)) (.t 88)⟩])
  (.cd (.t 89)
  (.sq (.rg [⟨(some 4), none, .mv (.c (.bool false))⟩])
  .rt)
  .sk))
  (.sq (.rg [⟨(some 91), none, .mv (.t 6)⟩,
    ⟨(some 92), none, .ca 19 [(.t 91)]⟩,
    ⟨(some 90), none, .mv (.t 92)⟩,
    ⟨(some 93), none, .ex (.t 90) 0⟩,
    ⟨(some 94), none, .ex (.t 90) 1⟩,
    ⟨(some 12), none, .mv (.t 93)⟩,
    ⟨(some 13), none, .mv (.t 94)⟩])
  (.sq (.sq (.rg [⟨(some 95), none, .mv (.t 13)⟩])
  (.cd (.t 95)
  (.rg [⟨(some 96), none, .mv (.t 6)⟩,
    ⟨(some 97), none, .mv (.t 12)⟩,
    ⟨(some 98), none, .bs 3 1 [(.int .i64 0)] [(0, 1, (.t 97))]⟩,
    ⟨(some 99), none, .ca 16 [(.t 96), (.t 98)]⟩])
  .sk))
  (.sq (.rg [⟨(some 100), none, .mv (.t 5)⟩,
    ⟨(some 101), none, .mv (.t 100)⟩,
    ⟨(some 102), (some (101, true)), .mv (.t 13)⟩,
    ⟨(some 103), (some (101, true)), .mv (.t 8)⟩,
    ⟨(some 104), (some (101, true)), .ib .gtr (.t 103) (.c (.int .i64 0))⟩,
    ⟨(some 105), (some (101, true)), .bb false (.t 102) (.t 104)⟩,
    ⟨(some 106), none, .pk (.t 101) (.t 105) (.c (.bool false))⟩,
    ⟨(some 107), none, .mv (.t 106)⟩,
    ⟨(some 108), (some (107, true)), .mv (.t 6)⟩,
    ⟨(some 109), (some (107, true)), .ca 27 [(.t 108)]⟩,
    ⟨(some 110), (some (107, true)), .mv (.t 11)⟩,
    ⟨(some 111), (some (107, true)), .ca 24 [(.t 109), (.t 110)]⟩,
    ⟨(some 112), none, .pk (.t 107) (.t 111) (.c (.bool false))⟩,
    ⟨(some 113), none, .mv (.t 112)⟩,
    ⟨(some 114), (some (113, true)), .mv (.t 6)⟩,
    ⟨(some 115), (some (113, true)), .ca 20 [(.t 114)]⟩,
    ⟨(some 116), (some (113, true)), .mv (.t 11)⟩,
    ⟨(some 117), (some (113, true)), .ca 24 [(.t 115), (.t 116)]⟩,
    ⟨(some 118), none, .pk (.t 113) (.t 117) (.c (.bool false))⟩,
    ⟨(some 119), none, .mv (.t 118)⟩,
    ⟨(some 120), (some (119, true)), .mv (.t 6)⟩,
    ⟨(some 121), (some (119, true)), .ca 18 [(.t 120)]⟩,
    ⟨(some 122), (some (119, true)), .ib .eql (.t 121) (.c (.int .i64 0))⟩,
    ⟨(some 123), none, .pk (.t 119) (.t 122) (.c (.bool false))⟩,
    ⟨(some 124), none, .mv (.t 123)⟩,
    ⟨(some 125), (some (124, true)), .mv (.t 6)⟩,
    ⟨(some 126), (some (124, true)), .ca 27 [(.t 125)]⟩,
    ⟨(some 127), (some (124, true)), .len (.t 126)⟩,
    ⟨(some 128), (some (124, true)), .ib .eql (.t 127) (.c (.int .i64 0))⟩,
    ⟨(some 129), none, .pk (.t 124) (.t 128) (.c (.bool false))⟩,
    ⟨(some 4), none, .mv (.t 129)⟩])
  .rt)))))))))))))⟩
theorem k6 : cF Try.prog Try.f6 = some c6 := by kernel_rfl
/-- rundale/rundalelaw28.BoundSays -/
def c7 : Fu := ⟨40, [.t 4],
  (.sq (.rg [⟨(some 2), none, .bx 47 (.t 0)⟩,
    ⟨(some 4), none, .mv (.c (.bool false))⟩])
  (.sq (.rg [⟨(some 6), none, .ca 28 []⟩,
    ⟨(some 5), none, .mv (.t 6)⟩])
  (.sq (.sq (.rg [⟨(some 7), none, .mv (.t 5)⟩,
    ⟨(some 8), none, .nt (.t 7)⟩])
  (.cd (.t 8)
  (.sq (.rg [⟨(some 4), none, .mv (.c (.bool false))⟩])
  .rt)
  .sk))
  (.sq (.rd [⟨0, 0, [5], ⟨(some 9), none, .mv (.t 5)⟩⟩,
    ⟨1, 1, [9], ⟨(some 10), none, .mv (.t 9)⟩⟩,
    ⟨2, 3, [2, 10], ⟨(some 11), (some (10, true)), .ld (.t 2) 6 true⟩⟩,
    ⟨3, 3, [1, 10], ⟨(some 12), (some (10, true)), .mv (.t 1)⟩⟩,
    ⟨4, 15, [11, 12, 10], ⟨(some 13), (some (10, true)), .ca 29 [(.t 11), (.t 12)]⟩⟩,
    ⟨5, 3, [2, 10], ⟨(some 14), (some (10, true)), .ld (.t 2) 6 true⟩⟩,
    ⟨6, 3, [1, 10], ⟨(some 15), (some (10, true)), .mv (.t 1)⟩⟩,
    ⟨7, 127, [14, 15, 10], ⟨(some 16), (some (10, true)), .ca 30 [(.t 14), (.t 15)]⟩⟩,
    ⟨8, 255, [13, 16, 10], ⟨(some 17), (some (10, true)), .ib .eql (.t 13) (.t 16)⟩⟩,
    ⟨9, 511, [10, 17], ⟨(some 18), none, .pk (.t 10) (.t 17) (.c (.bool false))⟩⟩,
    ⟨10, 1023, [18], ⟨(some 19), none, .mv (.t 18)⟩⟩,
    ⟨11, 2047, [2, 19], ⟨(some 20), (some (19, true)), .ld (.t 2) 6 true⟩⟩,
    ⟨12, 4095, [20, 19], ⟨(some 21), (some (19, true)), .ca 31 [(.t 20)]⟩⟩,
    ⟨13, 2047, [2, 19], ⟨(some 22), (some (19, true)), .ld (.t 2) 6 true⟩⟩,
    ⟨14, 16383, [22, 19], ⟨(some 23), (some (19, true)), .ca 32 [(.t 22)]⟩⟩,
    ⟨15, 32767, [21, 23, 19], ⟨(some 24), (some (19, true)), .ib .eql (.t 21) (.t 23)⟩⟩,
    ⟨16, 65535, [19, 24], ⟨(some 25), none, .pk (.t 19) (.t 24) (.c (.bool false))⟩⟩,
    ⟨17, 131071, [25], ⟨(some 26), none, .mv (.t 25)⟩⟩,
    ⟨18, 262143, [2, 26], ⟨(some 27), (some (26, true)), .ld (.t 2) 6 true⟩⟩,
    ⟨19, 524287, [27, 26], ⟨(some 28), (some (26, true)), .ca 33 [(.t 27)]⟩⟩,
    ⟨20, 262143, [2, 26], ⟨(some 29), (some (26, true)), .ld (.t 2) 6 true⟩⟩,
    ⟨21, 2097151, [29, 26], ⟨(some 30), (some (26, true)), .ca 34 [(.t 29)]⟩⟩,
    ⟨22, 4194303, [28, 30, 26], ⟨(some 31), (some (26, true)), .ib .eql (.t 28) (.t 30)⟩⟩,
    ⟨23, 8388607, [26, 31], ⟨(some 32), none, .pk (.t 26) (.t 31) (.c (.bool false))⟩⟩,
    ⟨24, 16777215, [32], ⟨(some 33), none, .mv (.t 32)⟩⟩,
    ⟨25, 33554431, [2, 33], ⟨(some 34), (some (33, true)), .ld (.t 2) 6 true⟩⟩,
    ⟨26, 67108863, [34, 33], ⟨(some 35), (some (33, true)), .ca 35 [(.t 34)]⟩⟩,
    ⟨27, 33554431, [2, 33], ⟨(some 36), (some (33, true)), .ld (.t 2) 6 true⟩⟩,
    ⟨28, 268435455, [36, 33], ⟨(some 37), (some (33, true)), .ca 36 [(.t 36)]⟩⟩,
    ⟨29, 536870911, [35, 37, 33], ⟨(some 38), (some (33, true)), .ib .eql (.t 35) (.t 37)⟩⟩,
    ⟨30, 1073741823, [33, 38], ⟨(some 39), none, .pk (.t 33) (.t 38) (.c (.bool false))⟩⟩,
    ⟨31, 2147483647, [39], ⟨(some 4), none, .mv (.t 39)⟩⟩])
  .rt))))⟩
theorem k7 : cF Try.prog Try.f7 = some c7 := by kernel_rfl
/-- rundale/rundalelaw28.BoundKinds -/
def c8 : Fu := ⟨139, [.t 6],
  (.sq (.rg [⟨(some 6), none, .mv (.c (.bool false))⟩])
  (.sq (.rg [⟨(some 11), none, .ca 28 []⟩,
    ⟨(some 7), none, .mv (.t 11)⟩])
  (.sq (.sq (.rg [⟨(some 12), none, .mv (.t 7)⟩,
    ⟨(some 13), none, .nt (.t 12)⟩])
  (.cd (.t 13)
  (.sq (.rg [⟨(some 6), none, .mv (.c (.bool false))⟩])
  .rt)
  .sk))
  (.sq (.rg [⟨(some 14), none, .mv (.t 0)⟩,
    ⟨(some 15), none, .ca 37 [(.t 14)]⟩,
    ⟨(some 8), none, .al 47 [(.int .i64 0), (.int .i64 0), (.int .i64 0), (.int .i64 0), (.int .i64 0), (.int .i64 0)]⟩,
    ⟨none, none, .st (.t 8) (.t 15) 6⟩])
  (.sq (.rg [⟨(some 16), none, .mv (.t 1)⟩,
    ⟨(some 17), none, .ca 14 [(.t 16), (.c (.int .i64 12))]⟩,
    ⟨(some 18), none, .ib .add (.c (.int .i64 1)) (.t 17)⟩,
    ⟨(some 9), none, .mv (.t 18)⟩])
  (.sq (.rg [⟨(some 19), none, .ld (.t 8) 6 true⟩,
    ⟨(some 10), none, .al 47 [(.int .i64 0), (.int .i64 0), (.int .i64 0), (.int .i64 0), (.int .i64 0), (.int .i64 0)]⟩,
    ⟨none, none, .st (.t 10) (.t 19) 6⟩])
  (.sq (.sq (.rg [⟨(some 20), none, .mv (.t 2)⟩,
    ⟨(some 21), none, .ca 14 [(.t 20), (.c (.int .i64 6))]⟩])
  (.bl 0
  (.sq (.rg [⟨(some 27), none, .ib .eql (.t 21) (.c (.int .i64 0))⟩,
    ⟨(some 26), none, .mv (.t 27)⟩])
  (.cd (.t 26)
  (.rg [⟨(some 28), none, .fa (.t 10) 0⟩,
    ⟨(some 29), none, .ld (.t 28) 1 false⟩,
    ⟨(some 30), none, .ib .add (.t 29) (.c (.int .i64 1))⟩,
    ⟨(some 31), none, .fa (.t 10) 0⟩,
    ⟨none, none, .st (.t 31) (.t 30) 1⟩])
  (.sq (.rg [⟨(some 33), none, .ib .eql (.t 21) (.c (.int .i64 1))⟩,
    ⟨(some 32), none, .mv (.t 33)⟩])
  (.cd (.t 32)
  (.rg [⟨(some 34), none, .fa (.t 10) 1⟩,
    ⟨(some 35), none, .ld (.t 34) 1 false⟩,
    ⟨(some 36), none, .ib .add (.t 35) (.c (.int .i64 1))⟩,
    ⟨(some 37), none, .fa (.t 10) 1⟩,
    ⟨none, none, .st (.t 37) (.t 36) 1⟩])
  (.sq (.rg [⟨(some 39), none, .ib .eql (.t 21) (.c (.int .i64 2))⟩,
    ⟨(some 38), none, .mv (.t 39)⟩])
  (.cd (.t 38)
  (.rg [⟨(some 40), none, .fa (.t 10) 2⟩,
    ⟨(some 41), none, .ld (.t 40) 1 false⟩,
    ⟨(some 42), none, .ib .add (.t 41) (.c (.int .i64 8))⟩,
    ⟨(some 43), none, .fa (.t 10) 2⟩,
    ⟨none, none, .st (.t 43) (.t 42) 1⟩])
  (.sq (.rg [⟨(some 45), none, .ib .eql (.t 21) (.c (.int .i64 3))⟩,
    ⟨(some 44), none, .mv (.t 45)⟩])
  (.cd (.t 44)
  (.rg [⟨(some 46), none, .fa (.t 10) 3⟩,
    ⟨(some 47), none, .ld (.t 46) 1 false⟩,
    ⟨(some 48), none, .ib .add (.t 47) (.c (.int .i64 1))⟩,
    ⟨(some 49), none, .fa (.t 10) 3⟩,
    ⟨none, none, .st (.t 49) (.t 48) 1⟩])
  (.sq (.rg [⟨(some 51), none, .ib .eql (.t 21) (.c (.int .i64 4))⟩,
    ⟨(some 50), none, .mv (.t 51)⟩])
  (.cd (.t 50)
  (.rg [⟨(some 52), none, .fa (.t 10) 4⟩,
    ⟨(some 53), none, .ld (.t 52) 1 false⟩,
    ⟨(some 54), none, .ib .add (.t 53) (.c (.int .i64 1))⟩,
    ⟨(some 55), none, .fa (.t 10) 4⟩,
    ⟨none, none, .st (.t 55) (.t 54) 1⟩])
  (.rg [⟨(some 22), none, .fa (.t 10) 5⟩,
    ⟨(some 23), none, .ld (.t 22) 1 false⟩,
    ⟨(some 24), none, .ib .add (.t 23) (.c (.int .i64 1))⟩,
    ⟨(some 25), none, .fa (.t 10) 5⟩,
    ⟨none, none, .st (.t 25) (.t 24) 1⟩])))))))))))))
  (.sq (.rd [⟨0, 0, [7], ⟨(some 56), none, .mv (.t 7)⟩⟩,
    ⟨1, 1, [56], ⟨(some 57), none, .mv (.t 56)⟩⟩,
    ⟨2, 3, [8, 57], ⟨(some 58), (some (57, true)), .ld (.t 8) 6 true⟩⟩,
    ⟨3, 3, [9, 57], ⟨(some 59), (some (57, true)), .mv (.t 9)⟩⟩,
    ⟨4, 15, [58, 59, 57], ⟨(some 60), (some (57, true)), .ca 29 [(.t 58), (.t 59)]⟩⟩,
    ⟨5, 31, [60, 57], ⟨(some 61), (some (57, true)), .ib .geq (.t 60) (.c (.int .i64 1))⟩⟩,
    ⟨6, 63, [57, 61], ⟨(some 62), none, .pk (.t 57) (.t 61) (.c (.bool false))⟩⟩,
    ⟨7, 127, [62], ⟨(some 63), none, .mv (.t 62)⟩⟩,
    ⟨8, 255, [8, 63], ⟨(some 64), (some (63, true)), .ld (.t 8) 6 true⟩⟩,
    ⟨9, 255, [9, 63], ⟨(some 65), (some (63, true)), .mv (.t 9)⟩⟩,
    ⟨10, 1023, [64, 65, 63], ⟨(some 66), (some (63, true)), .ca 29 [(.t 64), (.t 65)]⟩⟩,
    ⟨11, 255, [8, 63], ⟨(some 67), (some (63, true)), .ld (.t 8) 6 true⟩⟩,
    ⟨12, 4095, [67, 63], ⟨(some 68), (some (63, true)), .ca 31 [(.t 67)]⟩⟩,
    ⟨13, 8191, [66, 68, 63], ⟨(some 69), (some (63, true)), .ib .leq (.t 66) (.t 68)⟩⟩,
    ⟨14, 16383, [63, 69], ⟨(some 70), none, .pk (.t 63) (.t 69) (.c (.bool false))⟩⟩,
    ⟨15, 32767, [70], ⟨(some 71), none, .mv (.t 70)⟩⟩,
    ⟨16, 65535, [8, 71], ⟨(some 72), (some (71, true)), .ld (.t 8) 6 true⟩⟩,
    ⟨17, 131071, [72, 71], ⟨(some 73), (some (71, true)), .ca 31 [(.t 72)]⟩⟩,
    ⟨18, 65535, [8, 71], ⟨(some 74), (some (71, true)), .ld (.t 8) 6 true⟩⟩,
    ⟨19, 524287, [74, 71], ⟨(some 75), (some (71, true)), .ca 35 [(.t 74)]⟩⟩,
    ⟨20, 1048575, [73, 75, 71], ⟨(some 76), (some (71, true)), .ib .leq (.t 73) (.t 75)⟩⟩,
    ⟨21, 2097151, [71, 76], ⟨(some 77), none, .pk (.t 71) (.t 76) (.c (.bool false))⟩⟩,
    ⟨22, 4194303, [77], ⟨(some 78), none, .mv (.t 77)⟩⟩,
    ⟨23, 8388607, [10, 78], ⟨(some 79), (some (78, true)), .ld (.t 10) 6 true⟩⟩,
    ⟨24, 8388607, [9, 78], ⟨(some 80), (some (78, true)), .mv (.t 9)⟩⟩,
    ⟨25, 33554431, [79, 80, 78], ⟨(some 81), (some (78, true)), .ca 29 [(.t 79), (.t 80)]⟩⟩,
    ⟨26, 8388607, [8, 78], ⟨(some 82), (some (78, true)), .ld (.t 8) 6 true⟩⟩,
    ⟨27, 8388607, [9, 78], ⟨(some 83), (some (78, true)), .mv (.t 9)⟩⟩,
    ⟨28, 268435455, [82, 83, 78], ⟨(some 84), (some (78, true)), .ca 29 [(.t 82), (.t 83)]⟩⟩,
    ⟨29, 536870911, [81, 84, 78], ⟨(some 85), (some (78, true)), .ib .geq (.t 81) (.t 84)⟩⟩,
    ⟨30, 1073741823, [78, 85], ⟨(some 86), none, .pk (.t 78) (.t 85) (.c (.bool false))⟩⟩,
    ⟨31, 2147483647, [86], ⟨(some 87), none, .mv (.t 86)⟩⟩,
    ⟨32, 4294967295, [10, 87], ⟨(some 88), (some (87, true)), .ld (.t 10) 6 true⟩⟩,
    ⟨33, 8589934591, [88, 87], ⟨(some 89), (some (87, true)), .ca 31 [(.t 88)]⟩⟩,
    ⟨34, 4294967295, [8, 87], ⟨(some 90), (some (87, true)), .ld (.t 8) 6 true⟩⟩,
    ⟨35, 34359738367, [90, 87], ⟨(some 91), (some (87, true)), .ca 31 [(.t 90)]⟩⟩,
    ⟨36, 68719476735, [89, 91, 87], ⟨(some 92), (some (87, true)), .ib .geq (.t 89) (.t 91)⟩⟩,
    ⟨37, 137438953471, [87, 92], ⟨(some 93), none, .pk (.t 87) (.t 92) (.c (.bool false))⟩⟩,
    ⟨38, 274877906943, [93], ⟨(some 94), none, .mv (.t 93)⟩⟩,
    ⟨39, 549755813887, [10, 94], ⟨(some 95), (some (94, true)), .ld (.t 10) 6 true⟩⟩,
    ⟨40, 1099511627775, [95, 94], ⟨(some 96), (some (94, true)), .ca 33 [(.t 95)]⟩⟩,
    ⟨41, 549755813887, [8, 94], ⟨(some 97), (some (94, true)), .ld (.t 8) 6 true⟩⟩,
    ⟨42, 4398046511103, [97, 94], ⟨(some 98), (some (94, true)), .ca 33 [(.t 97)]⟩⟩,
    ⟨43, 8796093022207, [96, 98, 94], ⟨(some 99), (some (94, true)), .ib .geq (.t 96) (.t 98)⟩⟩,
    ⟨44, 17592186044415, [94, 99], ⟨(some 100), none, .pk (.t 94) (.t 99) (.c (.bool false))⟩⟩,
    ⟨45, 35184372088831, [100], ⟨(some 101), none, .mv (.t 100)⟩⟩,
    ⟨46, 70368744177663, [10, 101], ⟨(some 102), (some (101, true)), .ld (.t 10) 6 true⟩⟩,
    ⟨47, 140737488355327, [102, 101], ⟨(some 103), (some (101, true)), .ca 35 [(.t 102)]⟩⟩,
    ⟨48, 70368744177663, [8, 101], ⟨(some 104), (some (101, true)), .ld (.t 8) 6 true⟩⟩,
    ⟨49, 562949953421311, [104, 101], ⟨(some 105), (some (101, true)), .ca 35 [(.t 104)]⟩⟩,
    ⟨50, 1125899906842623, [103, 105, 101], ⟨(some 106), (some (101, true)), .ib .geq (.t 103) (.t 105)⟩⟩,
    ⟨51, 2251799813685247, [101, 106], ⟨(some 107), none, .pk (.t 101) (.t 106) (.c (.bool false))⟩⟩,
    ⟨52, 4503599627370495, [107], ⟨(some 108), none, .mv (.t 107)⟩⟩,
    ⟨53, 9007199254740991, [8, 108], ⟨(some 109), (some (108, true)), .ld (.t 8) 6 true⟩⟩,
    ⟨54, 18014398509481983, [109, 108], ⟨(some 110), (some (108, true)), .ca 35 [(.t 109)]⟩⟩,
    ⟨55, 9007199254740991, [8, 108], ⟨(some 111), (some (108, true)), .fa (.t 8) 0⟩⟩,
    ⟨56, 45035996273704959, [111, 108], ⟨(some 112), (some (108, true)), .ld (.t 111) 1 false⟩⟩,
    ⟨57, 9007199254740991, [8, 108], ⟨(some 113), (some (108, true)), .ld (.t 8) 6 true⟩⟩,
    ⟨58, 180143985094819839, [113, 108], ⟨(some 114), (some (108, true)), .ca 31 [(.t 113)]⟩⟩,
    ⟨59, 9007199254740991, [8, 108], ⟨(some 115), (some (108, true)), .fa (.t 8) 0⟩⟩,
    ⟨60, 585467951558164479, [115, 108], ⟨(some 116), (some (108, true)), .ld (.t 115) 1 false⟩⟩,
    ⟨61, 1738389456165011455, [116, 108], ⟨(some 117), (some (108, true)), .ib .mul (.c (.int .i64 3)) (.t 116)⟩⟩,
    ⟨62, 9007199254740991, [8, 108], ⟨(some 118), (some (108, true)), .ld (.t 8) 6 true⟩⟩,
    ⟨63, 5080060379673919487, [118, 108], ⟨(some 119), (some (108, true)), .ca 33 [(.t 118)]⟩⟩,
    ⟨64, 18338657682652659711, [117, 119, 108], ⟨(some 120), (some (108, true)), .ib .mul (.t 117) (.t 119)⟩⟩,
    ⟨65, 36785401756362211327, [114, 120, 108], ⟨(some 121), (some (108, true)), .ib .add (.t 114) (.t 120)⟩⟩,
    ⟨66, 73786976294838206463, [112, 121, 108], ⟨(some 122), (some (108, true)), .ib .mul (.t 112) (.t 121)⟩⟩,
    ⟨67, 147573952589676412927, [110, 122, 108], ⟨(some 123), (some (108, true)), .ib .eql (.t 110) (.t 122)⟩⟩,
    ⟨68, 295147905179352825855, [108, 123], ⟨(some 124), none, .pk (.t 108) (.t 123) (.c (.bool false))⟩⟩,
    ⟨69, 590295810358705651711, [124], ⟨(some 125), none, .mv (.t 124)⟩⟩,
    ⟨70, 1180591620717411303423, [8, 125], ⟨(some 126), (some (125, true)), .ld (.t 8) 6 true⟩⟩,
    ⟨71, 1180591620717411303423, [9, 125], ⟨(some 127), (some (125, true)), .mv (.t 9)⟩⟩,
    ⟨72, 3541774862152233910271, [127, 125], ⟨(some 128), (some (125, true)), .ib .add (.c (.int .i64 12)) (.t 127)⟩⟩,
    ⟨73, 9444732965739290427391, [126, 128, 125], ⟨(some 129), (some (125, true)), .ca 29 [(.t 126), (.t 128)]⟩⟩,
    ⟨74, 18889465931478580854783, [129, 125], ⟨(some 130), (some (125, true)), .ib .eql (.t 129) (.c (.int .i64 0))⟩⟩,
    ⟨75, 37778931862957161709567, [125, 130], ⟨(some 131), none, .pk (.t 125) (.t 130) (.c (.bool false))⟩⟩,
    ⟨76, 75557863725914323419135, [131], ⟨(some 132), none, .mv (.t 131)⟩⟩,
    ⟨77, 151115727451828646838271, [8, 132], ⟨(some 133), (some (132, true)), .ld (.t 8) 6 true⟩⟩,
    ⟨78, 151115727451828646838271, [9, 132], ⟨(some 134), (some (132, true)), .mv (.t 9)⟩⟩,
    ⟨79, 453347182355485940514815, [134, 132], ⟨(some 135), (some (132, true)), .ib .sub (.c (.int .i64 1)) (.t 134)⟩⟩,
    ⟨80, 1208925819614629174706175, [133, 135, 132], ⟨(some 136), (some (132, true)), .ca 29 [(.t 133), (.t 135)]⟩⟩,
    ⟨81, 2417851639229258349412351, [136, 132], ⟨(some 137), (some (132, true)), .ib .eql (.t 136) (.c (.int .i64 0))⟩⟩,
    ⟨82, 4835703278458516698824703, [132, 137], ⟨(some 138), none, .pk (.t 132) (.t 137) (.c (.bool false))⟩⟩,
    ⟨83, 9671406556917033397649407, [138], ⟨(some 6), none, .mv (.t 138)⟩⟩])
  .rt))))))))⟩
theorem k8 : cF Try.prog Try.f8 = some c8 := by kernel_rfl
/-- rundale/rundalelaw7.LimboOnce -/
def c9 : Fu := ⟨138, [.t 2],
  (.sq (.rg [⟨(some 2), none, .mv (.c (.bool false))⟩])
  (.sq (.rg [⟨(some 16), none, .ca 38 []⟩,
    ⟨(some 3), none, .mv (.t 16)⟩])
  (.sq (.sq (.rg [⟨(some 17), none, .mv (.t 3)⟩,
    ⟨(some 18), none, .nt (.t 17)⟩])
  (.cd (.t 18)
  (.sq (.rg [⟨(some 2), none, .mv (.c (.bool false))⟩])
  .rt)
  .sk))
  (.sq (.sq (.rg [⟨(some 19), none, .mv (.t 0)⟩,
    ⟨(some 20), none, .len (.t 19)⟩,
    ⟨(some 21), none, .ib .gtr (.t 20) (.c (.int .i64 80))⟩])
  (.cd (.t 21)
  (.sq (.rg [⟨(some 22), none, .mv (.t 3)⟩,
    ⟨(some 2), none, .mv (.t 22)⟩])
  .rt)
  .sk))
  (.sq (.rg [⟨(some 23), none, .ca 39 []⟩,
    ⟨(some 4), none, .mv (.t 23)⟩])
  (.sq (.sq (.rg [⟨(some 24), none, .mv (.t 4)⟩,
    ⟨(some 25), none, .en 0 false (.t 24) (.c (.pointer none))⟩])
  (.cd (.t 25)
  (.sq (.rg [⟨(some 2), none, .mv (.c (.bool false))⟩])
  .rt)
  .sk))
  (.sq (.rg [⟨(some 5), none, .mv (.c (.int .i64 0))⟩,
    ⟨(some 6), none, .mv (.c (.int .i64 0))⟩,
    ⟨(some 7), none, .mv (.c (.int .i64 0))⟩])
  (.sq (.rg [⟨(some 8), none, .al 55 [(.int .i64 0), (.int .i64 0), (.int .i64 0), (.int .i64 0), (.int .i64 0), (.int .i64 0), (.int .i64 0), (.int .i64 0), (.int .i64 0), (.int .i64 0), (.int .i64 0), (.int .i64 0), (.int .i64 0), (.int .i64 0), (.int .i64 0), (.int .i64 0), (.int .i64 0), (.int .i64 0), (.int .i64 0), (.int .i64 0), (.int .i64 0), (.int .i64 0), (.int .i64 0), (.int .i64 0), (.int .i64 0), (.int .i64 0), (.int .i64 0), (.int .i64 0), (.int .i64 0), (.int .i64 0), (.int .i64 0), (.int .i64 0), (.int .i64 0), (.int .i64 0), (.int .i64 0), (.int .i64 0), (.int .i64 0), (.int .i64 0), (.int .i64 0), (.int .i64 0), (.int .i64 0), (.int .i64 0), (.int .i64 0), (.int .i64 0), (.int .i64 0), (.int .i64 0), (.int .i64 0), (.int .i64 0), (.int .i64 0), (.int .i64 0), (.int .i64 0), (.int .i64 0), (.int .i64 0), (.int .i64 0), (.int .i64 0), (.int .i64 0), (.int .i64 0), (.int .i64 0), (.int .i64 0), (.int .i64 0), (.int .i64 0), (.int .i64 0), (.int .i64 0), (.int .i64 0), (.int .i64 0), (.int .i64 0), (.int .i64 0), (.int .i64 0), (.int .i64 0), (.int .i64 0), (.int .i64 0), (.int .i64 0), (.int .i64 0), (.int .i64 0), (.int .i64 0), (.int .i64 0), (.int .i64 0), (.int .i64 0), (.int .i64 0), (.int .i64 0)]⟩,
    ⟨(some 9), none, .al 55 [(.int .i64 0), (.int .i64 0), (.int .i64 0), (.int .i64 0), (.int .i64 0), (.int .i64 0), (.int .i64 0), (.int .i64 0), (.int .i64 0), (.int .i64 0), (.int .i64 0), (.int .i64 0), (.int .i64 0), (.int .i64 0), (.int .i64 0), (.int .i64 0), (.int .i64 0), (.int .i64 0), (.int .i64 0), (.int .i64 0), (.int .i64 0), (.int .i64 0), (.int .i64 0), (.int .i64 0), (.int .i64 0), (.int .i64 0), (.int .i64 0), (.int .i64 0), (.int .i64 0), (.int .i64 0), (.int .i64 0), (.int .i64 0), (.int .i64 0), (.int .i64 0), (.int .i64 0), (.int .i64 0), (.int .i64 0), (.int .i64 0), (.int .i64 0), (.int .i64 0), (.int .i64 0), (.int .i64 0), (.int .i64 0), (.int .i64 0), (.int .i64 0), (.int .i64 0), (.int .i64 0), (.int .i64 0), (.int .i64 0), (.int .i64 0), (.int .i64 0), (.int .i64 0), (.int .i64 0), (.int .i64 0), (.int .i64 0), (.int .i64 0), (.int .i64 0), (.int .i64 0), (.int .i64 0), (.int .i64 0), (.int .i64 0), (.int .i64 0), (.int .i64 0), (.int .i64 0), (.int .i64 0), (.int .i64 0), (.int .i64 0), (.int .i64 0), (.int .i64 0), (.int .i64 0), (.int .i64 0), (.int .i64 0), (.int .i64 0), (.int .i64 0), (.int .i64 0), (.int .i64 0), (.int .i64 0), (.int .i64 0), (.int .i64 0), (.int .i64 0)]⟩])
  (.sq (.sq (.rg [⟨(some 10), none, .mv (.c (.int .i64 0))⟩])
  (.bl 0
  (.lp
  (.sq (.sq (.rg [⟨(some 26), none, .mv (.t 10)⟩,
    ⟨(some 27), none, .mv (.t 0)⟩,
    ⟨(some 28), none, .len (.t 27)⟩,
    ⟨(some 29), none, .ib .lss (.t 26) (.t 28)⟩])
  (.cd (.t 29)
  .sk
  (.ex 0)))
  (.sq (.bl 1
  (.sq (.rg [⟨(some 32), none, .mv (.t 5)⟩,
    ⟨(some 33), none, .mv (.t 0)⟩,
    ⟨(some 34), none, .mv (.t 10)⟩,
    ⟨(some 35), none, .ia (.t 33) (.t 34) 1⟩,
    ⟨(some 36), none, .ld (.t 35) 1 false⟩,
    ⟨(some 37), none, .ca 14 [(.t 36), (.c (.int .i64 3))]⟩,
    ⟨(some 38), none, .ib .add (.t 32) (.t 37)⟩,
    ⟨(some 5), none, .mv (.t 38)⟩])
  (.sq (.rg [⟨(some 11), none, .mv (.c (.slice none 0 0))⟩])
  (.sq (.sq (.rg [⟨(some 39), none, .mv (.t 0)⟩,
    ⟨(some 40), none, .mv (.t 10)⟩,
    ⟨(some 41), none, .ia (.t 39) (.t 40) 1⟩,
    ⟨(some 42), none, .ld (.t 41) 1 false⟩,
    ⟨(some 43), none, .ib .quo (.t 42) (.c (.int .i64 3))⟩,
    ⟨(some 44), none, .ca 14 [(.t 43), (.c (.int .i64 3))]⟩,
    ⟨(some 45), none, .ib .eql (.t 44) (.c (.int .i64 0))⟩])
  (.cd (.t 45)
  (.rg [⟨(some 46), none, .mv (.t 4)⟩,
    ⟨(some 47), none, .mv (.t 5)⟩,
    ⟨(some 48), none, .ca 40 [(.t 46), (.t 47)]⟩,
    ⟨(some 11), none, .mv (.t 48)⟩])
  (.sq (.rg [⟨(some 50), none, .mv (.t 4)⟩,
    ⟨(some 51), none, .mv (.t 5)⟩,
    ⟨(some 52), none, .mv (.t 6)⟩,
    ⟨(some 53), none, .bs 3 1 [(.int .i64 0)] [(0, 1, (.t 52))]⟩,
    ⟨(some 54), none, .ca 41 [(.t 50), (.t 51), (.t 53)]⟩,
    ⟨(some 49), none, .mv (.t 54)⟩,
    ⟨(some 55), none, .ex (.t 49) 0⟩,
    ⟨(some 56), none, .ex (.t 49) 1⟩,
    ⟨(some 12), none, .mv (.t 55)⟩,
    ⟨(some 13), none, .mv (.t 56)⟩])
  (.sq (.sq (.rg [⟨(some 57), none, .mv (.t 13)⟩,
    ⟨(some 58), none, .ib .neq (.t 57) (.c (.int .i64 0))⟩])
  (.cd (.t 58)
  (.sq (.rg [⟨(some 2), none, .mv (.c (.bool false))⟩])
  .rt)
  .sk))
  (.sq (.rg [⟨(some 59), none, .mv (.t 12)⟩,
    ⟨(some 11), none, .mv (.t 59)⟩])
  (.sq (.rg [⟨(some 60), none, .mv (.t 6)⟩,
    ⟨(some 61), none, .mv (.t 5)⟩,
    ⟨(some 62), none, .iaa (.t 8) (.t 60) 80 1⟩,
    ⟨none, none, .st (.t 62) (.t 61) 1⟩])
  (.rg [⟨(some 63), none, .mv (.t 6)⟩,
    ⟨(some 64), none, .ib .add (.t 63) (.c (.int .i64 1))⟩,
    ⟨(some 6), none, .mv (.t 64)⟩])))))))
  (.sq (.sq (.rg [⟨(some 14), none, .mv (.c (.int .i64 0))⟩])
  (.bl 2
  (.lp
  (.sq (.sq (.rg [⟨(some 65), none, .mv (.t 14)⟩,
    ⟨(some 66), none, .mv (.t 11)⟩,
    ⟨(some 67), none, .len (.t 66)⟩,
    ⟨(some 68), none, .ib .lss (.t 65) (.t 67)⟩])
  (.cd (.t 68)
  .sk
  (.ex 2)))
  (.sq (.bl 3
  (.sq (.sq (.rg [⟨(some 71), none, .mv (.t 11)⟩,
    ⟨(some 72), none, .mv (.t 14)⟩,
    ⟨(some 73), none, .ia (.t 71) (.t 72) 1⟩,
    ⟨(some 74), none, .ld (.t 73) 1 false⟩,
    ⟨(some 75), none, .ib .lss (.t 74) (.c (.int .i64 0))⟩,
    ⟨(some 76), none, .mv (.t 75)⟩,
    ⟨(some 77), (some (76, false)), .mv (.t 11)⟩,
    ⟨(some 78), (some (76, false)), .mv (.t 14)⟩,
    ⟨(some 79), (some (76, false)), .ia (.t 77) (.t 78) 1⟩,
    ⟨(some 80), (some (76, false)), .ld (.t 79) 1 false⟩,
    ⟨(some 81), (some (76, false)), .mv (.t 6)⟩,
    ⟨(some 82), (some (76, false)), .ib .geq (.t 80) (.t 81)⟩,
    ⟨(some 83), none, .pk (.t 76) (.c (.bool true)) (.t 82)⟩,
    ⟨(some 84), none, .mv (.t 83)⟩,
    ⟨(some 85), (some (84, false)), .mv (.t 11)⟩,
    ⟨(some 86), (some (84, false)), .mv (.t 14)⟩,
    ⟨(some 87), (some (84, false)), .ia (.t 85) (.t 86) 1⟩,
    ⟨(some 88), (some (84, false)), .ld (.t 87) 1 false⟩,
    ⟨(some 89), (some (84, false)), .iaa (.t 9) (.t 88) 80 1⟩,
    ⟨(some 90), (some (84, false)), .ld (.t 89) 1 false⟩,
    ⟨(some 91), (some (84, false)), .ib .gtr (.t 90) (.c (.int .i64 0))⟩,
    ⟨(some 92), none, .pk (.t 84) (.c (.bool true)) (.t 91)⟩,
    ⟨(some 93), none, .mv (.t 92)⟩,
    ⟨(some 94), (some (93, false)), .mv (.t 11)⟩,
    ⟨(some 95), (some (93, false)), .mv (.t 14)⟩,
    ⟨(some 96), (some (93, false)), .ia (.t 94) (.t 95) 1⟩,
    ⟨(some 97), (some (93, false)), .ld (.t 96) 1 false⟩,
    ⟨(some 98), (some (93, false)), .iaa (.t 8) (.t 97) 80 1⟩,
    ⟨(some 99), (some (93, false)), .ld (.t 98) 1 false⟩,
    ⟨(some 100), (some (93, false)), .ib .add (.t 99) (.c (.int .i64 2))⟩,
    ⟨(some 101), (some (93, false)), .mv (.t 5)⟩,
    ⟨(some 102), (some (93, false)), .ib .gtr (.t 100) (.t 101)⟩,
    ⟨(some 103), none, .pk (.t 93) (.c (.bool true)) (.t 102)⟩])
  (.cd (.t 103)
  (.sq (.rg [⟨(some 2), none, .mv (.c (.bool false))⟩])
  .rt)
  .sk))
  (.sq (.rg [⟨(some 104), none, .mv (.t 11)⟩,
    ⟨(some 105), none, .mv (.t 14)⟩,
    ⟨(some 106), none, .ia (.t 104) (.t 105) 1⟩,
    ⟨(some 107), none, .ld (.t 106) 1 false⟩,
    ⟨(some 108), none, .iaa (.t 9) (.t 107) 80 1⟩,
    ⟨(some 109), none, .ld (.t 108) 1 false⟩,
    ⟨(some 110), none, .ib .add (.t 109) (.c (.int .i64 1))⟩,
    ⟨(some 111), none, .iaa (.t 9) (.t 107) 80 1⟩,
    ⟨none, none, .st (.t 111) (.t 110) 1⟩])
  (.rg [⟨(some 112), none, .mv (.t 7)⟩,
    ⟨(some 113), none, .ib .add (.t 112) (.c (.int .i64 1))⟩,
    ⟨(some 7), none, .mv (.t 113)⟩]))))
  (.rg [⟨(some 69), none, .mv (.t 14)⟩,
    ⟨(some 70), none, .ib .add (.t 69) (.c (.int .i64 1))⟩,
    ⟨(some 14), none, .mv (.t 70)⟩]))))))
  (.sq (.rg [⟨(some 114), none, .mv (.t 4)⟩,
    ⟨(some 115), none, .ca 42 [(.t 114)]⟩,
    ⟨(some 116), none, .mv (.t 6)⟩,
    ⟨(some 117), none, .mv (.t 7)⟩,
    ⟨(some 118), none, .ib .sub (.t 116) (.t 117)⟩,
    ⟨(some 119), none, .ib .neq (.t 115) (.t 118)⟩])
  (.cd (.t 119)
  (.sq (.rg [⟨(some 2), none, .mv (.c (.bool false))⟩])
  .rt)
  .sk)))))))
  (.rg [⟨(some 30), none, .mv (.t 10)⟩,
    ⟨(some 31), none, .ib .add (.t 30) (.c (.int .i64 1))⟩,
    ⟨(some 10), none, .mv (.t 31)⟩]))))))
  (.sq (.rg [⟨(some 120), none, .mv (.t 4)⟩,
    ⟨(some 121), none, .mv (.t 5)⟩,
    ⟨(some 122), none, .ib .add (.t 121) (.c (.int .i64 2))⟩,
    ⟨(some 123), none, .ca 40 [(.t 120), (.t 122)]⟩,
    ⟨(some 15), none, .mv (.t 123)⟩])
  (.sq (.rg [⟨(some 124), none, .mv (.t 3)⟩,
    ⟨(some 125), none, .mv (.t 124)⟩,
    ⟨(some 126), (some (125, true)), .mv (.t 15)⟩,
    ⟨(some 127), (some (125, true)), .len (.t 126)⟩,
    ⟨(some 128), (some (125, true)), .mv (.t 6)⟩,
    ⟨(some 129), (some (125, true)), .mv (.t 7)⟩,
    ⟨(some 130), (some (125, true)), .ib .sub (.t 128) (.t 129)⟩,
    ⟨(some 131), (some (125, true)), .ib .eql (.t 127) (.t 130)⟩,
    ⟨(some 132), none, .pk (.t 125) (.t 131) (.c (.bool false))⟩,
    ⟨(some 133), none, .mv (.t 132)⟩,
    ⟨(some 134), (some (133, true)), .mv (.t 4)⟩,
    ⟨(some 135), (some (133, true)), .ca 42 [(.t 134)]⟩,
    ⟨(some 136), (some (133, true)), .ib .eql (.t 135) (.c (.int .i64 0))⟩,
    ⟨(some 137), none, .pk (.t 133) (.t 136) (.c (.bool false))⟩,
    ⟨(some 2), none, .mv (.t 137)⟩])
  .rt)))))))))))⟩
theorem k9 : cF Try.prog Try.f9 = some c9 := by kernel_rfl
/-- rundale/rundalelaw7.LimboOrder -/
def c10 : Fu := ⟨130, [.t 10],
  (.sq (.rg [⟨(some 10), none, .mv (.c (.bool false))⟩])
  (.sq (.rg [⟨(some 22), none, .ca 38 []⟩,
    ⟨(some 11), none, .mv (.t 22)⟩])
  (.sq (.sq (.rg [⟨(some 23), none, .mv (.t 11)⟩,
    ⟨(some 24), none, .nt (.t 23)⟩])
  (.cd (.t 24)
  (.sq (.rg [⟨(some 10), none, .mv (.c (.bool false))⟩])
  .rt)
  .sk))
  (.sq (.rg [⟨(some 25), none, .mv (.t 0)⟩,
    ⟨(some 26), none, .ca 14 [(.t 25), (.c (.int .i64 1000))]⟩,
    ⟨(some 12), none, .mv (.t 26)⟩])
  (.sq (.rg [⟨(some 27), none, .mv (.t 1)⟩,
    ⟨(some 28), none, .ca 14 [(.t 27), (.c (.int .i64 5))]⟩,
    ⟨(some 29), none, .mv (.t 2)⟩,
    ⟨(some 30), none, .ca 14 [(.t 29), (.c (.int .i64 5))]⟩,
    ⟨(some 31), none, .mv (.t 3)⟩,
    ⟨(some 32), none, .ca 14 [(.t 31), (.c (.int .i64 5))]⟩,
    ⟨(some 33), none, .bs 3 3 [(.int .i64 0), (.int .i64 0), (.int .i64 0)] [(0, 1, (.t 28)), (1, 1, (.t 30)), (2, 1, (.t 32))]⟩,
    ⟨(some 13), none, .mv (.t 33)⟩])
  (.sq (.rg [⟨(some 34), none, .ca 39 []⟩,
    ⟨(some 14), none, .mv (.t 34)⟩])
  (.sq (.sq (.rg [⟨(some 35), none, .mv (.t 14)⟩,
    ⟨(some 36), none, .en 0 false (.t 35) (.c (.pointer none))⟩])
  (.cd (.t 36)
  (.sq (.rg [⟨(some 10), none, .mv (.c (.bool false))⟩])
  .rt)
  .sk))
  (.sq (.rg [⟨(some 37), none, .mv (.t 12)⟩,
    ⟨(some 38), none, .mv (.t 4)⟩,
    ⟨(some 39), none, .ca 14 [(.t 38), (.c (.int .i64 7))]⟩,
    ⟨(some 40), none, .ib .add (.t 37) (.t 39)⟩,
    ⟨(some 15), none, .mv (.t 40)⟩])
  (.sq (.rg [⟨(some 16), none, .mv (.c (.slice none 0 0))⟩])
  (.sq (.sq (.rg [⟨(some 17), none, .mv (.c (.int .i64 0))⟩])
  (.bl 0
  (.lp
  (.sq (.sq (.rg [⟨(some 41), none, .mv (.t 17)⟩,
    ⟨(some 42), none, .ib .lss (.t 41) (.c (.int .i64 3))⟩])
  (.cd (.t 42)
  .sk
  (.ex 0)))
  (.sq (.bl 1
  (.sq (.rg [⟨(some 18), none, .mv (.c (.slice none 0 0))⟩])
  (.sq (.sq (.rg [⟨(some 19), none, .mv (.c (.int .i64 0))⟩])
  (.bl 2
  (.lp
  (.sq (.sq (.rg [⟨(some 45), none, .mv (.t 19)⟩,
    ⟨(some 46), none, .mv (.t 13)⟩,
    ⟨(some 47), none, .mv (.t 17)⟩,
    ⟨(some 48), none, .ia (.t 46) (.t 47) 1⟩,
    ⟨(some 49), none, .ld (.t 48) 1 false⟩,
    ⟨(some 50), none, .ib .lss (.t 45) (.t 49)⟩])
  (.cd (.t 50)
  .sk
  (.ex 2)))
  (.sq (.bl 3
  (.rg [⟨(some 53), none, .mv (.t 18)⟩,
    ⟨(some 54), none, .mv (.t 17)⟩,
    ⟨(some 55), none, .ib .mul (.c (.int .i64 10)) (.t 54)⟩,
    ⟨(some 56), none, .mv (.t 19)⟩,
    ⟨(some 57), none, .ib .add (.t 55) (.t 56)⟩,
    ⟨(some 58), none, .bs 3 1 [(.int .i64 0)] [(0, 1, (.t 57))]⟩,
    ⟨(some 59), none, .ap 27 3 1 8 [(.int .i64 0)] (.t 53) (.t 58)⟩,
    ⟨(some 18), none, .mv (.t 59)⟩]))
  (.rg [⟨(some 51), none, .mv (.t 19)⟩,
    ⟨(some 52), none, .ib .add (.t 51) (.c (.int .i64 1))⟩,
    ⟨(some 19), none, .mv (.t 52)⟩]))))))
  (.sq (.sq (.rg [⟨(some 60), none, .mv (.t 18)⟩,
    ⟨(some 61), none, .len (.t 60)⟩,
    ⟨(some 62), none, .ib .eql (.t 61) (.c (.int .i64 0))⟩])
  (.cd (.t 62)
  (.ex 1)
  .sk))
  (.sq (.rg [⟨(some 64), none, .mv (.t 14)⟩,
    ⟨(some 65), none, .mv (.t 12)⟩,
    ⟨(some 66), none, .mv (.t 17)⟩,
    ⟨(some 67), none, .ib .add (.t 65) (.t 66)⟩,
    ⟨(some 68), none, .mv (.t 18)⟩,
    ⟨(some 69), none, .ca 41 [(.t 64), (.t 67), (.t 68)]⟩,
    ⟨(some 63), none, .mv (.t 69)⟩,
    ⟨(some 70), none, .ex (.t 63) 0⟩,
    ⟨(some 71), none, .ex (.t 63) 1⟩,
    ⟨(some 20), none, .mv (.t 70)⟩,
    ⟨(some 21), none, .mv (.t 71)⟩])
  (.sq (.sq (.rg [⟨(some 72), none, .mv (.t 21)⟩,
    ⟨(some 73), none, .ib .neq (.t 72) (.c (.int .i64 0))⟩,
    ⟨(some 74), none, .mv (.t 73)⟩,
    ⟨(some 75), (some (74, false)), .mv (.t 20)⟩,
    ⟨(some 76), (some (74, false)), .len (.t 75)⟩,
    ⟨(some 77), (some (74, false)), .ib .neq (.t 76) (.c (.int .i64 0))⟩,
    ⟨(some 78), none, .pk (.t 74) (.c (.bool true)) (.t 77)⟩])
  (.cd (.t 78)
  (.sq (.rg [⟨(some 10), none, .mv (.c (.bool false))⟩])
  .rt)
  .sk))
  (.sq (.rg [⟨(some 79), none, .mv (.t 12)⟩,
    ⟨(some 80), none, .mv (.t 17)⟩,
    ⟨(some 81), none, .ib .add (.t 79) (.t 80)⟩,
    ⟨(some 82), none, .ib .add (.t 81) (.c (.int .i64 2))⟩,
    ⟨(some 83), none, .mv (.t 15)⟩,
    ⟨(some 84), none, .ib .leq (.t 82) (.t 83)⟩])
  (.cd (.t 84)
  (.rg [⟨(some 85), none, .mv (.t 16)⟩,
    ⟨(some 86), none, .mv (.t 18)⟩,
    ⟨(some 87), none, .ap 27 3 1 8 [(.int .i64 0)] (.t 85) (.t 86)⟩,
    ⟨(some 16), none, .mv (.t 87)⟩])
  .sk))))))))
  (.rg [⟨(some 43), none, .mv (.t 17)⟩,
    ⟨(some 44), none, .ib .add (.t 43) (.c (.int .i64 1))⟩,
    ⟨(some 17), none, .mv (.t 44)⟩]))))))
  (.sq (.rd [⟨0, 0, [11], ⟨(some 88), none, .mv (.t 11)⟩⟩,
    ⟨1, 1, [88], ⟨(some 89), none, .mv (.t 88)⟩⟩,
    ⟨2, 3, [14, 89], ⟨(some 90), (some (89, true)), .mv (.t 14)⟩⟩,
    ⟨3, 3, [15, 89], ⟨(some 91), (some (89, true)), .mv (.t 15)⟩⟩,
    ⟨4, 15, [90, 91, 89], ⟨(some 92), (some (89, true)), .ca 43 [(.t 90), (.t 91)]⟩⟩,
    ⟨5, 3, [16, 89], ⟨(some 93), (some (89, true)), .mv (.t 16)⟩⟩,
    ⟨6, 35, [93, 89], ⟨(some 94), (some (89, true)), .len (.t 93)⟩⟩,
    ⟨7, 99, [94, 89], ⟨(some 95), (some (89, true)), .ib .gtr (.t 94) (.c (.int .i64 0))⟩⟩,
    ⟨8, 255, [92, 95, 89], ⟨(some 96), (some (89, true)), .bb false (.t 92) (.t 95)⟩⟩,
    ⟨9, 511, [89, 96], ⟨(some 97), none, .pk (.t 89) (.t 96) (.c (.bool false))⟩⟩,
    ⟨10, 1023, [97], ⟨(some 98), none, .mv (.t 97)⟩⟩,
    ⟨11, 2047, [14, 98], ⟨(some 99), (some (98, true)), .mv (.t 14)⟩⟩,
    ⟨12, 2047, [15, 98], ⟨(some 100), (some (98, true)), .mv (.t 15)⟩⟩,
    ⟨13, 8191, [99, 100, 98], ⟨(some 101), (some (98, true)), .ca 40 [(.t 99), (.t 100)]⟩⟩,
    ⟨14, 2047, [16, 98], ⟨(some 102), (some (98, true)), .mv (.t 16)⟩⟩,
    ⟨15, 32767, [101, 102, 98], ⟨(some 103), (some (98, true)), .ca 24 [(.t 101), (.t 102)]⟩⟩,
    ⟨16, 65535, [98, 103], ⟨(some 104), none, .pk (.t 98) (.t 103) (.c (.bool false))⟩⟩,
    ⟨17, 131071, [104], ⟨(some 105), none, .mv (.t 104)⟩⟩,
    ⟨18, 262143, [14, 105], ⟨(some 106), (some (105, true)), .mv (.t 14)⟩⟩,
    ⟨19, 262143, [15, 105], ⟨(some 107), (some (105, true)), .mv (.t 15)⟩⟩,
    ⟨20, 1048575, [106, 107, 105], ⟨(some 108), (some (105, true)), .ca 43 [(.t 106), (.t 107)]⟩⟩,
    ⟨21, 2097151, [108, 105], ⟨(some 109), (some (105, true)), .nt (.t 108)⟩⟩,
    ⟨22, 4194303, [105, 109], ⟨(some 110), none, .pk (.t 105) (.t 109) (.c (.bool false))⟩⟩,
    ⟨23, 8388607, [110], ⟨(some 111), none, .mv (.t 110)⟩⟩,
    ⟨24, 16777215, [14, 111], ⟨(some 112), (some (111, true)), .mv (.t 14)⟩⟩,
    ⟨25, 33554431, [112, 111], ⟨(some 113), (some (111, true)), .ca 42 [(.t 112)]⟩⟩,
    ⟨26, 16777215, [13, 111], ⟨(some 114), (some (111, true)), .mv (.t 13)⟩⟩,
    ⟨27, 83886079, [114, 111], ⟨(some 115), (some (111, true)), .ia (.t 114) (.c (.int .i64 0)) 1⟩⟩,
    ⟨28, 218103807, [115, 111], ⟨(some 116), (some (111, true)), .ld (.t 115) 1 false⟩⟩,
    ⟨29, 16777215, [13, 111], ⟨(some 117), (some (111, true)), .mv (.t 13)⟩⟩,
    ⟨30, 553648127, [117, 111], ⟨(some 118), (some (111, true)), .ia (.t 117) (.c (.int .i64 1)) 1⟩⟩,
    ⟨31, 1627389951, [118, 111], ⟨(some 119), (some (111, true)), .ld (.t 118) 1 false⟩⟩,
    ⟨32, 4244635647, [116, 119, 111], ⟨(some 120), (some (111, true)), .ib .add (.t 116) (.t 119)⟩⟩,
    ⟨33, 16777215, [13, 111], ⟨(some 121), (some (111, true)), .mv (.t 13)⟩⟩,
    ⟨34, 8606711807, [121, 111], ⟨(some 122), (some (111, true)), .ia (.t 121) (.c (.int .i64 2)) 1⟩⟩,
    ⟨35, 25786580991, [122, 111], ⟨(some 123), (some (111, true)), .ld (.t 122) 1 false⟩⟩,
    ⟨36, 68669145087, [120, 123, 111], ⟨(some 124), (some (111, true)), .ib .add (.t 120) (.t 123)⟩⟩,
    ⟨37, 16777215, [16, 111], ⟨(some 125), (some (111, true)), .mv (.t 16)⟩⟩,
    ⟨38, 137455730687, [125, 111], ⟨(some 126), (some (111, true)), .len (.t 125)⟩⟩,
    ⟨39, 549705482239, [124, 126, 111], ⟨(some 127), (some (111, true)), .ib .sub (.t 124) (.t 126)⟩⟩,
    ⟨40, 1099511627775, [113, 127, 111], ⟨(some 128), (some (111, true)), .ib .eql (.t 113) (.t 127)⟩⟩,
    ⟨41, 2199023255551, [111, 128], ⟨(some 129), none, .pk (.t 111) (.t 128) (.c (.bool false))⟩⟩,
    ⟨42, 4398046511103, [129], ⟨(some 10), none, .mv (.t 129)⟩⟩])
  .rt)))))))))))⟩
theorem k10 : cF Try.prog Try.f10 = some c10 := by kernel_rfl
/-- rundale/rundalelaw7.LimboRefuses -/
def c11 : Fu := ⟨154, [.t 6],
  (.sq (.rg [⟨(some 6), none, .mv (.c (.bool false))⟩])
  (.sq (.rg [⟨(some 22), none, .ca 38 []⟩,
    ⟨(some 7), none, .mv (.t 22)⟩])
  (.sq (.sq (.rg [⟨(some 23), none, .mv (.t 7)⟩,
    ⟨(some 24), none, .nt (.t 23)⟩])
  (.cd (.t 24)
  (.sq (.rg [⟨(some 6), none, .mv (.c (.bool false))⟩])
  .rt)
  .sk))
  (.sq (.rg [⟨(some 25), none, .mv (.t 0)⟩,
    ⟨(some 26), none, .ca 14 [(.t 25), (.c (.int .i64 1000))]⟩,
    ⟨(some 27), none, .ib .add (.c (.int .i64 1)) (.t 26)⟩,
    ⟨(some 8), none, .mv (.t 27)⟩])
  (.sq (.rg [⟨(some 28), none, .ca 39 []⟩,
    ⟨(some 9), none, .mv (.t 28)⟩])
  (.sq (.sq (.rg [⟨(some 29), none, .mv (.t 9)⟩,
    ⟨(some 30), none, .en 0 false (.t 29) (.c (.pointer none))⟩])
  (.cd (.t 30)
  (.sq (.rg [⟨(some 6), none, .mv (.c (.bool false))⟩])
  .rt)
  .sk))
  (.sq (.rg [⟨(some 32), none, .mv (.t 9)⟩,
    ⟨(some 33), none, .mv (.t 8)⟩,
    ⟨(some 34), none, .mv (.t 2)⟩,
    ⟨(some 35), none, .bs 3 1 [(.int .i64 0)] [(0, 1, (.t 34))]⟩,
    ⟨(some 36), none, .ca 41 [(.t 32), (.t 33), (.t 35)]⟩,
    ⟨(some 31), none, .mv (.t 36)⟩,
    ⟨(some 37), none, .ex (.t 31) 0⟩,
    ⟨(some 38), none, .ex (.t 31) 1⟩,
    ⟨(some 10), none, .mv (.t 37)⟩,
    ⟨(some 11), none, .mv (.t 38)⟩])
  (.sq (.rg [⟨(some 40), none, .mv (.t 9)⟩,
    ⟨(some 41), none, .mv (.t 8)⟩,
    ⟨(some 42), none, .ib .sub (.t 41) (.c (.int .i64 1))⟩,
    ⟨(some 43), none, .mv (.t 1)⟩,
    ⟨(some 44), none, .mv (.t 8)⟩,
    ⟨(some 45), none, .ca 14 [(.t 43), (.t 44)]⟩,
    ⟨(some 46), none, .ib .sub (.t 42) (.t 45)⟩,
    ⟨(some 47), none, .mv (.t 2)⟩,
    ⟨(some 48), none, .bs 3 1 [(.int .i64 0)] [(0, 1, (.t 47))]⟩,
    ⟨(some 49), none, .ca 41 [(.t 40), (.t 46), (.t 48)]⟩,
    ⟨(some 39), none, .mv (.t 49)⟩,
    ⟨(some 50), none, .ex (.t 39) 0⟩,
    ⟨(some 51), none, .ex (.t 39) 1⟩,
    ⟨(some 12), none, .mv (.t 50)⟩,
    ⟨(some 13), none, .mv (.t 51)⟩])
  (.sq (.rg [⟨(some 53), none, .mv (.t 9)⟩,
    ⟨(some 54), none, .mv (.t 8)⟩,
    ⟨(some 55), none, .ib .add (.t 54) (.c (.int .i64 3))⟩,
    ⟨(some 56), none, .ca 41 [(.t 53), (.t 55), (.c (.slice none 0 0))]⟩,
    ⟨(some 52), none, .mv (.t 56)⟩,
    ⟨(some 57), none, .ex (.t 52) 0⟩,
    ⟨(some 58), none, .ex (.t 52) 1⟩,
    ⟨(some 14), none, .mv (.t 57)⟩,
    ⟨(some 15), none, .mv (.t 58)⟩])
  (.sq (.rg [⟨(some 60), none, .mv (.t 9)⟩,
    ⟨(some 61), none, .mv (.t 1)⟩,
    ⟨(some 62), none, .ca 14 [(.t 61), (.c (.int .i64 1000))]⟩,
    ⟨(some 63), none, .ib .sub (.c (.int .i64 (-1))) (.t 62)⟩,
    ⟨(some 64), none, .mv (.t 2)⟩,
    ⟨(some 65), none, .bs 3 1 [(.int .i64 0)] [(0, 1, (.t 64))]⟩,
    ⟨(some 66), none, .ca 41 [(.t 60), (.t 63), (.t 65)]⟩,
    ⟨(some 59), none, .mv (.t 66)⟩,
    ⟨(some 67), none, .ex (.t 59) 0⟩,
    ⟨(some 68), none, .ex (.t 59) 1⟩,
    ⟨(some 16), none, .mv (.t 67)⟩,
    ⟨(some 17), none, .mv (.t 68)⟩])
  (.sq (.rg [⟨(some 70), none, .mv (.t 9)⟩,
    ⟨(some 71), none, .mv (.t 1)⟩,
    ⟨(some 72), none, .ca 14 [(.t 71), (.c (.int .i64 1000))]⟩,
    ⟨(some 73), none, .ib .add (.c (.int .i64 4611686018427387904)) (.t 72)⟩,
    ⟨(some 74), none, .mv (.t 2)⟩,
    ⟨(some 75), none, .bs 3 1 [(.int .i64 0)] [(0, 1, (.t 74))]⟩,
    ⟨(some 76), none, .ca 41 [(.t 70), (.t 73), (.t 75)]⟩,
    ⟨(some 69), none, .mv (.t 76)⟩,
    ⟨(some 77), none, .ex (.t 69) 0⟩,
    ⟨(some 78), none, .ex (.t 69) 1⟩,
    ⟨(some 18), none, .mv (.t 77)⟩,
    ⟨(some 19), none, .mv (.t 78)⟩])
  (.sq (.rg [⟨(some 80), none, .mv (.t 9)⟩,
    ⟨(some 81), none, .mv (.t 8)⟩,
    ⟨(some 82), none, .ib .rem (.t 81) (.c (.int .i64 3))⟩,
    ⟨(some 83), none, .ca 44 [(.t 80), (.t 82)]⟩,
    ⟨(some 79), none, .mv (.t 83)⟩,
    ⟨(some 84), none, .ex (.t 79) 0⟩,
    ⟨(some 85), none, .ex (.t 79) 1⟩,
    ⟨(some 20), none, .mv (.t 84)⟩,
    ⟨(some 21), none, .mv (.t 85)⟩])
  (.sq (.rg [⟨(some 86), none, .mv (.t 7)⟩,
    ⟨(some 87), none, .mv (.t 86)⟩,
    ⟨(some 88), (some (87, true)), .mv (.t 11)⟩,
    ⟨(some 89), (some (87, true)), .ib .eql (.t 88) (.c (.int .i64 0))⟩,
    ⟨(some 90), none, .pk (.t 87) (.t 89) (.c (.bool false))⟩,
    ⟨(some 91), none, .mv (.t 90)⟩,
    ⟨(some 92), (some (91, true)), .mv (.t 10)⟩,
    ⟨(some 93), (some (91, true)), .len (.t 92)⟩,
    ⟨(some 94), (some (91, true)), .ib .eql (.t 93) (.c (.int .i64 0))⟩,
    ⟨(some 95), none, .pk (.t 91) (.t 94) (.c (.bool false))⟩,
    ⟨(some 96), none, .mv (.t 95)⟩,
    ⟨(some 97), (some (96, true)), .mv (.t 13)⟩,
    ⟨(some 98), (some (96, true)), .ib .eql (.t 97) (.c (.int .i64 1))⟩,
    ⟨(some 99), none, .pk (.t 96) (.t 98) (.c (.bool false))⟩,
    ⟨(some 100), none, .mv (.t 99)⟩,
    ⟨(some 101), (some (100, true)), .mv (.t 12)⟩,
    ⟨(some 102), (some (100, true)), .len (.t 101)⟩,
    ⟨(some 103), (some (100, true)), .ib .eql (.t 102) (.c (.int .i64 0))⟩,
    ⟨(some 104), none, .pk (.t 100) (.t 103) (.c (.bool false))⟩,
    ⟨(some 105), none, .mv (.t 104)⟩,
    ⟨(some 106), (some (105, true)), .mv (.t 15)⟩,
    ⟨(some 107), (some (105, true)), .ib .eql (.t 106) (.c (.int .i64 1))⟩,
    ⟨(some 108), none, .pk (.t 105) (.t 107) (.c (.bool false))⟩,
    ⟨(some 109), none, .mv (.t 108)⟩,
    ⟨(some 110), (some (109, true)), .mv (.t 14)⟩,
    ⟨(some 111), (some (109, true)), .len (.t 110)⟩,
    ⟨(some 112), (some (109, true)), .ib .eql (.t 111) (.c (.int .i64 0))⟩,
    ⟨(some 113), none, .pk (.t 109) (.t 112) (.c (.bool false))⟩,
    ⟨(some 114), none, .mv (.t 113)⟩,
    ⟨(some 115), (some (114, true)), .mv (.t 17)⟩,
    ⟨(some 116), (some (114, true)), .ib .eql (.t 115) (.c (.int .i64 1))⟩,
    ⟨(some 117), none, .pk (.t 114) (.t 116) (.c (.bool false))⟩,
    ⟨(some 118), none, .mv (.t 117)⟩,
    ⟨(some 119), (some (118, true)), .mv (.t 16)⟩,
    ⟨(some 120), (some (118, true)), .len (.t 119)⟩,
    ⟨(some 121), (some (118, true)), .ib .eql (.t 120) (.c (.int .i64 0))⟩,
    ⟨(some 122), none, .pk (.t 118) (.t 121) (.c (.bool false))⟩,
    ⟨(some 123), none, .mv (.t 122)⟩,
    ⟨(some 124), (some (123, true)), .mv (.t 19)⟩,
    ⟨(some 125), (some (123, true)), .ib .eql (.t 124) (.c (.int .i64 1))⟩,
    ⟨(some 126), none, .pk (.t 123) (.t 125) (.c (.bool false))⟩,
    ⟨(some 127), none, .mv (.t 126)⟩,
    ⟨(some 128), (some (127, true)), .mv (.t 18)⟩,
    ⟨(some 129), (some (127, true)), .len (.t 128)⟩,
    ⟨(some 130), (some (127, true)), .ib .eql (.t 129) (.c (.int .i64 0))⟩,
    ⟨(some 131), none, .pk (.t 127) (.t 130) (.c (.bool false))⟩,
    ⟨(some 132), none, .mv (.t 131)⟩,
    ⟨(some 133), (some (132, true)), .mv (.t 20)⟩,
    ⟨(some 134), (some (132, true)), .mv (.t 8)⟩,
    ⟨(some 135), (some (132, true)), .ib .eql (.t 133) (.t 134)⟩,
    ⟨(some 136), none, .pk (.t 132) (.t 135) (.c (.bool false))⟩,
    ⟨(some 137), none, .mv (.t 136)⟩,
    ⟨(some 138), (some (137, true)), .mv (.t 21)⟩,
    ⟨(some 139), (some (137, true)), .len (.t 138)⟩,
    ⟨(some 140), (some (137, true)), .ib .eql (.t 139) (.c (.int .i64 1))⟩,
    ⟨(some 141), none, .pk (.t 137) (.t 140) (.c (.bool false))⟩,
    ⟨(some 142), none, .mv (.t 141)⟩,
    ⟨(some 143), (some (142, true)), .mv (.t 21)⟩,
    ⟨(some 144), (some (142, true)), .ia (.t 143) (.c (.int .i64 0)) 1⟩,
    ⟨(some 145), (some (142, true)), .ld (.t 144) 1 false⟩,
    ⟨(some 146), (some (142, true)), .mv (.t 2)⟩,
    ⟨(some 147), (some (142, true)), .ib .eql (.t 145) (.t 146)⟩,
    ⟨(some 148), none, .pk (.t 142) (.t 147) (.c (.bool false))⟩,
    ⟨(some 149), none, .mv (.t 148)⟩,
    ⟨(some 150), (some (149, true)), .mv (.t 9)⟩,
    ⟨(some 151), (some (149, true)), .ca 42 [(.t 150)]⟩,
    ⟨(some 152), (some (149, true)), .ib .eql (.t 151) (.c (.int .i64 1))⟩,
    ⟨(some 153), none, .pk (.t 149) (.t 152) (.c (.bool false))⟩,
    ⟨(some 6), none, .mv (.t 153)⟩])
  .rt)))))))))))))⟩
theorem k11 : cF Try.prog Try.f11 = some c11 := by kernel_rfl
/-- rundale/rundalelaw7.LimboPlays -/
def c12 : Fu := ⟨134, [.t 2],
  (.sq (.rg [⟨(some 2), none, .mv (.c (.bool false))⟩])
  (.sq (.rg [⟨(some 17), none, .ca 38 []⟩,
    ⟨(some 3), none, .mv (.t 17)⟩])
  (.sq (.sq (.rg [⟨(some 18), none, .mv (.t 3)⟩,
    ⟨(some 19), none, .nt (.t 18)⟩])
  (.cd (.t 19)
  (.sq (.rg [⟨(some 2), none, .mv (.c (.bool false))⟩])
  .rt)
  .sk))
  (.sq (.sq (.rg [⟨(some 20), none, .mv (.t 0)⟩,
    ⟨(some 21), none, .len (.t 20)⟩,
    ⟨(some 22), none, .ib .gtr (.t 21) (.c (.int .i64 60))⟩])
  (.cd (.t 22)
  (.sq (.rg [⟨(some 23), none, .mv (.t 3)⟩,
    ⟨(some 2), none, .mv (.t 23)⟩])
  .rt)
  .sk))
  (.sq (.rg [⟨(some 24), none, .ca 39 []⟩,
    ⟨(some 4), none, .mv (.t 24)⟩])
  (.sq (.rg [⟨(some 25), none, .ca 45 []⟩,
    ⟨(some 5), none, .mv (.t 25)⟩])
  (.sq (.sq (.rg [⟨(some 26), none, .mv (.t 4)⟩,
    ⟨(some 27), none, .en 0 false (.t 26) (.c (.pointer none))⟩])
  (.cd (.t 27)
  (.sq (.rg [⟨(some 2), none, .mv (.c (.bool false))⟩])
  .rt)
  .sk))
  (.sq (.sq (.rg [⟨(some 6), none, .mv (.c (.int .i64 0))⟩])
  (.bl 0
  (.lp
  (.sq (.sq (.rg [⟨(some 28), none, .mv (.t 6)⟩,
    ⟨(some 29), none, .mv (.t 0)⟩,
    ⟨(some 30), none, .len (.t 29)⟩,
    ⟨(some 31), none, .ib .lss (.t 28) (.t 30)⟩])
  (.cd (.t 31)
  .sk
  (.ex 0)))
  (.sq (.bl 1
  (.sq (.rg [⟨(some 34), none, .mv (.t 0)⟩,
    ⟨(some 35), none, .mv (.t 6)⟩,
    ⟨(some 36), none, .ia (.t 34) (.t 35) 3⟩,
    ⟨(some 37), none, .ld (.t 36) 3 true⟩,
    ⟨(some 7), none, .al 69 [(.int .i64 0), (.int .i64 0), (.slice none 0 0)]⟩,
    ⟨none, none, .st (.t 7) (.t 37) 3⟩])
  (.sq (.sq (.rg [⟨(some 38), none, .fa (.t 7) 2⟩,
    ⟨(some 39), none, .ld (.t 38) 1 false⟩,
    ⟨(some 40), none, .len (.t 39)⟩,
    ⟨(some 41), none, .ib .gtr (.t 40) (.c (.int .i64 40))⟩])
  (.cd (.t 41)
  (.sq (.rg [⟨(some 42), none, .mv (.t 3)⟩,
    ⟨(some 2), none, .mv (.t 42)⟩])
  .rt)
  .sk))
  (.sq (.sq (.rd [⟨0, 0, [4], ⟨(some 43), none, .mv (.t 4)⟩⟩,
    ⟨1, 0, [7], ⟨(some 44), none, .fa (.t 7) 1⟩⟩,
    ⟨2, 2, [44], ⟨(some 45), none, .ld (.t 44) 1 false⟩⟩,
    ⟨3, 7, [43, 45], ⟨(some 46), none, .ca 43 [(.t 43), (.t 45)]⟩⟩,
    ⟨4, 0, [5], ⟨(some 47), none, .mv (.t 5)⟩⟩,
    ⟨5, 0, [7], ⟨(some 48), none, .fa (.t 7) 1⟩⟩,
    ⟨6, 32, [48], ⟨(some 49), none, .ld (.t 48) 1 false⟩⟩,
    ⟨7, 127, [47, 49], ⟨(some 50), none, .ca 46 [(.t 47), (.t 49)]⟩⟩,
    ⟨8, 255, [46, 50], ⟨(some 51), none, .bb true (.t 46) (.t 50)⟩⟩])
  (.cd (.t 51)
  (.sq (.rg [⟨(some 2), none, .mv (.c (.bool false))⟩])
  .rt)
  .sk))
  (.sq (.sq (.rg [⟨(some 52), none, .fa (.t 7) 0⟩,
    ⟨(some 53), none, .ld (.t 52) 1 false⟩,
    ⟨(some 54), none, .ca 14 [(.t 53), (.c (.int .i64 4))]⟩,
    ⟨(some 55), none, .ib .lss (.t 54) (.c (.int .i64 3))⟩])
  (.cd (.t 55)
  (.sq (.rd [⟨0, 0, [4], ⟨(some 57), none, .mv (.t 4)⟩⟩,
    ⟨1, 0, [7], ⟨(some 58), none, .fa (.t 7) 1⟩⟩,
    ⟨2, 2, [58], ⟨(some 59), none, .ld (.t 58) 1 false⟩⟩,
    ⟨3, 0, [7], ⟨(some 60), none, .fa (.t 7) 2⟩⟩,
    ⟨4, 8, [60], ⟨(some 61), none, .ld (.t 60) 1 false⟩⟩,
    ⟨5, 24, [61], ⟨(some 62), none, .ap 27 3 1 8 [(.int .i64 0)] (.c (.slice none 0 0)) (.t 61)⟩⟩,
    ⟨6, 63, [57, 59, 62], ⟨(some 63), none, .ca 41 [(.t 57), (.t 59), (.t 62)]⟩⟩,
    ⟨7, 127, [63], ⟨(some 56), none, .mv (.t 63)⟩⟩,
    ⟨8, 255, [56], ⟨(some 64), none, .ex (.t 56) 0⟩⟩,
    ⟨9, 255, [56], ⟨(some 65), none, .ex (.t 56) 1⟩⟩,
    ⟨10, 511, [64], ⟨(some 8), none, .mv (.t 64)⟩⟩,
    ⟨11, 2047, [65], ⟨(some 9), none, .mv (.t 65)⟩⟩])
  (.sq (.rg [⟨(some 67), none, .mv (.t 5)⟩,
    ⟨(some 68), none, .fa (.t 7) 1⟩,
    ⟨(some 69), none, .ld (.t 68) 1 false⟩,
    ⟨(some 70), none, .fa (.t 7) 2⟩,
    ⟨(some 71), none, .ld (.t 70) 1 false⟩,
    ⟨(some 72), none, .ca 47 [(.t 67), (.t 69), (.t 71)]⟩,
    ⟨(some 66), none, .mv (.t 72)⟩,
    ⟨(some 73), none, .ex (.t 66) 0⟩,
    ⟨(some 74), none, .ex (.t 66) 1⟩,
    ⟨(some 10), none, .mv (.t 73)⟩,
    ⟨(some 11), none, .mv (.t 74)⟩])
  (.sq (.rg [⟨(some 75), none, .mv (.t 9)⟩,
    ⟨(some 76), none, .ib .eql (.t 75) (.c (.int .i64 0))⟩,
    ⟨(some 77), none, .mv (.t 11)⟩,
    ⟨(some 78), none, .bb true (.t 76) (.t 77)⟩,
    ⟨(some 79), none, .mv (.t 78)⟩,
    ⟨(some 80), (some (79, false)), .mv (.t 11)⟩,
    ⟨(some 81), (some (79, false)), .nt (.t 80)⟩,
    ⟨(some 82), (some (79, false)), .mv (.t 81)⟩,
    ⟨(some 83), (some (82, true)), .mv (.t 9)⟩,
    ⟨(some 84), (some (82, true)), .ib .neq (.t 83) (.c (.int .i64 1))⟩,
    ⟨(some 85), (some (79, false)), .pk (.t 82) (.t 84) (.c (.bool false))⟩,
    ⟨(some 86), none, .pk (.t 79) (.c (.bool true)) (.t 85)⟩,
    ⟨(some 87), none, .mv (.t 86)⟩,
    ⟨(some 88), (some (87, false)), .mv (.t 8)⟩,
    ⟨(some 89), (some (87, false)), .mv (.t 10)⟩,
    ⟨(some 90), (some (87, false)), .ca 24 [(.t 88), (.t 89)]⟩,
    ⟨(some 91), (some (87, false)), .nt (.t 90)⟩,
    ⟨(some 92), none, .pk (.t 87) (.c (.bool true)) (.t 91)⟩])
  (.cd (.t 92)
  (.sq (.rg [⟨(some 2), none, .mv (.c (.bool false))⟩])
  .rt)
  .sk))))
  (.sq (.rd [⟨0, 0, [4], ⟨(some 93), none, .mv (.t 4)⟩⟩,
    ⟨1, 0, [7], ⟨(some 94), none, .fa (.t 7) 1⟩⟩,
    ⟨2, 2, [94], ⟨(some 95), none, .ld (.t 94) 1 false⟩⟩,
    ⟨3, 7, [93, 95], ⟨(some 96), none, .ca 40 [(.t 93), (.t 95)]⟩⟩,
    ⟨4, 0, [5], ⟨(some 97), none, .mv (.t 5)⟩⟩,
    ⟨5, 0, [7], ⟨(some 98), none, .fa (.t 7) 1⟩⟩,
    ⟨6, 32, [98], ⟨(some 99), none, .ld (.t 98) 1 false⟩⟩,
    ⟨7, 127, [97, 99], ⟨(some 100), none, .ca 48 [(.t 97), (.t 99)]⟩⟩,
    ⟨8, 255, [96, 100], ⟨(some 101), none, .ca 24 [(.t 96), (.t 100)]⟩⟩,
    ⟨9, 511, [101], ⟨(some 102), none, .nt (.t 101)⟩⟩])
  (.cd (.t 102)
  (.sq (.rg [⟨(some 2), none, .mv (.c (.bool false))⟩])
  .rt)
  .sk))))
  (.sq (.sq (.rg [⟨(some 12), none, .mv (.c (.int .i64 (-1)))⟩])
  (.bl 2
  (.lp
  (.sq (.sq (.rg [⟨(some 103), none, .mv (.t 12)⟩,
    ⟨(some 104), none, .ib .lss (.t 103) (.c (.int .i64 4))⟩])
  (.cd (.t 104)
  .sk
  (.ex 2)))
  (.sq (.bl 3
  (.sq (.rg [⟨(some 108), none, .mv (.t 4)⟩,
    ⟨(some 109), none, .mv (.t 12)⟩,
    ⟨(some 110), none, .ca 44 [(.t 108), (.t 109)]⟩,
    ⟨(some 107), none, .mv (.t 110)⟩,
    ⟨(some 111), none, .ex (.t 107) 0⟩,
    ⟨(some 112), none, .ex (.t 107) 1⟩,
    ⟨(some 13), none, .mv (.t 111)⟩,
    ⟨(some 14), none, .mv (.t 112)⟩])
  (.sq (.rg [⟨(some 114), none, .mv (.t 5)⟩,
    ⟨(some 115), none, .mv (.t 12)⟩,
    ⟨(some 116), none, .ca 49 [(.t 114), (.t 115)]⟩,
    ⟨(some 113), none, .mv (.t 116)⟩,
    ⟨(some 117), none, .ex (.t 113) 0⟩,
    ⟨(some 118), none, .ex (.t 113) 1⟩,
    ⟨(some 15), none, .mv (.t 117)⟩,
    ⟨(some 16), none, .mv (.t 118)⟩])
  (.sq (.rg [⟨(some 119), none, .mv (.t 13)⟩,
    ⟨(some 120), none, .mv (.t 15)⟩,
    ⟨(some 121), none, .ib .neq (.t 119) (.t 120)⟩,
    ⟨(some 122), none, .mv (.t 121)⟩,
    ⟨(some 123), (some (122, false)), .mv (.t 14)⟩,
    ⟨(some 124), (some (122, false)), .mv (.t 16)⟩,
    ⟨(some 125), (some (122, false)), .ca 24 [(.t 123), (.t 124)]⟩,
    ⟨(some 126), (some (122, false)), .nt (.t 125)⟩,
    ⟨(some 127), none, .pk (.t 122) (.c (.bool true)) (.t 126)⟩])
  (.cd (.t 127)
  (.sq (.rg [⟨(some 2), none, .mv (.c (.bool false))⟩])
  .rt)
  .sk)))))
  (.rg [⟨(some 105), none, .mv (.t 12)⟩,
    ⟨(some 106), none, .ib .add (.t 105) (.c (.int .i64 1))⟩,
    ⟨(some 12), none, .mv (.t 106)⟩]))))))
  (.sq (.rg [⟨(some 128), none, .mv (.t 4)⟩,
    ⟨(some 129), none, .ca 42 [(.t 128)]⟩,
    ⟨(some 130), none, .mv (.t 5)⟩,
    ⟨(some 131), none, .ca 50 [(.t 130)]⟩,
    ⟨(some 132), none, .ib .neq (.t 129) (.t 131)⟩])
  (.cd (.t 132)
  (.sq (.rg [⟨(some 2), none, .mv (.c (.bool false))⟩])
  .rt)
  .sk))))))))
  (.rg [⟨(some 32), none, .mv (.t 6)⟩,
    ⟨(some 33), none, .ib .add (.t 32) (.c (.int .i64 1))⟩,
    ⟨(some 6), none, .mv (.t 33)⟩]))))))
  (.sq (.rg [⟨(some 133), none, .mv (.t 3)⟩,
    ⟨(some 2), none, .mv (.t 133)⟩])
  .rt)))))))))⟩
theorem k12 : cF Try.prog Try.f12 = some c12 := by kernel_rfl
/-- rundale/rundalelaw8.first -/
def c13 : Fu := ⟨39, [.t 0],
  (.sq (.rg [⟨(some 0), none, .mv (.c (.bool false))⟩])
  (.sq (.rg [⟨(some 5), none, .ca 15 [(.c (.int .i64 2))]⟩,
    ⟨(some 1), none, .mv (.t 5)⟩])
  (.sq (.sq (.rg [⟨(some 6), none, .mv (.t 1)⟩,
    ⟨(some 7), none, .en 0 false (.t 6) (.c (.pointer none))⟩])
  (.cd (.t 7)
  (.sq (.rg [⟨(some 0), none, .mv (.c (.bool false))⟩])
  .rt)
  .sk))
  (.sq (.rg [⟨(some 8), none, .mv (.t 1)⟩,
    ⟨(some 9), none, .bs 3 3 [(.int .i64 0), (.int .i64 0), (.int .i64 0)] [(0, 1, (.c (.int .i64 1))), (1, 1, (.c (.int .i64 2))), (2, 1, (.c (.int .i64 3)))]⟩,
    ⟨(some 10), none, .ca 16 [(.t 8), (.t 9)]⟩])
  (.sq (.rg [⟨(some 11), none, .mv (.t 1)⟩,
    ⟨(some 12), none, .ca 17 [(.t 11)]⟩,
    ⟨(some 2), none, .mv (.t 12)⟩])
  (.sq (.rg [⟨(some 14), none, .mv (.t 1)⟩,
    ⟨(some 15), none, .ca 19 [(.t 14)]⟩,
    ⟨(some 13), none, .mv (.t 15)⟩,
    ⟨(some 16), none, .ex (.t 13) 0⟩,
    ⟨(some 17), none, .ex (.t 13) 1⟩,
    ⟨(some 3), none, .mv (.t 16)⟩,
    ⟨(some 4), none, .mv (.t 17)⟩])
  (.sq (.rg [⟨(some 18), none, .mv (.t 2)⟩,
    ⟨(some 19), none, .len (.t 18)⟩,
    ⟨(some 20), none, .ib .eql (.t 19) (.c (.int .i64 1))⟩,
    ⟨(some 21), none, .mv (.t 20)⟩,
    ⟨(some 22), (some (21, true)), .mv (.t 2)⟩,
    ⟨(some 23), (some (21, true)), .ia (.t 22) (.c (.int .i64 0)) 1⟩,
    ⟨(some 24), (some (21, true)), .ld (.t 23) 1 false⟩,
    ⟨(some 25), (some (21, true)), .ib .eql (.t 24) (.c (.int .i64 1))⟩,
    ⟨(some 26), none, .pk (.t 21) (.t 25) (.c (.bool false))⟩,
    ⟨(some 27), none, .mv (.t 26)⟩,
    ⟨(some 28), (some (27, true)), .mv (.t 3)⟩,
    ⟨(some 29), (some (27, true)), .ib .eql (.t 28) (.c (.int .i64 3))⟩,
    ⟨(some 30), none, .pk (.t 27) (.t 29) (.c (.bool false))⟩,
    ⟨(some 31), none, .mv (.t 30)⟩,
    ⟨(some 32), (some (31, true)), .mv (.t 4)⟩,
    ⟨(some 33), none, .pk (.t 31) (.t 32) (.c (.bool false))⟩,
    ⟨(some 34), none, .mv (.t 33)⟩,
    ⟨(some 35), (some (34, true)), .mv (.t 1)⟩,
    ⟨(some 36), (some (34, true)), .ca 18 [(.t 35)]⟩,
    ⟨(some 37), (some (34, true)), .ib .eql (.t 36) (.c (.int .i64 1))⟩,
    ⟨(some 38), none, .pk (.t 34) (.t 37) (.c (.bool false))⟩,
    ⟨(some 0), none, .mv (.t 38)⟩])
  .rt)))))))⟩
theorem k13 : cF Try.prog Try.f13 = some c13 := by kernel_rfl
/-- rundale/rundalemake.Number -/
def c14 : Fu := ⟨15, [.t 4],
  (.sq (.rg [⟨(some 4), none, .mv (.c (.int .i64 0))⟩])
  (.sq (.rg [⟨(some 6), none, .mv (.t 0)⟩,
    ⟨(some 7), none, .mv (.t 1)⟩,
    ⟨(some 8), none, .ib .rem (.t 6) (.t 7)⟩,
    ⟨(some 5), none, .mv (.t 8)⟩])
  (.sq (.sq (.rg [⟨(some 9), none, .mv (.t 5)⟩,
    ⟨(some 10), none, .ib .lss (.t 9) (.c (.int .i64 0))⟩])
  (.cd (.t 10)
  (.rg [⟨(some 11), none, .mv (.t 5)⟩,
    ⟨(some 12), none, .mv (.t 1)⟩,
    ⟨(some 13), none, .ib .add (.t 11) (.t 12)⟩,
    ⟨(some 5), none, .mv (.t 13)⟩])
  .sk))
  (.sq (.rg [⟨(some 14), none, .mv (.t 5)⟩,
    ⟨(some 4), none, .mv (.t 14)⟩])
  .rt))))⟩
theorem k14 : cF Try.prog Try.f14 = some c14 := by kernel_rfl
/-- rundale/stash.New -/
def c15 : Fu := ⟨8, [.t 2],
  (.sq (.rg [⟨(some 2), none, .mv (.c (.pointer none))⟩])
  (.sq (.rg [⟨(some 3), none, .mv (.t 0)⟩,
    ⟨(some 4), none, .mm true (.t 3) (.c (.int .i64 0))⟩,
    ⟨(some 5), none, .mm false (.t 4) (.c (.int .i64 64))⟩,
    ⟨(some 6), none, .bd [(.int .i64 0), (.slice none 0 0)] [(0, 1, (.t 5))]⟩,
    ⟨(some 7), none, .bx 74 (.t 6)⟩,
    ⟨(some 2), none, .mv (.t 7)⟩])
  .rt))⟩
theorem k15 : cF Try.prog Try.f15 = some c15 := by kernel_rfl
/-- (*rundale/stash.Stash).Give -/
def c16 : Fu := ⟨13, [],
  (.rg [⟨(some 4), none, .mv (.t 0)⟩,
    ⟨(some 5), none, .mv (.t 0)⟩,
    ⟨(some 6), none, .nc (.t 5)⟩,
    ⟨(some 7), none, .fa (.t 6) 1⟩,
    ⟨(some 8), none, .ld (.t 7) 1 false⟩,
    ⟨(some 9), none, .mv (.t 1)⟩,
    ⟨(some 10), none, .ap 27 3 1 8 [(.int .i64 0)] (.t 8) (.t 9)⟩,
    ⟨(some 11), none, .nc (.t 4)⟩,
    ⟨(some 12), none, .fa (.t 11) 1⟩,
    ⟨none, none, .st (.t 12) (.t 10) 1⟩])⟩
theorem k16 : cF Try.prog Try.f16 = some c16 := by kernel_rfl
/-- (*rundale/stash.Stash).Over -/
def c17 : Fu := ⟨16, [.t 2],
  (.sq (.rg [⟨(some 2), none, .mv (.c (.slice none 0 0))⟩])
  (.sq (.rd [⟨0, 0, [0], ⟨(some 3), none, .mv (.t 0)⟩⟩,
    ⟨1, 0, [0], ⟨(some 4), none, .mv (.t 0)⟩⟩,
    ⟨2, 2, [4], ⟨(some 5), none, .nc (.t 4)⟩⟩,
    ⟨3, 6, [5], ⟨(some 6), none, .fa (.t 5) 1⟩⟩,
    ⟨4, 14, [6], ⟨(some 7), none, .ld (.t 6) 1 false⟩⟩,
    ⟨5, 30, [7], ⟨(some 8), none, .len (.t 7)⟩⟩,
    ⟨6, 0, [0], ⟨(some 9), none, .mv (.t 0)⟩⟩,
    ⟨7, 64, [9], ⟨(some 10), none, .nc (.t 9)⟩⟩,
    ⟨8, 192, [10], ⟨(some 11), none, .fa (.t 10) 0⟩⟩,
    ⟨9, 448, [11], ⟨(some 12), none, .ld (.t 11) 1 false⟩⟩,
    ⟨10, 1022, [8, 12], ⟨(some 13), none, .ib .sub (.t 8) (.t 12)⟩⟩,
    ⟨11, 2046, [13], ⟨(some 14), none, .mm true (.t 13) (.c (.int .i64 0))⟩⟩,
    ⟨12, 4095, [3, 14], ⟨(some 15), none, .ca 51 [(.t 3), (.t 14)]⟩⟩,
    ⟨13, 8191, [15], ⟨(some 2), none, .mv (.t 15)⟩⟩])
  .rt))⟩
theorem k17 : cF Try.prog Try.f17 = some c17 := by kernel_rfl
/-- (*rundale/stash.Stash).Len -/
def c18 : Fu := ⟨8, [.t 2],
  (.sq (.rg [⟨(some 2), none, .mv (.c (.int .i64 0))⟩])
  (.sq (.rg [⟨(some 3), none, .mv (.t 0)⟩,
    ⟨(some 4), none, .nc (.t 3)⟩,
    ⟨(some 5), none, .fa (.t 4) 1⟩,
    ⟨(some 6), none, .ld (.t 5) 1 false⟩,
    ⟨(some 7), none, .len (.t 6)⟩,
    ⟨(some 2), none, .mv (.t 7)⟩])
  .rt))⟩
theorem k18 : cF Try.prog Try.f18 = some c18 := by kernel_rfl
/-- (*rundale/stash.Stash).Take -/
def c19 : Fu := ⟨35, [.t 2, .t 3],
  (.sq (.rg [⟨(some 2), none, .mv (.c (.int .i64 0))⟩,
    ⟨(some 3), none, .mv (.c (.bool false))⟩])
  (.sq (.sq (.rg [⟨(some 6), none, .mv (.t 0)⟩,
    ⟨(some 7), none, .nc (.t 6)⟩,
    ⟨(some 8), none, .fa (.t 7) 1⟩,
    ⟨(some 9), none, .ld (.t 8) 1 false⟩,
    ⟨(some 10), none, .len (.t 9)⟩,
    ⟨(some 11), none, .ib .eql (.t 10) (.c (.int .i64 0))⟩])
  (.cd (.t 11)
  (.sq (.rg [⟨(some 2), none, .mv (.c (.int .i64 0))⟩,
    ⟨(some 3), none, .mv (.c (.bool false))⟩])
  .rt)
  .sk))
  (.sq (.rg [⟨(some 12), none, .mv (.t 0)⟩,
    ⟨(some 13), none, .nc (.t 12)⟩,
    ⟨(some 14), none, .fa (.t 13) 1⟩,
    ⟨(some 15), none, .ld (.t 14) 1 false⟩,
    ⟨(some 16), none, .len (.t 15)⟩,
    ⟨(some 17), none, .ib .sub (.t 16) (.c (.int .i64 1))⟩,
    ⟨(some 4), none, .mv (.t 17)⟩])
  (.sq (.rg [⟨(some 18), none, .mv (.t 0)⟩,
    ⟨(some 19), none, .nc (.t 18)⟩,
    ⟨(some 20), none, .fa (.t 19) 1⟩,
    ⟨(some 21), none, .ld (.t 20) 1 false⟩,
    ⟨(some 22), none, .mv (.t 4)⟩,
    ⟨(some 23), none, .ia (.t 21) (.t 22) 1⟩,
    ⟨(some 24), none, .ld (.t 23) 1 false⟩,
    ⟨(some 5), none, .mv (.t 24)⟩])
  (.sq (.rg [⟨(some 25), none, .mv (.t 0)⟩,
    ⟨(some 26), none, .mv (.t 0)⟩,
    ⟨(some 27), none, .nc (.t 26)⟩,
    ⟨(some 28), none, .fa (.t 27) 1⟩,
    ⟨(some 29), none, .ld (.t 28) 1 false⟩,
    ⟨(some 30), none, .mv (.t 4)⟩,
    ⟨(some 31), none, .sl 1 (.t 29) none (some (.t 30)) none⟩,
    ⟨(some 32), none, .nc (.t 25)⟩,
    ⟨(some 33), none, .fa (.t 32) 1⟩,
    ⟨none, none, .st (.t 33) (.t 31) 1⟩])
  (.sq (.rg [⟨(some 34), none, .mv (.t 5)⟩,
    ⟨(some 2), none, .mv (.t 34)⟩,
    ⟨(some 3), none, .mv (.c (.bool true))⟩])
  .rt))))))⟩
theorem k19 : cF Try.prog Try.f19 = some c19 := by kernel_rfl
/-- (*rundale/stash.Stash).All -/
def c20 : Fu := ⟨10, [.t 2],
  (.sq (.rg [⟨(some 2), none, .mv (.c (.slice none 0 0))⟩])
  (.sq (.rg [⟨(some 3), none, .mv (.t 0)⟩,
    ⟨(some 4), none, .mv (.t 0)⟩,
    ⟨(some 5), none, .nc (.t 4)⟩,
    ⟨(some 6), none, .fa (.t 5) 1⟩,
    ⟨(some 7), none, .ld (.t 6) 1 false⟩,
    ⟨(some 8), none, .len (.t 7)⟩,
    ⟨(some 9), none, .ca 51 [(.t 3), (.t 8)]⟩,
    ⟨(some 2), none, .mv (.t 9)⟩])
  .rt))⟩
theorem k20 : cF Try.prog Try.f20 = some c20 := by kernel_rfl
/-- rundale/rundaleref5.NewStash -/
def c21 : Fu := ⟨8, [.t 2],
  (.sq (.rg [⟨(some 2), none, .mv (.c (.pointer none))⟩])
  (.sq (.rg [⟨(some 3), none, .mv (.t 0)⟩,
    ⟨(some 4), none, .mm true (.t 3) (.c (.int .i64 0))⟩,
    ⟨(some 5), none, .mm false (.t 4) (.c (.int .i64 64))⟩,
    ⟨(some 6), none, .bd [(.int .i64 0), (.slice none 0 0)] [(0, 1, (.t 5))]⟩,
    ⟨(some 7), none, .bx 42 (.t 6)⟩,
    ⟨(some 2), none, .mv (.t 7)⟩])
  .rt))⟩
theorem k21 : cF Try.prog Try.f21 = some c21 := by kernel_rfl
/-- (*rundale/rundaleref5.Stash).Give -/
def c22 : Fu := ⟨14, [],
  (.rg [⟨(some 4), none, .mv (.t 0)⟩,
    ⟨(some 5), none, .mv (.t 0)⟩,
    ⟨(some 6), none, .nc (.t 5)⟩,
    ⟨(some 7), none, .fa (.t 6) 1⟩,
    ⟨(some 8), none, .ld (.t 7) 1 false⟩,
    ⟨(some 9), none, .ap 27 3 1 8 [(.int .i64 0)] (.c (.slice none 0 0)) (.t 8)⟩,
    ⟨(some 10), none, .mv (.t 1)⟩,
    ⟨(some 11), none, .ap 27 3 1 8 [(.int .i64 0)] (.t 9) (.t 10)⟩,
    ⟨(some 12), none, .nc (.t 4)⟩,
    ⟨(some 13), none, .fa (.t 12) 1⟩,
    ⟨none, none, .st (.t 13) (.t 11) 1⟩])⟩
theorem k22 : cF Try.prog Try.f22 = some c22 := by kernel_rfl
/-- (*rundale/rundaleref5.Stash).Take -/
def c23 : Fu := ⟨33, [.t 2, .t 3],
  (.sq (.rg [⟨(some 2), none, .mv (.c (.int .i64 0))⟩,
    ⟨(some 3), none, .mv (.c (.bool false))⟩])
  (.sq (.rg [⟨(some 6), none, .mv (.t 0)⟩,
    ⟨(some 7), none, .nc (.t 6)⟩,
    ⟨(some 8), none, .fa (.t 7) 1⟩,
    ⟨(some 9), none, .ld (.t 8) 1 false⟩,
    ⟨(some 10), none, .len (.t 9)⟩,
    ⟨(some 4), none, .mv (.t 10)⟩])
  (.sq (.sq (.rg [⟨(some 11), none, .mv (.t 4)⟩,
    ⟨(some 12), none, .ib .eql (.t 11) (.c (.int .i64 0))⟩])
  (.cd (.t 12)
  (.sq (.rg [⟨(some 2), none, .mv (.c (.int .i64 0))⟩,
    ⟨(some 3), none, .mv (.c (.bool false))⟩])
  .rt)
  .sk))
  (.sq (.rg [⟨(some 13), none, .mv (.t 0)⟩,
    ⟨(some 14), none, .nc (.t 13)⟩,
    ⟨(some 15), none, .fa (.t 14) 1⟩,
    ⟨(some 16), none, .ld (.t 15) 1 false⟩,
    ⟨(some 17), none, .mv (.t 4)⟩,
    ⟨(some 18), none, .ib .sub (.t 17) (.c (.int .i64 1))⟩,
    ⟨(some 19), none, .ia (.t 16) (.t 18) 1⟩,
    ⟨(some 20), none, .ld (.t 19) 1 false⟩,
    ⟨(some 5), none, .mv (.t 20)⟩])
  (.sq (.rg [⟨(some 21), none, .mv (.t 0)⟩,
    ⟨(some 22), none, .mv (.t 0)⟩,
    ⟨(some 23), none, .nc (.t 22)⟩,
    ⟨(some 24), none, .fa (.t 23) 1⟩,
    ⟨(some 25), none, .ld (.t 24) 1 false⟩,
    ⟨(some 26), none, .mv (.t 4)⟩,
    ⟨(some 27), none, .ib .sub (.t 26) (.c (.int .i64 1))⟩,
    ⟨(some 28), none, .sl 1 (.t 25) none (some (.t 27)) none⟩,
    ⟨(some 29), none, .ap 27 3 1 8 [(.int .i64 0)] (.c (.slice none 0 0)) (.t 28)⟩,
    ⟨(some 30), none, .nc (.t 21)⟩,
    ⟨(some 31), none, .fa (.t 30) 1⟩,
    ⟨none, none, .st (.t 31) (.t 29) 1⟩])
  (.sq (.rg [⟨(some 32), none, .mv (.t 5)⟩,
    ⟨(some 2), none, .mv (.t 32)⟩,
    ⟨(some 3), none, .mv (.c (.bool true))⟩])
  .rt))))))⟩
theorem k23 : cF Try.prog Try.f23 = some c23 := by kernel_rfl
/-- rundale/rundaleref1.SameInts -/
def c24 : Fu := ⟨26, [.t 4],
  (.sq (.rg [⟨(some 4), none, .mv (.c (.bool false))⟩])
  (.sq (.sq (.rg [⟨(some 6), none, .mv (.t 0)⟩,
    ⟨(some 7), none, .len (.t 6)⟩,
    ⟨(some 8), none, .mv (.t 1)⟩,
    ⟨(some 9), none, .len (.t 8)⟩,
    ⟨(some 10), none, .ib .neq (.t 7) (.t 9)⟩])
  (.cd (.t 10)
  (.sq (.rg [⟨(some 4), none, .mv (.c (.bool false))⟩])
  .rt)
  .sk))
  (.sq (.sq (.rg [⟨(some 5), none, .mv (.c (.int .i64 0))⟩])
  (.bl 0
  (.lp
  (.sq (.sq (.rg [⟨(some 11), none, .mv (.t 5)⟩,
    ⟨(some 12), none, .mv (.t 0)⟩,
    ⟨(some 13), none, .len (.t 12)⟩,
    ⟨(some 14), none, .ib .lss (.t 11) (.t 13)⟩])
  (.cd (.t 14)
  .sk
  (.ex 0)))
  (.sq (.bl 1
  (.sq (.rd [⟨0, 0, [0], ⟨(some 17), none, .mv (.t 0)⟩⟩,
    ⟨1, 0, [5], ⟨(some 18), none, .mv (.t 5)⟩⟩,
    ⟨2, 3, [17, 18], ⟨(some 19), none, .ia (.t 17) (.t 18) 1⟩⟩,
    ⟨3, 7, [19], ⟨(some 20), none, .ld (.t 19) 1 false⟩⟩,
    ⟨4, 0, [1], ⟨(some 21), none, .mv (.t 1)⟩⟩,
    ⟨5, 0, [5], ⟨(some 22), none, .mv (.t 5)⟩⟩,
    ⟨6, 48, [21, 22], ⟨(some 23), none, .ia (.t 21) (.t 22) 1⟩⟩,
    ⟨7, 112, [23], ⟨(some 24), none, .ld (.t 23) 1 false⟩⟩,
    ⟨8, 255, [20, 24], ⟨(some 25), none, .ib .neq (.t 20) (.t 24)⟩⟩])
  (.cd (.t 25)
  (.sq (.rg [⟨(some 4), none, .mv (.c (.bool false))⟩])
  .rt)
  .sk)))
  (.rg [⟨(some 15), none, .mv (.t 5)⟩,
    ⟨(some 16), none, .ib .add (.t 15) (.c (.int .i64 1))⟩,
    ⟨(some 5), none, .mv (.t 16)⟩]))))))
  (.sq (.rg [⟨(some 4), none, .mv (.c (.bool true))⟩])
  .rt))))⟩
theorem k24 : cF Try.prog Try.f24 = some c24 := by kernel_rfl
/-- (*rundale/rundaleref5.Stash).Over -/
def c25 : Fu := ⟨34, [.t 2],
  (.sq (.rg [⟨(some 2), none, .mv (.c (.slice none 0 0))⟩])
  (.sq (.rd [⟨0, 0, [0], ⟨(some 5), none, .mv (.t 0)⟩⟩,
    ⟨1, 1, [5], ⟨(some 6), none, .nc (.t 5)⟩⟩,
    ⟨2, 3, [6], ⟨(some 7), none, .fa (.t 6) 1⟩⟩,
    ⟨3, 7, [7], ⟨(some 8), none, .ld (.t 7) 1 false⟩⟩,
    ⟨4, 15, [8], ⟨(some 9), none, .len (.t 8)⟩⟩,
    ⟨5, 0, [0], ⟨(some 10), none, .mv (.t 0)⟩⟩,
    ⟨6, 32, [10], ⟨(some 11), none, .nc (.t 10)⟩⟩,
    ⟨7, 96, [11], ⟨(some 12), none, .fa (.t 11) 0⟩⟩,
    ⟨8, 224, [12], ⟨(some 13), none, .ld (.t 12) 1 false⟩⟩,
    ⟨9, 511, [9, 13], ⟨(some 14), none, .ib .sub (.t 9) (.t 13)⟩⟩,
    ⟨10, 1023, [14], ⟨(some 15), none, .mm true (.t 14) (.c (.int .i64 0))⟩⟩,
    ⟨11, 2047, [15], ⟨(some 3), none, .mv (.t 15)⟩⟩])
  (.sq (.rg [⟨(some 16), none, .mv (.t 0)⟩,
    ⟨(some 17), none, .nc (.t 16)⟩,
    ⟨(some 18), none, .fa (.t 17) 1⟩,
    ⟨(some 19), none, .ld (.t 18) 1 false⟩,
    ⟨(some 20), none, .mv (.t 3)⟩,
    ⟨(some 21), none, .sl 1 (.t 19) none (some (.t 20)) none⟩,
    ⟨(some 22), none, .ap 27 3 1 8 [(.int .i64 0)] (.c (.slice none 0 0)) (.t 21)⟩,
    ⟨(some 4), none, .mv (.t 22)⟩])
  (.sq (.rg [⟨(some 23), none, .mv (.t 0)⟩,
    ⟨(some 24), none, .mv (.t 0)⟩,
    ⟨(some 25), none, .nc (.t 24)⟩,
    ⟨(some 26), none, .fa (.t 25) 1⟩,
    ⟨(some 27), none, .ld (.t 26) 1 false⟩,
    ⟨(some 28), none, .mv (.t 3)⟩,
    ⟨(some 29), none, .sl 1 (.t 27) (some (.t 28)) none none⟩,
    ⟨(some 30), none, .ap 27 3 1 8 [(.int .i64 0)] (.c (.slice none 0 0)) (.t 29)⟩,
    ⟨(some 31), none, .nc (.t 23)⟩,
    ⟨(some 32), none, .fa (.t 31) 1⟩,
    ⟨none, none, .st (.t 32) (.t 30) 1⟩])
  (.sq (.rg [⟨(some 33), none, .mv (.t 4)⟩,
    ⟨(some 2), none, .mv (.t 33)⟩])
  .rt)))))⟩
theorem k25 : cF Try.prog Try.f25 = some c25 := by kernel_rfl
/-- (*rundale/rundaleref5.Stash).All -/
def c26 : Fu := ⟨12, [.t 2],
  (.sq (.rg [⟨(some 2), none, .mv (.c (.slice none 0 0))⟩])
  (.sq (.rg [⟨(some 4), none, .mv (.t 0)⟩,
    ⟨(some 5), none, .nc (.t 4)⟩,
    ⟨(some 6), none, .fa (.t 5) 1⟩,
    ⟨(some 7), none, .ld (.t 6) 1 false⟩,
    ⟨(some 3), none, .mv (.t 7)⟩])
  (.sq (.rg [⟨(some 8), none, .mv (.t 0)⟩,
    ⟨(some 9), none, .nc (.t 8)⟩,
    ⟨(some 10), none, .fa (.t 9) 1⟩,
    ⟨none, none, .st (.t 10) (.c (.slice none 0 0)) 1⟩])
  (.sq (.rg [⟨(some 11), none, .mv (.t 3)⟩,
    ⟨(some 2), none, .mv (.t 11)⟩])
  .rt))))⟩
theorem k26 : cF Try.prog Try.f26 = some c26 := by kernel_rfl
/-- (*rundale/stash.Stash).List -/
def c27 : Fu := ⟨8, [.t 2],
  (.sq (.rg [⟨(some 2), none, .mv (.c (.slice none 0 0))⟩])
  (.sq (.rg [⟨(some 3), none, .mv (.t 0)⟩,
    ⟨(some 4), none, .nc (.t 3)⟩,
    ⟨(some 5), none, .fa (.t 4) 1⟩,
    ⟨(some 6), none, .ld (.t 5) 1 false⟩,
    ⟨(some 7), none, .ca 52 [(.t 6)]⟩,
    ⟨(some 2), none, .mv (.t 7)⟩])
  .rt))⟩
theorem k27 : cF Try.prog Try.f27 = some c27 := by kernel_rfl
/-- rundale/rundalelaw28.first -/
def c28 : Fu := ⟨21, [.t 0],
  (.sq (.rg [⟨(some 0), none, .mv (.c (.bool false))⟩])
  (.sq (.rg [⟨(some 2), none, .bd [(.int .i64 0), (.int .i64 0), (.int .i64 0), (.int .i64 0), (.int .i64 0), (.int .i64 0)] [(0, 1, (.c (.int .i64 2))), (1, 1, (.c (.int .i64 4))), (2, 1, (.c (.int .i64 8))), (3, 1, (.c (.int .i64 1))), (5, 1, (.c (.int .i64 1)))]⟩,
    ⟨(some 1), none, .al 47 [(.int .i64 0), (.int .i64 0), (.int .i64 0), (.int .i64 0), (.int .i64 0), (.int .i64 0)]⟩,
    ⟨none, none, .st (.t 1) (.t 2) 6⟩])
  (.sq (.rg [⟨(some 3), none, .ld (.t 1) 6 true⟩,
    ⟨(some 4), none, .ca 31 [(.t 3)]⟩,
    ⟨(some 5), none, .ib .eql (.t 4) (.c (.int .i64 35))⟩,
    ⟨(some 6), none, .mv (.t 5)⟩,
    ⟨(some 7), (some (6, true)), .ld (.t 1) 6 true⟩,
    ⟨(some 8), (some (6, true)), .ca 33 [(.t 7)]⟩,
    ⟨(some 9), (some (6, true)), .ib .eql (.t 8) (.c (.int .i64 4))⟩,
    ⟨(some 10), none, .pk (.t 6) (.t 9) (.c (.bool false))⟩,
    ⟨(some 11), none, .mv (.t 10)⟩,
    ⟨(some 12), (some (11, true)), .ld (.t 1) 6 true⟩,
    ⟨(some 13), (some (11, true)), .ca 35 [(.t 12)]⟩,
    ⟨(some 14), (some (11, true)), .ib .eql (.t 13) (.c (.int .i64 118))⟩,
    ⟨(some 15), none, .pk (.t 11) (.t 14) (.c (.bool false))⟩,
    ⟨(some 16), none, .mv (.t 15)⟩,
    ⟨(some 17), (some (16, true)), .ld (.t 1) 6 true⟩,
    ⟨(some 18), (some (16, true)), .ca 29 [(.t 17), (.c (.int .i64 1))]⟩,
    ⟨(some 19), (some (16, true)), .ib .eql (.t 18) (.c (.int .i64 5))⟩,
    ⟨(some 20), none, .pk (.t 16) (.t 19) (.c (.bool false))⟩,
    ⟨(some 0), none, .mv (.t 20)⟩])
  .rt)))⟩
theorem k28 : cF Try.prog Try.f28 = some c28 := by kernel_rfl
/-- rundale/bound.Kind -/
def c29 : Fu := ⟨46, [.t 4],
  (.sq (.rg [⟨(some 2), none, .bx 47 (.t 0)⟩,
    ⟨(some 4), none, .mv (.c (.int .i64 0))⟩])
  (.sq (.sq (.rg [⟨(some 5), none, .ld (.t 2) 6 true⟩,
    ⟨(some 6), none, .ca 53 [(.t 5)]⟩,
    ⟨(some 7), none, .nt (.t 6)⟩])
  (.cd (.t 7)
  (.sq (.rg [⟨(some 4), none, .mv (.c (.int .i64 0))⟩])
  .rt)
  .sk))
  (.sq (.sq (.rg [⟨(some 8), none, .mv (.t 1)⟩])
  (.bl 0
  (.sq (.rg [⟨(some 10), none, .ib .eql (.t 8) (.c (.int .i64 1))⟩,
    ⟨(some 9), none, .mv (.t 10)⟩])
  (.cd (.t 9)
  (.sq (.rg [⟨(some 4), none, .mv (.c (.int .i64 5))⟩])
  .rt)
  (.sq (.rg [⟨(some 12), none, .ib .eql (.t 8) (.c (.int .i64 2))⟩,
    ⟨(some 11), none, .mv (.t 12)⟩])
  (.cd (.t 11)
  (.sq (.rg [⟨(some 13), none, .fa (.t 2) 2⟩,
    ⟨(some 14), none, .ld (.t 13) 1 false⟩,
    ⟨(some 15), none, .fa (.t 2) 5⟩,
    ⟨(some 16), none, .ld (.t 15) 1 false⟩,
    ⟨(some 17), none, .ib .add (.t 14) (.t 16)⟩,
    ⟨(some 18), none, .fa (.t 2) 1⟩,
    ⟨(some 19), none, .ld (.t 18) 1 false⟩,
    ⟨(some 20), none, .ib .add (.t 17) (.t 19)⟩,
    ⟨(some 21), none, .ib .add (.t 20) (.c (.int .i64 9))⟩,
    ⟨(some 4), none, .mv (.t 21)⟩])
  .rt)
  (.sq (.rg [⟨(some 23), none, .ib .eql (.t 8) (.c (.int .i64 3))⟩,
    ⟨(some 22), none, .mv (.t 23)⟩])
  (.cd (.t 22)
  (.sq (.rg [⟨(some 4), none, .mv (.c (.int .i64 2))⟩])
  .rt)
  (.sq (.sq (.rg [⟨(some 25), none, .ib .eql (.t 8) (.c (.int .i64 4))⟩,
    ⟨(some 24), none, .mv (.t 25)⟩])
  (.cd (.t 24)
  .sk
  (.sq (.rg [⟨(some 26), none, .ib .eql (.t 8) (.c (.int .i64 5))⟩,
    ⟨(some 24), none, .mv (.t 26)⟩])
  (.cd (.t 24)
  .sk
  (.sq (.rg [⟨(some 27), none, .ib .eql (.t 8) (.c (.int .i64 6))⟩,
    ⟨(some 24), none, .mv (.t 27)⟩])
  (.cd (.t 24)
  .sk
  (.sq (.rg [⟨(some 28), none, .ib .eql (.t 8) (.c (.int .i64 7))⟩,
    ⟨(some 24), none, .mv (.t 28)⟩])
  (.cd (.t 24)
  .sk
  (.sq (.rg [⟨(some 29), none, .ib .eql (.t 8) (.c (.int .i64 8))⟩,
    ⟨(some 24), none, .mv (.t 29)⟩])
  (.cd (.t 24)
  .sk
  (.sq (.rg [⟨(some 30), none, .ib .eql (.t 8) (.c (.int .i64 9))⟩,
    ⟨(some 24), none, .mv (.t 30)⟩])
  (.cd (.t 24)
  .sk
  (.rg [⟨(some 31), none, .ib .eql (.t 8) (.c (.int .i64 12))⟩,
    ⟨(some 24), none, .mv (.t 31)⟩])))))))))))))
  (.cd (.t 24)
  (.sq (.rg [⟨(some 4), none, .mv (.c (.int .i64 1))⟩])
  .rt)
  (.sq (.rg [⟨(some 33), none, .ib .eql (.t 8) (.c (.int .i64 10))⟩,
    ⟨(some 32), none, .mv (.t 33)⟩])
  (.cd (.t 32)
  (.sq (.rg [⟨(some 34), none, .fa (.t 2) 1⟩,
    ⟨(some 35), none, .ld (.t 34) 1 false⟩,
    ⟨(some 36), none, .ib .mul (.c (.int .i64 2)) (.t 35)⟩,
    ⟨(some 37), none, .ib .add (.t 36) (.c (.int .i64 12))⟩,
    ⟨(some 4), none, .mv (.t 37)⟩])
  .rt)
  (.sq (.rg [⟨(some 39), none, .ib .eql (.t 8) (.c (.int .i64 11))⟩,
    ⟨(some 38), none, .mv (.t 39)⟩])
  (.cd (.t 38)
  (.sq (.rg [⟨(some 40), none, .fa (.t 2) 0⟩,
    ⟨(some 41), none, .ld (.t 40) 1 false⟩,
    ⟨(some 42), none, .fa (.t 2) 1⟩,
    ⟨(some 43), none, .ld (.t 42) 1 false⟩,
    ⟨(some 44), none, .ib .add (.t 41) (.t 43)⟩,
    ⟨(some 45), none, .ib .add (.t 44) (.c (.int .i64 7))⟩,
    ⟨(some 4), none, .mv (.t 45)⟩])
  .rt)
  .sk))))))))))))))
  (.sq (.rg [⟨(some 4), none, .mv (.c (.int .i64 0))⟩])
  .rt))))⟩
theorem k29 : cF Try.prog Try.f29 = some c29 := by kernel_rfl
/-- rundale/rundaleref24.Kind -/
def c30 : Fu := ⟨46, [.t 4],
  (.sq (.rg [⟨(some 2), none, .bx 47 (.t 0)⟩,
    ⟨(some 4), none, .mv (.c (.int .i64 0))⟩])
  (.sq (.sq (.rg [⟨(some 5), none, .ld (.t 2) 6 true⟩,
    ⟨(some 6), none, .ca 54 [(.t 5)]⟩,
    ⟨(some 7), none, .nt (.t 6)⟩])
  (.cd (.t 7)
  (.sq (.rg [⟨(some 4), none, .mv (.c (.int .i64 0))⟩])
  .rt)
  .sk))
  (.sq (.sq (.rg [⟨(some 8), none, .mv (.t 1)⟩])
  (.bl 0
  (.sq (.rg [⟨(some 10), none, .ib .eql (.t 8) (.c (.int .i64 1))⟩,
    ⟨(some 9), none, .mv (.t 10)⟩])
  (.cd (.t 9)
  (.sq (.rg [⟨(some 4), none, .mv (.c (.int .i64 5))⟩])
  .rt)
  (.sq (.rg [⟨(some 12), none, .ib .eql (.t 8) (.c (.int .i64 2))⟩,
    ⟨(some 11), none, .mv (.t 12)⟩])
  (.cd (.t 11)
  (.sq (.rg [⟨(some 13), none, .fa (.t 2) 2⟩,
    ⟨(some 14), none, .ld (.t 13) 1 false⟩,
    ⟨(some 15), none, .fa (.t 2) 5⟩,
    ⟨(some 16), none, .ld (.t 15) 1 false⟩,
    ⟨(some 17), none, .ib .add (.t 14) (.t 16)⟩,
    ⟨(some 18), none, .fa (.t 2) 1⟩,
    ⟨(some 19), none, .ld (.t 18) 1 false⟩,
    ⟨(some 20), none, .ib .add (.t 17) (.t 19)⟩,
    ⟨(some 21), none, .ib .add (.t 20) (.c (.int .i64 9))⟩,
    ⟨(some 4), none, .mv (.t 21)⟩])
  .rt)
  (.sq (.rg [⟨(some 23), none, .ib .eql (.t 8) (.c (.int .i64 3))⟩,
    ⟨(some 22), none, .mv (.t 23)⟩])
  (.cd (.t 22)
  (.sq (.rg [⟨(some 4), none, .mv (.c (.int .i64 2))⟩])
  .rt)
  (.sq (.sq (.rg [⟨(some 25), none, .ib .eql (.t 8) (.c (.int .i64 4))⟩,
    ⟨(some 24), none, .mv (.t 25)⟩])
  (.cd (.t 24)
  .sk
  (.sq (.rg [⟨(some 26), none, .ib .eql (.t 8) (.c (.int .i64 5))⟩,
    ⟨(some 24), none, .mv (.t 26)⟩])
  (.cd (.t 24)
  .sk
  (.sq (.rg [⟨(some 27), none, .ib .eql (.t 8) (.c (.int .i64 6))⟩,
    ⟨(some 24), none, .mv (.t 27)⟩])
  (.cd (.t 24)
  .sk
  (.sq (.rg [⟨(some 28), none, .ib .eql (.t 8) (.c (.int .i64 7))⟩,
    ⟨(some 24), none, .mv (.t 28)⟩])
  (.cd (.t 24)
  .sk
  (.sq (.rg [⟨(some 29), none, .ib .eql (.t 8) (.c (.int .i64 8))⟩,
    ⟨(some 24), none, .mv (.t 29)⟩])
  (.cd (.t 24)
  .sk
  (.sq (.rg [⟨(some 30), none, .ib .eql (.t 8) (.c (.int .i64 9))⟩,
    ⟨(some 24), none, .mv (.t 30)⟩])
  (.cd (.t 24)
  .sk
  (.rg [⟨(some 31), none, .ib .eql (.t 8) (.c (.int .i64 12))⟩,
    ⟨(some 24), none, .mv (.t 31)⟩])))))))))))))
  (.cd (.t 24)
  (.sq (.rg [⟨(some 4), none, .mv (.c (.int .i64 1))⟩])
  .rt)
  (.sq (.rg [⟨(some 33), none, .ib .eql (.t 8) (.c (.int .i64 10))⟩,
    ⟨(some 32), none, .mv (.t 33)⟩])
  (.cd (.t 32)
  (.sq (.rg [⟨(some 34), none, .fa (.t 2) 1⟩,
    ⟨(some 35), none, .ld (.t 34) 1 false⟩,
    ⟨(some 36), none, .ib .mul (.c (.int .i64 2)) (.t 35)⟩,
    ⟨(some 37), none, .ib .add (.t 36) (.c (.int .i64 12))⟩,
    ⟨(some 4), none, .mv (.t 37)⟩])
  .rt)
  (.sq (.rg [⟨(some 39), none, .ib .eql (.t 8) (.c (.int .i64 11))⟩,
    ⟨(some 38), none, .mv (.t 39)⟩])
  (.cd (.t 38)
  (.sq (.rg [⟨(some 40), none, .fa (.t 2) 0⟩,
    ⟨(some 41), none, .ld (.t 40) 1 false⟩,
    ⟨(some 42), none, .fa (.t 2) 1⟩,
    ⟨(some 43), none, .ld (.t 42) 1 false⟩,
    ⟨(some 44), none, .ib .add (.t 41) (.t 43)⟩,
    ⟨(some 45), none, .ib .add (.t 44) (.c (.int .i64 7))⟩,
    ⟨(some 4), none, .mv (.t 45)⟩])
  .rt)
  .sk))))))))))))))
  (.sq (.rg [⟨(some 4), none, .mv (.c (.int .i64 0))⟩])
  .rt))))⟩
theorem k30 : cF Try.prog Try.f30 = some c30 := by kernel_rfl
/-- rundale/bound.Alone -/
def c31 : Fu := ⟨19, [.t 2],
  (.sq (.rg [⟨(some 1), none, .bx 47 (.t 0)⟩,
    ⟨(some 2), none, .mv (.c (.int .i64 0))⟩])
  (.sq (.sq (.rg [⟨(some 3), none, .ld (.t 1) 6 true⟩,
    ⟨(some 4), none, .ca 53 [(.t 3)]⟩,
    ⟨(some 5), none, .nt (.t 4)⟩])
  (.cd (.t 5)
  (.sq (.rg [⟨(some 2), none, .mv (.c (.int .i64 0))⟩])
  .rt)
  .sk))
  (.sq (.rg [⟨(some 6), none, .fa (.t 1) 0⟩,
    ⟨(some 7), none, .ld (.t 6) 1 false⟩,
    ⟨(some 8), none, .fa (.t 1) 1⟩,
    ⟨(some 9), none, .ld (.t 8) 1 false⟩,
    ⟨(some 10), none, .ib .mul (.c (.int .i64 2)) (.t 9)⟩,
    ⟨(some 11), none, .ib .add (.t 7) (.t 10)⟩,
    ⟨(some 12), none, .fa (.t 1) 2⟩,
    ⟨(some 13), none, .ld (.t 12) 1 false⟩,
    ⟨(some 14), none, .ib .add (.t 11) (.t 13)⟩,
    ⟨(some 15), none, .fa (.t 1) 5⟩,
    ⟨(some 16), none, .ld (.t 15) 1 false⟩,
    ⟨(some 17), none, .ib .add (.t 14) (.t 16)⟩,
    ⟨(some 18), none, .ib .add (.t 17) (.c (.int .i64 16))⟩,
    ⟨(some 2), none, .mv (.t 18)⟩])
  .rt)))⟩
theorem k31 : cF Try.prog Try.f31 = some c31 := by kernel_rfl
/-- rundale/rundaleref24.Alone -/
def c32 : Fu := ⟨19, [.t 2],
  (.sq (.rg [⟨(some 1), none, .bx 47 (.t 0)⟩,
    ⟨(some 2), none, .mv (.c (.int .i64 0))⟩])
  (.sq (.sq (.rg [⟨(some 3), none, .ld (.t 1) 6 true⟩,
    ⟨(some 4), none, .ca 54 [(.t 3)]⟩,
    ⟨(some 5), none, .nt (.t 4)⟩])
  (.cd (.t 5)
  (.sq (.rg [⟨(some 2), none, .mv (.c (.int .i64 0))⟩])
  .rt)
  .sk))
  (.sq (.rg [⟨(some 6), none, .fa (.t 1) 0⟩,
    ⟨(some 7), none, .ld (.t 6) 1 false⟩,
    ⟨(some 8), none, .fa (.t 1) 1⟩,
    ⟨(some 9), none, .ld (.t 8) 1 false⟩,
    ⟨(some 10), none, .ib .mul (.c (.int .i64 2)) (.t 9)⟩,
    ⟨(some 11), none, .ib .add (.t 7) (.t 10)⟩,
    ⟨(some 12), none, .fa (.t 1) 2⟩,
    ⟨(some 13), none, .ld (.t 12) 1 false⟩,
    ⟨(some 14), none, .ib .add (.t 11) (.t 13)⟩,
    ⟨(some 15), none, .fa (.t 1) 5⟩,
    ⟨(some 16), none, .ld (.t 15) 1 false⟩,
    ⟨(some 17), none, .ib .add (.t 14) (.t 16)⟩,
    ⟨(some 18), none, .ib .add (.t 17) (.c (.int .i64 16))⟩,
    ⟨(some 2), none, .mv (.t 18)⟩])
  .rt)))⟩
theorem k32 : cF Try.prog Try.f32 = some c32 := by kernel_rfl
/-- rundale/bound.Again -/
def c33 : Fu := ⟨9, [.t 2],
  (.sq (.rg [⟨(some 1), none, .bx 47 (.t 0)⟩,
    ⟨(some 2), none, .mv (.c (.int .i64 0))⟩])
  (.sq (.sq (.rg [⟨(some 3), none, .ld (.t 1) 6 true⟩,
    ⟨(some 4), none, .ca 53 [(.t 3)]⟩,
    ⟨(some 5), none, .nt (.t 4)⟩])
  (.cd (.t 5)
  (.sq (.rg [⟨(some 2), none, .mv (.c (.int .i64 0))⟩])
  .rt)
  .sk))
  (.sq (.rg [⟨(some 6), none, .fa (.t 1) 5⟩,
    ⟨(some 7), none, .ld (.t 6) 1 false⟩,
    ⟨(some 8), none, .ib .add (.t 7) (.c (.int .i64 3))⟩,
    ⟨(some 2), none, .mv (.t 8)⟩])
  .rt)))⟩
theorem k33 : cF Try.prog Try.f33 = some c33 := by kernel_rfl
/-- rundale/rundaleref24.Again -/
def c34 : Fu := ⟨9, [.t 2],
  (.sq (.rg [⟨(some 1), none, .bx 47 (.t 0)⟩,
    ⟨(some 2), none, .mv (.c (.int .i64 0))⟩])
  (.sq (.sq (.rg [⟨(some 3), none, .ld (.t 1) 6 true⟩,
    ⟨(some 4), none, .ca 54 [(.t 3)]⟩,
    ⟨(some 5), none, .nt (.t 4)⟩])
  (.cd (.t 5)
  (.sq (.rg [⟨(some 2), none, .mv (.c (.int .i64 0))⟩])
  .rt)
  .sk))
  (.sq (.rg [⟨(some 6), none, .fa (.t 1) 5⟩,
    ⟨(some 7), none, .ld (.t 6) 1 false⟩,
    ⟨(some 8), none, .ib .add (.t 7) (.c (.int .i64 3))⟩,
    ⟨(some 2), none, .mv (.t 8)⟩])
  .rt)))⟩
theorem k34 : cF Try.prog Try.f34 = some c34 := by kernel_rfl
/-- rundale/bound.Most -/
def c35 : Fu := ⟨15, [.t 2],
  (.sq (.rg [⟨(some 1), none, .bx 47 (.t 0)⟩,
    ⟨(some 2), none, .mv (.c (.int .i64 0))⟩])
  (.sq (.rd [⟨0, 0, [1], ⟨(some 3), none, .fa (.t 1) 0⟩⟩,
    ⟨1, 1, [3], ⟨(some 4), none, .ld (.t 3) 1 false⟩⟩,
    ⟨2, 0, [1], ⟨(some 5), none, .ld (.t 1) 6 true⟩⟩,
    ⟨3, 4, [5], ⟨(some 6), none, .ca 31 [(.t 5)]⟩⟩,
    ⟨4, 0, [1], ⟨(some 7), none, .fa (.t 1) 0⟩⟩,
    ⟨5, 16, [7], ⟨(some 8), none, .ld (.t 7) 1 false⟩⟩,
    ⟨6, 48, [8], ⟨(some 9), none, .ib .mul (.c (.int .i64 3)) (.t 8)⟩⟩,
    ⟨7, 0, [1], ⟨(some 10), none, .ld (.t 1) 6 true⟩⟩,
    ⟨8, 140, [10], ⟨(some 11), none, .ca 33 [(.t 10)]⟩⟩,
    ⟨9, 508, [9, 11], ⟨(some 12), none, .ib .mul (.t 9) (.t 11)⟩⟩,
    ⟨10, 1020, [6, 12], ⟨(some 13), none, .ib .add (.t 6) (.t 12)⟩⟩,
    ⟨11, 2047, [4, 13], ⟨(some 14), none, .ib .mul (.t 4) (.t 13)⟩⟩,
    ⟨12, 4095, [14], ⟨(some 2), none, .mv (.t 14)⟩⟩])
  .rt))⟩
theorem k35 : cF Try.prog Try.f35 = some c35 := by kernel_rfl
/-- rundale/rundaleref24.Most -/
def c36 : Fu := ⟨15, [.t 2],
  (.sq (.rg [⟨(some 1), none, .bx 47 (.t 0)⟩,
    ⟨(some 2), none, .mv (.c (.int .i64 0))⟩])
  (.sq (.rd [⟨0, 0, [1], ⟨(some 3), none, .fa (.t 1) 0⟩⟩,
    ⟨1, 1, [3], ⟨(some 4), none, .ld (.t 3) 1 false⟩⟩,
    ⟨2, 0, [1], ⟨(some 5), none, .ld (.t 1) 6 true⟩⟩,
    ⟨3, 4, [5], ⟨(some 6), none, .ca 32 [(.t 5)]⟩⟩,
    ⟨4, 0, [1], ⟨(some 7), none, .fa (.t 1) 0⟩⟩,
    ⟨5, 16, [7], ⟨(some 8), none, .ld (.t 7) 1 false⟩⟩,
    ⟨6, 48, [8], ⟨(some 9), none, .ib .mul (.c (.int .i64 3)) (.t 8)⟩⟩,
    ⟨7, 0, [1], ⟨(some 10), none, .ld (.t 1) 6 true⟩⟩,
    ⟨8, 140, [10], ⟨(some 11), none, .ca 34 [(.t 10)]⟩⟩,
    ⟨9, 508, [9, 11], ⟨(some 12), none, .ib .mul (.t 9) (.t 11)⟩⟩,
    ⟨10, 1020, [6, 12], ⟨(some 13), none, .ib .add (.t 6) (.t 12)⟩⟩,
    ⟨11, 2047, [4, 13], ⟨(some 14), none, .ib .mul (.t 4) (.t 13)⟩⟩,
    ⟨12, 4095, [14], ⟨(some 2), none, .mv (.t 14)⟩⟩])
  .rt))⟩
theorem k36 : cF Try.prog Try.f36 = some c36 := by kernel_rfl
/-- rundale/rundalemake.Config -/
def c37 : Fu := ⟨43, [.c 2 6 true],
  (.sq (.rg [⟨(some 2), none, .al 47 [(.int .i64 0), (.int .i64 0), (.int .i64 0), (.int .i64 0), (.int .i64 0), (.int .i64 0)]⟩])
  (.sq (.rg [⟨(some 4), none, .mv (.t 0)⟩,
    ⟨(some 5), none, .ca 14 [(.t 4), (.c (.int .i64 4))]⟩,
    ⟨(some 6), none, .mv (.t 0)⟩,
    ⟨(some 7), none, .ib .quo (.t 6) (.c (.int .i64 4))⟩,
    ⟨(some 8), none, .ca 14 [(.t 7), (.c (.int .i64 8))]⟩,
    ⟨(some 9), none, .mv (.t 0)⟩,
    ⟨(some 10), none, .ib .quo (.t 9) (.c (.int .i64 32))⟩,
    ⟨(some 11), none, .ca 14 [(.t 10), (.c (.int .i64 2))]⟩,
    ⟨(some 12), none, .mv (.t 0)⟩,
    ⟨(some 13), none, .ib .quo (.t 12) (.c (.int .i64 64))⟩,
    ⟨(some 14), none, .ca 14 [(.t 13), (.c (.int .i64 4))]⟩,
    ⟨(some 15), none, .mv (.t 0)⟩,
    ⟨(some 16), none, .ib .quo (.t 15) (.c (.int .i64 256))⟩,
    ⟨(some 17), none, .ca 14 [(.t 16), (.c (.int .i64 4))]⟩,
    ⟨(some 18), none, .mv (.t 0)⟩,
    ⟨(some 19), none, .ib .quo (.t 18) (.c (.int .i64 1024))⟩,
    ⟨(some 20), none, .ca 14 [(.t 19), (.c (.int .i64 3))]⟩,
    ⟨(some 21), none, .bs 3 6 [(.int .i64 0), (.int .i64 0), (.int .i64 0), (.int .i64 0), (.int .i64 0), (.int .i64 0)] [(0, 1, (.t 5)), (1, 1, (.t 8)), (2, 1, (.t 11)), (3, 1, (.t 14)), (4, 1, (.t 17)), (5, 1, (.t 20))]⟩,
    ⟨(some 22), none, .bd [(.slice none 0 0), (.int .i64 0)] [(0, 1, (.t 21))]⟩,
    ⟨(some 23), none, .bx 79 (.t 22)⟩,
    ⟨(some 3), none, .mv (.t 23)⟩])
  (.sq (.rg [⟨(some 24), none, .mv (.t 3)⟩,
    ⟨(some 25), none, .ca 55 [(.t 24), (.c (.int .i64 4))]⟩,
    ⟨(some 26), none, .ib .add (.c (.int .i64 1)) (.t 25)⟩,
    ⟨(some 27), none, .mv (.t 3)⟩,
    ⟨(some 28), none, .ca 55 [(.t 27), (.c (.int .i64 8))]⟩,
    ⟨(some 29), none, .ib .add (.c (.int .i64 1)) (.t 28)⟩,
    ⟨(some 30), none, .mv (.t 3)⟩,
    ⟨(some 31), none, .ca 55 [(.t 30), (.c (.int .i64 2))]⟩,
    ⟨(some 32), none, .ib .mul (.c (.int .i64 8)) (.t 31)⟩,
    ⟨(some 33), none, .ib .add (.c (.int .i64 8)) (.t 32)⟩,
    ⟨(some 34), none, .mv (.t 3)⟩,
    ⟨(some 35), none, .ca 55 [(.t 34), (.c (.int .i64 4))]⟩,
    ⟨(some 36), none, .ib .add (.c (.int .i64 1)) (.t 35)⟩,
    ⟨(some 37), none, .mv (.t 3)⟩,
    ⟨(some 38), none, .ca 55 [(.t 37), (.c (.int .i64 4))]⟩,
    ⟨(some 39), none, .mv (.t 3)⟩,
    ⟨(some 40), none, .ca 55 [(.t 39), (.c (.int .i64 3))]⟩,
    ⟨(some 41), none, .ib .add (.c (.int .i64 1)) (.t 40)⟩,
    ⟨(some 42), none, .bd [(.int .i64 0), (.int .i64 0), (.int .i64 0), (.int .i64 0), (.int .i64 0), (.int .i64 0)] [(0, 1, (.t 26)), (1, 1, (.t 29)), (2, 1, (.t 33)), (3, 1, (.t 36)), (4, 1, (.t 38)), (5, 1, (.t 41))]⟩,
    ⟨none, none, .st (.t 2) (.t 42) 6⟩])
  .rt)))⟩
theorem k37 : cF Try.prog Try.f37 = some c37 := by kernel_rfl
/-- rundale/rundalelaw7.first -/
def c38 : Fu := ⟨42, [.t 0],
  (.sq (.rg [⟨(some 0), none, .mv (.c (.bool false))⟩])
  (.sq (.rg [⟨(some 6), none, .ca 39 []⟩,
    ⟨(some 1), none, .mv (.t 6)⟩])
  (.sq (.sq (.rg [⟨(some 7), none, .mv (.t 1)⟩,
    ⟨(some 8), none, .en 0 false (.t 7) (.c (.pointer none))⟩])
  (.cd (.t 8)
  (.sq (.rg [⟨(some 0), none, .mv (.c (.bool false))⟩])
  .rt)
  .sk))
  (.sq (.rg [⟨(some 10), none, .mv (.t 1)⟩,
    ⟨(some 11), none, .bs 3 1 [(.int .i64 0)] [(0, 1, (.c (.int .i64 7)))]⟩,
    ⟨(some 12), none, .ca 41 [(.t 10), (.c (.int .i64 4)), (.t 11)]⟩,
    ⟨(some 9), none, .mv (.t 12)⟩,
    ⟨(some 13), none, .ex (.t 9) 0⟩,
    ⟨(some 14), none, .ex (.t 9) 1⟩,
    ⟨(some 2), none, .mv (.t 13)⟩,
    ⟨(some 3), none, .mv (.t 14)⟩])
  (.sq (.rg [⟨(some 15), none, .mv (.t 1)⟩,
    ⟨(some 16), none, .ca 40 [(.t 15), (.c (.int .i64 5))]⟩,
    ⟨(some 4), none, .mv (.t 16)⟩])
  (.sq (.rg [⟨(some 17), none, .mv (.t 1)⟩,
    ⟨(some 18), none, .ca 40 [(.t 17), (.c (.int .i64 6))]⟩,
    ⟨(some 5), none, .mv (.t 18)⟩])
  (.sq (.rg [⟨(some 19), none, .mv (.t 3)⟩,
    ⟨(some 20), none, .ib .eql (.t 19) (.c (.int .i64 0))⟩,
    ⟨(some 21), none, .mv (.t 20)⟩,
    ⟨(some 22), (some (21, true)), .mv (.t 2)⟩,
    ⟨(some 23), (some (21, true)), .len (.t 22)⟩,
    ⟨(some 24), (some (21, true)), .ib .eql (.t 23) (.c (.int .i64 0))⟩,
    ⟨(some 25), none, .pk (.t 21) (.t 24) (.c (.bool false))⟩,
    ⟨(some 26), none, .mv (.t 25)⟩,
    ⟨(some 27), (some (26, true)), .mv (.t 4)⟩,
    ⟨(some 28), (some (26, true)), .len (.t 27)⟩,
    ⟨(some 29), (some (26, true)), .ib .eql (.t 28) (.c (.int .i64 0))⟩,
    ⟨(some 30), none, .pk (.t 26) (.t 29) (.c (.bool false))⟩,
    ⟨(some 31), none, .mv (.t 30)⟩,
    ⟨(some 32), (some (31, true)), .mv (.t 5)⟩,
    ⟨(some 33), (some (31, true)), .len (.t 32)⟩,
    ⟨(some 34), (some (31, true)), .ib .eql (.t 33) (.c (.int .i64 1))⟩,
    ⟨(some 35), none, .pk (.t 31) (.t 34) (.c (.bool false))⟩,
    ⟨(some 36), none, .mv (.t 35)⟩,
    ⟨(some 37), (some (36, true)), .mv (.t 5)⟩,
    ⟨(some 38), (some (36, true)), .ia (.t 37) (.c (.int .i64 0)) 1⟩,
    ⟨(some 39), (some (36, true)), .ld (.t 38) 1 false⟩,
    ⟨(some 40), (some (36, true)), .ib .eql (.t 39) (.c (.int .i64 7))⟩,
    ⟨(some 41), none, .pk (.t 36) (.t 40) (.c (.bool false))⟩,
    ⟨(some 0), none, .mv (.t 41)⟩])
  .rt)))))))⟩
theorem k38 : cF Try.prog Try.f38 = some c38 := by kernel_rfl
/-- rundale/limbo.New -/
def c39 : Fu := ⟨3, [.t 0],
  (.sq (.rg [⟨(some 0), none, .mv (.c (.pointer none))⟩])
  (.sq (.rg [⟨(some 1), none, .bd [(.int .i64 0), (.slice none 0 0), (.int .i64 0), (.slice none 0 0), (.int .i64 0), (.slice none 0 0), (.int .i64 0)] []⟩,
    ⟨(some 2), none, .bx 85 (.t 1)⟩,
    ⟨(some 0), none, .mv (.t 2)⟩])
  .rt))⟩
theorem k39 : cF Try.prog Try.f39 = some c39 := by kernel_rfl
/-- (*rundale/limbo.Limbo).Ready -/
def c40 : Fu := ⟨51, [.t 4],
  (.sq (.rg [⟨(some 4), none, .mv (.c (.slice none 0 0))⟩])
  (.sq (.rg [⟨(some 5), none, .mv (.c (.slice none 0 0))⟩])
  (.sq (.bl 0
  (.lp
  (.sq (.sq (.rg [⟨(some 9), none, .mv (.t 1)⟩,
    ⟨(some 10), none, .ib .geq (.t 9) (.c (.int .i64 2))⟩])
  (.cd (.t 10)
  .sk
  (.ex 0)))
  (.bl 1
  (.sq (.rg [⟨(some 6), none, .mv (.c (.pointer none))⟩])
  (.sq (.sq (.rg [⟨(some 11), none, .mv (.c (.int .i64 0))⟩])
  (.bl 2
  (.lp
  (.sq (.rg [⟨(some 12), none, .ib .lss (.t 11) (.c (.int .i64 3))⟩])
  (.sq (.cd (.t 12)
  .sk
  (.ex 2))
  (.sq (.bl 3
  (.sq (.rg [⟨(some 13), none, .mv (.t 11)⟩,
    ⟨(some 7), none, .mv (.t 13)⟩])
  (.sq (.rg [⟨(some 14), none, .mv (.t 0)⟩,
    ⟨(some 15), none, .mv (.t 7)⟩,
    ⟨(some 16), none, .nc (.t 14)⟩,
    ⟨(some 17), none, .fa (.t 16) 0⟩,
    ⟨(some 18), none, .iaa (.t 17) (.t 15) 3 2⟩,
    ⟨(some 8), none, .mv (.t 18)⟩])
  (.sq (.rd [⟨0, 0, [8], ⟨(some 19), none, .mv (.t 8)⟩⟩,
    ⟨1, 0, [1], ⟨(some 20), none, .mv (.t 1)⟩⟩,
    ⟨2, 3, [19, 20], ⟨(some 21), none, .ca 56 [(.t 19), (.t 20)]⟩⟩,
    ⟨3, 7, [21], ⟨(some 22), none, .mv (.t 21)⟩⟩,
    ⟨4, 15, [6, 22], ⟨(some 23), (some (22, true)), .mv (.t 6)⟩⟩,
    ⟨5, 31, [23, 22], ⟨(some 24), (some (22, true)), .en 0 false (.t 23) (.c (.pointer none))⟩⟩,
    ⟨6, 63, [24, 22], ⟨(some 25), (some (22, true)), .mv (.t 24)⟩⟩,
    ⟨7, 127, [8, 25], ⟨(some 26), (some (25, false)), .mv (.t 8)⟩⟩,
    ⟨8, 255, [26, 25], ⟨(some 27), (some (25, false)), .nc (.t 26)⟩⟩,
    ⟨9, 511, [27, 25], ⟨(some 28), (some (25, false)), .fa (.t 27) 0⟩⟩,
    ⟨10, 1023, [28, 25], ⟨(some 29), (some (25, false)), .ld (.t 28) 1 false⟩⟩,
    ⟨11, 127, [6, 25], ⟨(some 30), (some (25, false)), .mv (.t 6)⟩⟩,
    ⟨12, 2175, [30, 25], ⟨(some 31), (some (25, false)), .nc (.t 30)⟩⟩,
    ⟨13, 6271, [31, 25], ⟨(some 32), (some (25, false)), .fa (.t 31) 0⟩⟩,
    ⟨14, 14463, [32, 25], ⟨(some 33), (some (25, false)), .ld (.t 32) 1 false⟩⟩,
    ⟨15, 32767, [29, 33, 25], ⟨(some 34), (some (25, false)), .ib .lss (.t 29) (.t 33)⟩⟩,
    ⟨16, 65535, [25, 34, 22], ⟨(some 35), (some (22, true)), .pk (.t 25) (.c (.bool true)) (.t 34)⟩⟩,
    ⟨17, 131071, [22, 35], ⟨(some 36), none, .pk (.t 22) (.t 35) (.c (.bool false))⟩⟩])
  (.cd (.t 36)
  (.rg [⟨(some 37), none, .mv (.t 8)⟩,
    ⟨(some 6), none, .mv (.t 37)⟩])
  .sk)))))
  (.rg [⟨(some 38), none, .ib .add (.t 11) (.c (.int .i64 1))⟩,
    ⟨(some 11), none, .mv (.t 38)⟩])))))))
  (.sq (.sq (.rg [⟨(some 39), none, .mv (.t 6)⟩,
    ⟨(some 40), none, .en 0 false (.t 39) (.c (.pointer none))⟩])
  (.cd (.t 40)
  (.ex 0)
  .sk))
  (.sq (.rg [⟨(some 41), none, .mv (.t 5)⟩,
    ⟨(some 42), none, .mv (.t 6)⟩,
    ⟨(some 43), none, .nc (.t 42)⟩,
    ⟨(some 44), none, .fa (.t 43) 1⟩,
    ⟨(some 45), none, .ld (.t 44) 1 false⟩,
    ⟨(some 46), none, .ap 27 3 1 8 [(.int .i64 0)] (.t 41) (.t 45)⟩,
    ⟨(some 5), none, .mv (.t 46)⟩])
  (.rg [⟨(some 47), none, .mv (.t 6)⟩,
    ⟨(some 48), none, .bd [(.int .i64 0), (.slice none 0 0)] []⟩,
    ⟨(some 49), none, .nc (.t 47)⟩,
    ⟨none, none, .st (.t 49) (.t 48) 2⟩])))))))))
  (.sq (.rg [⟨(some 50), none, .mv (.t 5)⟩,
    ⟨(some 4), none, .mv (.t 50)⟩])
  .rt))))⟩
theorem k40 : cF Try.prog Try.f40 = some c40 := by kernel_rfl
/-- (*rundale/limbo.Limbo).Retire -/
def c41 : Fu := ⟨66, [.t 6, .t 7],
  (.sq (.rg [⟨(some 6), none, .mv (.c (.slice none 0 0))⟩,
    ⟨(some 7), none, .mv (.c (.int .i64 0))⟩])
  (.sq (.sq (.rg [⟨(some 10), none, .mv (.t 2)⟩,
    ⟨(some 11), none, .len (.t 10)⟩,
    ⟨(some 12), none, .ib .eql (.t 11) (.c (.int .i64 0))⟩,
    ⟨(some 13), none, .mv (.t 12)⟩,
    ⟨(some 14), (some (13, false)), .mv (.t 1)⟩,
    ⟨(some 15), (some (13, false)), .ib .lss (.t 14) (.c (.int .i64 0))⟩,
    ⟨(some 16), none, .pk (.t 13) (.c (.bool true)) (.t 15)⟩,
    ⟨(some 17), none, .mv (.t 16)⟩,
    ⟨(some 18), (some (17, false)), .mv (.t 1)⟩,
    ⟨(some 19), (some (17, false)), .ib .gtr (.t 18) (.c (.int .i64 4611686018427387903))⟩,
    ⟨(some 20), none, .pk (.t 17) (.c (.bool true)) (.t 19)⟩,
    ⟨(some 21), none, .mv (.t 20)⟩,
    ⟨(some 22), (some (21, false)), .mv (.t 1)⟩,
    ⟨(some 23), (some (21, false)), .mv (.t 0)⟩,
    ⟨(some 24), (some (21, false)), .nc (.t 23)⟩,
    ⟨(some 25), (some (21, false)), .fa (.t 24) 6⟩,
    ⟨(some 26), (some (21, false)), .ld (.t 25) 1 false⟩,
    ⟨(some 27), (some (21, false)), .ib .lss (.t 22) (.t 26)⟩,
    ⟨(some 28), none, .pk (.t 21) (.c (.bool true)) (.t 27)⟩])
  (.cd (.t 28)
  (.sq (.rg [⟨(some 6), none, .mv (.c (.slice none 0 0))⟩,
    ⟨(some 7), none, .mv (.c (.int .i64 1))⟩])
  .rt)
  .sk))
  (.sq (.rg [⟨(some 29), none, .mv (.t 0)⟩,
    ⟨(some 30), none, .mv (.t 1)⟩,
    ⟨(some 31), none, .nc (.t 29)⟩,
    ⟨(some 32), none, .fa (.t 31) 6⟩,
    ⟨none, none, .st (.t 32) (.t 30) 1⟩])
  (.sq (.rg [⟨(some 33), none, .mv (.t 0)⟩,
    ⟨(some 34), none, .mv (.t 1)⟩,
    ⟨(some 35), none, .ib .rem (.t 34) (.c (.int .i64 3))⟩,
    ⟨(some 36), none, .nc (.t 33)⟩,
    ⟨(some 37), none, .fa (.t 36) 0⟩,
    ⟨(some 38), none, .iaa (.t 37) (.t 35) 3 2⟩,
    ⟨(some 8), none, .mv (.t 38)⟩])
  (.sq (.rg [⟨(some 9), none, .mv (.c (.slice none 0 0))⟩])
  (.sq (.sq (.rg [⟨(some 39), none, .mv (.t 8)⟩,
    ⟨(some 40), none, .nc (.t 39)⟩,
    ⟨(some 41), none, .fa (.t 40) 0⟩,
    ⟨(some 42), none, .ld (.t 41) 1 false⟩,
    ⟨(some 43), none, .mv (.t 1)⟩,
    ⟨(some 44), none, .ib .lss (.t 42) (.t 43)⟩])
  (.cd (.t 44)
  (.sq (.rg [⟨(some 45), none, .mv (.t 8)⟩,
    ⟨(some 46), none, .nc (.t 45)⟩,
    ⟨(some 47), none, .fa (.t 46) 1⟩,
    ⟨(some 48), none, .ld (.t 47) 1 false⟩,
    ⟨(some 9), none, .mv (.t 48)⟩])
  (.rg [⟨(some 49), none, .mv (.t 8)⟩,
    ⟨(some 50), none, .nc (.t 49)⟩,
    ⟨(some 51), none, .fa (.t 50) 1⟩,
    ⟨none, none, .st (.t 51) (.c (.slice none 0 0)) 1⟩]))
  .sk))
  (.sq (.rg [⟨(some 52), none, .mv (.t 8)⟩,
    ⟨(some 53), none, .mv (.t 1)⟩,
    ⟨(some 54), none, .nc (.t 52)⟩,
    ⟨(some 55), none, .fa (.t 54) 0⟩,
    ⟨none, none, .st (.t 55) (.t 53) 1⟩])
  (.sq (.rg [⟨(some 56), none, .mv (.t 8)⟩,
    ⟨(some 57), none, .mv (.t 8)⟩,
    ⟨(some 58), none, .nc (.t 57)⟩,
    ⟨(some 59), none, .fa (.t 58) 1⟩,
    ⟨(some 60), none, .ld (.t 59) 1 false⟩,
    ⟨(some 61), none, .mv (.t 2)⟩,
    ⟨(some 62), none, .ap 27 3 1 8 [(.int .i64 0)] (.t 60) (.t 61)⟩,
    ⟨(some 63), none, .nc (.t 56)⟩,
    ⟨(some 64), none, .fa (.t 63) 1⟩,
    ⟨none, none, .st (.t 64) (.t 62) 1⟩])
  (.sq (.rg [⟨(some 65), none, .mv (.t 9)⟩,
    ⟨(some 6), none, .mv (.t 65)⟩,
    ⟨(some 7), none, .mv (.c (.int .i64 0))⟩])
  .rt)))))))))⟩
theorem k41 : cF Try.prog Try.f41 = some c41 := by kernel_rfl
/-- (*rundale/limbo.Limbo).Len -/
def c42 : Fu := ⟨20, [.t 2],
  (.sq (.rg [⟨(some 2), none, .mv (.c (.int .i64 0))⟩])
  (.sq (.rg [⟨(some 3), none, .mv (.c (.int .i64 0))⟩])
  (.sq (.sq (.rg [⟨(some 6), none, .mv (.t 0)⟩,
    ⟨(some 7), none, .nc (.t 6)⟩,
    ⟨(some 8), none, .fa (.t 7) 0⟩,
    ⟨(some 9), none, .ld (.t 8) 6 true⟩,
    ⟨(some 10), none, .mv (.c (.int .i64 0))⟩])
  (.bl 0
  (.lp
  (.sq (.rg [⟨(some 11), none, .ib .lss (.t 10) (.c (.int .i64 3))⟩])
  (.sq (.cd (.t 11)
  .sk
  (.ex 0))
  (.sq (.bl 1
  (.sq (.rg [⟨(some 12), none, .iv (.t 9) (.t 10) 3 2 true⟩,
    ⟨(some 5), none, .al 82 [(.int .i64 0), (.slice none 0 0)]⟩,
    ⟨none, none, .st (.t 5) (.t 12) 2⟩])
  (.rg [⟨(some 13), none, .mv (.t 3)⟩,
    ⟨(some 14), none, .fa (.t 5) 1⟩,
    ⟨(some 15), none, .ld (.t 14) 1 false⟩,
    ⟨(some 16), none, .len (.t 15)⟩,
    ⟨(some 17), none, .ib .add (.t 13) (.t 16)⟩,
    ⟨(some 3), none, .mv (.t 17)⟩])))
  (.rg [⟨(some 18), none, .ib .add (.t 10) (.c (.int .i64 1))⟩,
    ⟨(some 10), none, .mv (.t 18)⟩])))))))
  (.sq (.rg [⟨(some 19), none, .mv (.t 3)⟩,
    ⟨(some 2), none, .mv (.t 19)⟩])
  .rt))))⟩
theorem k42 : cF Try.prog Try.f42 = some c42 := by kernel_rfl
/-- (*rundale/limbo.Limbo).Open -/
def c43 : Fu := ⟨15, [.t 4],
  (.sq (.rg [⟨(some 3), none, .bx 3 (.t 1)⟩,
    ⟨(some 4), none, .mv (.c (.bool false))⟩])
  (.sq (.rg [⟨(some 5), none, .ld (.t 3) 1 false⟩,
    ⟨(some 6), none, .ib .geq (.t 5) (.c (.int .i64 2))⟩,
    ⟨(some 7), none, .mv (.t 6)⟩,
    ⟨(some 8), (some (7, true)), .mv (.t 0)⟩,
    ⟨(some 9), (some (7, true)), .nc (.t 8)⟩,
    ⟨(some 10), (some (7, true)), .fa (.t 9) 0⟩,
    ⟨(some 11), (some (7, true)), .sa 3 2 (.t 10) none none none⟩,
    ⟨(some 12), (some (7, true)), .mf (.func 58) [] [(.t 3)]⟩,
    ⟨(some 13), (some (7, true)), .ca 57 [(.t 11), (.t 12)]⟩,
    ⟨(some 14), none, .pk (.t 7) (.t 13) (.c (.bool false))⟩,
    ⟨(some 4), none, .mv (.t 14)⟩])
  .rt))⟩
theorem k43 : cF Try.prog Try.f43 = some c43 := by kernel_rfl
/-- (*rundale/limbo.Limbo).Bucket -/
def c44 : Fu := ⟨38, [.t 4, .t 5],
  (.sq (.rg [⟨(some 4), none, .mv (.c (.int .i64 0))⟩,
    ⟨(some 5), none, .mv (.c (.slice none 0 0))⟩])
  (.sq (.sq (.rg [⟨(some 6), none, .mv (.t 1)⟩,
    ⟨(some 7), none, .ib .lss (.t 6) (.c (.int .i64 0))⟩,
    ⟨(some 8), none, .mv (.t 7)⟩,
    ⟨(some 9), (some (8, false)), .mv (.t 1)⟩,
    ⟨(some 10), (some (8, false)), .ib .geq (.t 9) (.c (.int .i64 3))⟩,
    ⟨(some 11), none, .pk (.t 8) (.c (.bool true)) (.t 10)⟩,
    ⟨(some 12), none, .mv (.t 11)⟩,
    ⟨(some 13), (some (12, false)), .mv (.t 0)⟩,
    ⟨(some 14), (some (12, false)), .mv (.t 1)⟩,
    ⟨(some 15), (some (12, false)), .nc (.t 13)⟩,
    ⟨(some 16), (some (12, false)), .fa (.t 15) 0⟩,
    ⟨(some 17), (some (12, false)), .iaa (.t 16) (.t 14) 3 2⟩,
    ⟨(some 18), (some (12, false)), .fa (.t 17) 1⟩,
    ⟨(some 19), (some (12, false)), .ld (.t 18) 1 false⟩,
    ⟨(some 20), (some (12, false)), .len (.t 19)⟩,
    ⟨(some 21), (some (12, false)), .ib .eql (.t 20) (.c (.int .i64 0))⟩,
    ⟨(some 22), none, .pk (.t 12) (.c (.bool true)) (.t 21)⟩])
  (.cd (.t 22)
  (.sq (.rg [⟨(some 4), none, .mv (.c (.int .i64 0))⟩,
    ⟨(some 5), none, .mv (.c (.slice none 0 0))⟩])
  .rt)
  .sk))
  (.sq (.rd [⟨0, 0, [0], ⟨(some 23), none, .mv (.t 0)⟩⟩,
    ⟨1, 0, [1], ⟨(some 24), none, .mv (.t 1)⟩⟩,
    ⟨2, 1, [23], ⟨(some 25), none, .nc (.t 23)⟩⟩,
    ⟨3, 5, [25], ⟨(some 26), none, .fa (.t 25) 0⟩⟩,
    ⟨4, 15, [26, 24], ⟨(some 27), none, .iaa (.t 26) (.t 24) 3 2⟩⟩,
    ⟨5, 31, [27], ⟨(some 28), none, .fa (.t 27) 0⟩⟩,
    ⟨6, 63, [28], ⟨(some 29), none, .ld (.t 28) 1 false⟩⟩,
    ⟨7, 0, [0], ⟨(some 30), none, .mv (.t 0)⟩⟩,
    ⟨8, 0, [1], ⟨(some 31), none, .mv (.t 1)⟩⟩,
    ⟨9, 128, [30], ⟨(some 32), none, .nc (.t 30)⟩⟩,
    ⟨10, 640, [32], ⟨(some 33), none, .fa (.t 32) 0⟩⟩,
    ⟨11, 1920, [33, 31], ⟨(some 34), none, .iaa (.t 33) (.t 31) 3 2⟩⟩,
    ⟨12, 3968, [34], ⟨(some 35), none, .fa (.t 34) 1⟩⟩,
    ⟨13, 8064, [35], ⟨(some 36), none, .ld (.t 35) 1 false⟩⟩,
    ⟨14, 16256, [36], ⟨(some 37), none, .ca 52 [(.t 36)]⟩⟩,
    ⟨15, 32767, [29], ⟨(some 4), none, .mv (.t 29)⟩⟩,
    ⟨16, 65535, [37], ⟨(some 5), none, .mv (.t 37)⟩⟩])
  .rt)))⟩
theorem k44 : cF Try.prog Try.f44 = some c44 := by kernel_rfl
/-- rundale/rundaleref5.NewLimbo -/
def c45 : Fu := ⟨3, [.t 0],
  (.sq (.rg [⟨(some 0), none, .mv (.c (.pointer none))⟩])
  (.sq (.rg [⟨(some 1), none, .bd [(.int .i64 0), (.int .i64 0), (.int .i64 0), (.slice none 0 0), (.slice none 0 0), (.slice none 0 0), (.int .i64 0)] [(6, 1, (.c (.int .i64 (-1))))]⟩,
    ⟨(some 2), none, .bx 93 (.t 1)⟩,
    ⟨(some 0), none, .mv (.t 2)⟩])
  .rt))⟩
theorem k45 : cF Try.prog Try.f45 = some c45 := by kernel_rfl
/-- (*rundale/rundaleref5.Limbo).Open -/
def c46 : Fu := ⟨13, [.t 4],
  (.sq (.rg [⟨(some 4), none, .mv (.c (.bool false))⟩])
  (.sq (.rg [⟨(some 5), none, .mv (.t 1)⟩,
    ⟨(some 6), none, .ib .geq (.t 5) (.c (.int .i64 2))⟩,
    ⟨(some 7), none, .mv (.t 6)⟩,
    ⟨(some 8), (some (7, true)), .mv (.t 0)⟩,
    ⟨(some 9), (some (7, true)), .mv (.t 1)⟩,
    ⟨(some 10), (some (7, true)), .ca 59 [(.t 8), (.t 9)]⟩,
    ⟨(some 11), (some (7, true)), .ib .geq (.t 10) (.c (.int .i64 0))⟩,
    ⟨(some 12), none, .pk (.t 7) (.t 11) (.c (.bool false))⟩,
    ⟨(some 4), none, .mv (.t 12)⟩])
  .rt))⟩
theorem k46 : cF Try.prog Try.f46 = some c46 := by kernel_rfl
/-- (*rundale/rundaleref5.Limbo).Retire -/
def c47 : Fu := ⟨85, [.t 6, .t 7],
  (.sq (.rg [⟨(some 6), none, .mv (.c (.slice none 0 0))⟩,
    ⟨(some 7), none, .mv (.c (.bool false))⟩])
  (.sq (.sq (.rg [⟨(some 10), none, .mv (.t 2)⟩,
    ⟨(some 11), none, .len (.t 10)⟩,
    ⟨(some 12), none, .ib .eql (.t 11) (.c (.int .i64 0))⟩,
    ⟨(some 13), none, .mv (.t 12)⟩,
    ⟨(some 14), (some (13, false)), .mv (.t 1)⟩,
    ⟨(some 15), (some (13, false)), .ib .lss (.t 14) (.c (.int .i64 0))⟩,
    ⟨(some 16), none, .pk (.t 13) (.c (.bool true)) (.t 15)⟩,
    ⟨(some 17), none, .mv (.t 16)⟩,
    ⟨(some 18), (some (17, false)), .mv (.t 1)⟩,
    ⟨(some 19), (some (17, false)), .ib .gtr (.t 18) (.c (.int .i64 4611686018427387903))⟩,
    ⟨(some 20), none, .pk (.t 17) (.c (.bool true)) (.t 19)⟩,
    ⟨(some 21), none, .mv (.t 20)⟩,
    ⟨(some 22), (some (21, false)), .mv (.t 1)⟩,
    ⟨(some 23), (some (21, false)), .mv (.t 0)⟩,
    ⟨(some 24), (some (21, false)), .nc (.t 23)⟩,
    ⟨(some 25), (some (21, false)), .fa (.t 24) 6⟩,
    ⟨(some 26), (some (21, false)), .ld (.t 25) 1 false⟩,
    ⟨(some 27), (some (21, false)), .ib .lss (.t 22) (.t 26)⟩,
    ⟨(some 28), none, .pk (.t 21) (.c (.bool true)) (.t 27)⟩])
  (.cd (.t 28)
  (.sq (.rg [⟨(some 6), none, .mv (.c (.slice none 0 0))⟩,
    ⟨(some 7), none, .mv (.c (.bool false))⟩])
  .rt)
  .sk))
  (.sq (.rg [⟨(some 29), none, .mv (.t 0)⟩,
    ⟨(some 30), none, .mv (.t 1)⟩,
    ⟨(some 31), none, .nc (.t 29)⟩,
    ⟨(some 32), none, .fa (.t 31) 6⟩,
    ⟨none, none, .st (.t 32) (.t 30) 1⟩])
  (.sq (.rg [⟨(some 33), none, .mv (.t 1)⟩,
    ⟨(some 34), none, .ib .rem (.t 33) (.c (.int .i64 3))⟩,
    ⟨(some 8), none, .mv (.t 34)⟩])
  (.sq (.rg [⟨(some 9), none, .mv (.c (.slice none 0 0))⟩])
  (.sq (.sq (.rg [⟨(some 35), none, .mv (.t 0)⟩,
    ⟨(some 36), none, .mv (.t 8)⟩,
    ⟨(some 37), none, .nc (.t 35)⟩,
    ⟨(some 38), none, .fa (.t 37) 3⟩,
    ⟨(some 39), none, .iaa (.t 38) (.t 36) 3 1⟩,
    ⟨(some 40), none, .ld (.t 39) 1 false⟩,
    ⟨(some 41), none, .len (.t 40)⟩,
    ⟨(some 42), none, .ib .gtr (.t 41) (.c (.int .i64 0))⟩,
    ⟨(some 43), none, .mv (.t 42)⟩,
    ⟨(some 44), (some (43, true)), .mv (.t 0)⟩,
    ⟨(some 45), (some (43, true)), .mv (.t 8)⟩,
    ⟨(some 46), (some (43, true)), .nc (.t 44)⟩,
    ⟨(some 47), (some (43, true)), .fa (.t 46) 0⟩,
    ⟨(some 48), (some (43, true)), .iaa (.t 47) (.t 45) 3 1⟩,
    ⟨(some 49), (some (43, true)), .ld (.t 48) 1 false⟩,
    ⟨(some 50), (some (43, true)), .mv (.t 1)⟩,
    ⟨(some 51), (some (43, true)), .ib .lss (.t 49) (.t 50)⟩,
    ⟨(some 52), none, .pk (.t 43) (.t 51) (.c (.bool false))⟩])
  (.cd (.t 52)
  (.sq (.rg [⟨(some 53), none, .mv (.t 0)⟩,
    ⟨(some 54), none, .mv (.t 8)⟩,
    ⟨(some 55), none, .nc (.t 53)⟩,
    ⟨(some 56), none, .fa (.t 55) 3⟩,
    ⟨(some 57), none, .iaa (.t 56) (.t 54) 3 1⟩,
    ⟨(some 58), none, .ld (.t 57) 1 false⟩,
    ⟨(some 9), none, .mv (.t 58)⟩])
  (.rg [⟨(some 59), none, .mv (.t 0)⟩,
    ⟨(some 60), none, .mv (.t 8)⟩,
    ⟨(some 61), none, .nc (.t 59)⟩,
    ⟨(some 62), none, .fa (.t 61) 3⟩,
    ⟨(some 63), none, .iaa (.t 62) (.t 60) 3 1⟩,
    ⟨none, none, .st (.t 63) (.c (.slice none 0 0)) 1⟩]))
  .sk))
  (.sq (.rg [⟨(some 64), none, .mv (.t 0)⟩,
    ⟨(some 65), none, .mv (.t 8)⟩,
    ⟨(some 66), none, .mv (.t 1)⟩,
    ⟨(some 67), none, .nc (.t 64)⟩,
    ⟨(some 68), none, .fa (.t 67) 0⟩,
    ⟨(some 69), none, .iaa (.t 68) (.t 65) 3 1⟩,
    ⟨none, none, .st (.t 69) (.t 66) 1⟩])
  (.sq (.rd [⟨0, 0, [0], ⟨(some 70), none, .mv (.t 0)⟩⟩,
    ⟨1, 0, [8], ⟨(some 71), none, .mv (.t 8)⟩⟩,
    ⟨2, 0, [0], ⟨(some 72), none, .mv (.t 0)⟩⟩,
    ⟨3, 0, [8], ⟨(some 73), none, .mv (.t 8)⟩⟩,
    ⟨4, 4, [72], ⟨(some 74), none, .nc (.t 72)⟩⟩,
    ⟨5, 20, [74], ⟨(some 75), none, .fa (.t 74) 3⟩⟩,
    ⟨6, 60, [75, 73], ⟨(some 76), none, .iaa (.t 75) (.t 73) 3 1⟩⟩,
    ⟨7, 124, [76], ⟨(some 77), none, .ld (.t 76) 1 false⟩⟩,
    ⟨8, 252, [77], ⟨(some 78), none, .ap 27 3 1 8 [(.int .i64 0)] (.c (.slice none 0 0)) (.t 77)⟩⟩,
    ⟨9, 0, [2], ⟨(some 79), none, .mv (.t 2)⟩⟩,
    ⟨10, 1020, [78, 79], ⟨(some 80), none, .ap 27 3 1 8 [(.int .i64 0)] (.t 78) (.t 79)⟩⟩,
    ⟨11, 1, [70], ⟨(some 81), none, .nc (.t 70)⟩⟩,
    ⟨12, 2049, [81], ⟨(some 82), none, .fa (.t 81) 3⟩⟩,
    ⟨13, 8191, [82, 71], ⟨(some 83), none, .iaa (.t 82) (.t 71) 3 1⟩⟩,
    ⟨14, 16383, [83, 80], ⟨none, none, .st (.t 83) (.t 80) 1⟩⟩])
  (.sq (.rg [⟨(some 84), none, .mv (.t 9)⟩,
    ⟨(some 6), none, .mv (.t 84)⟩,
    ⟨(some 7), none, .mv (.c (.bool true))⟩])
  .rt)))))))))⟩
theorem k47 : cF Try.prog Try.f47 = some c47 := by kernel_rfl
/-- (*rundale/rundaleref5.Limbo).Ready -/
def c48 : Fu := ⟨27, [.t 4],
  (.sq (.rg [⟨(some 4), none, .mv (.c (.slice none 0 0))⟩])
  (.sq (.rg [⟨(some 5), none, .mv (.c (.slice none 0 0))⟩])
  (.sq (.bl 0
  (.lp
  (.sq (.sq (.rg [⟨(some 7), none, .mv (.t 0)⟩,
    ⟨(some 8), none, .mv (.t 1)⟩,
    ⟨(some 9), none, .ca 46 [(.t 7), (.t 8)]⟩])
  (.cd (.t 9)
  .sk
  (.ex 0)))
  (.bl 1
  (.sq (.rg [⟨(some 10), none, .mv (.t 0)⟩,
    ⟨(some 11), none, .mv (.t 1)⟩,
    ⟨(some 12), none, .ca 59 [(.t 10), (.t 11)]⟩,
    ⟨(some 6), none, .mv (.t 12)⟩])
  (.sq (.rg [⟨(some 13), none, .mv (.t 5)⟩,
    ⟨(some 14), none, .mv (.t 0)⟩,
    ⟨(some 15), none, .mv (.t 6)⟩,
    ⟨(some 16), none, .nc (.t 14)⟩,
    ⟨(some 17), none, .fa (.t 16) 3⟩,
    ⟨(some 18), none, .iaa (.t 17) (.t 15) 3 1⟩,
    ⟨(some 19), none, .ld (.t 18) 1 false⟩,
    ⟨(some 20), none, .ap 27 3 1 8 [(.int .i64 0)] (.t 13) (.t 19)⟩,
    ⟨(some 5), none, .mv (.t 20)⟩])
  (.rg [⟨(some 21), none, .mv (.t 0)⟩,
    ⟨(some 22), none, .mv (.t 6)⟩,
    ⟨(some 23), none, .nc (.t 21)⟩,
    ⟨(some 24), none, .fa (.t 23) 3⟩,
    ⟨(some 25), none, .iaa (.t 24) (.t 22) 3 1⟩,
    ⟨none, none, .st (.t 25) (.c (.slice none 0 0)) 1⟩])))))))
  (.sq (.rg [⟨(some 26), none, .mv (.t 5)⟩,
    ⟨(some 4), none, .mv (.t 26)⟩])
  .rt))))⟩
theorem k48 : cF Try.prog Try.f48 = some c48 := by kernel_rfl
/-- (*rundale/rundaleref5.Limbo).Bucket -/
def c49 : Fu := ⟨35, [.t 4, .t 5],
  (.sq (.rg [⟨(some 4), none, .mv (.c (.int .i64 0))⟩,
    ⟨(some 5), none, .mv (.c (.slice none 0 0))⟩])
  (.sq (.sq (.rg [⟨(some 6), none, .mv (.t 1)⟩,
    ⟨(some 7), none, .ib .lss (.t 6) (.c (.int .i64 0))⟩,
    ⟨(some 8), none, .mv (.t 7)⟩,
    ⟨(some 9), (some (8, false)), .mv (.t 1)⟩,
    ⟨(some 10), (some (8, false)), .ib .gtr (.t 9) (.c (.int .i64 2))⟩,
    ⟨(some 11), none, .pk (.t 8) (.c (.bool true)) (.t 10)⟩,
    ⟨(some 12), none, .mv (.t 11)⟩,
    ⟨(some 13), (some (12, false)), .mv (.t 0)⟩,
    ⟨(some 14), (some (12, false)), .mv (.t 1)⟩,
    ⟨(some 15), (some (12, false)), .nc (.t 13)⟩,
    ⟨(some 16), (some (12, false)), .fa (.t 15) 3⟩,
    ⟨(some 17), (some (12, false)), .iaa (.t 16) (.t 14) 3 1⟩,
    ⟨(some 18), (some (12, false)), .ld (.t 17) 1 false⟩,
    ⟨(some 19), (some (12, false)), .len (.t 18)⟩,
    ⟨(some 20), (some (12, false)), .ib .eql (.t 19) (.c (.int .i64 0))⟩,
    ⟨(some 21), none, .pk (.t 12) (.c (.bool true)) (.t 20)⟩])
  (.cd (.t 21)
  (.sq (.rg [⟨(some 4), none, .mv (.c (.int .i64 0))⟩,
    ⟨(some 5), none, .mv (.c (.slice none 0 0))⟩])
  .rt)
  .sk))
  (.sq (.rd [⟨0, 0, [0], ⟨(some 22), none, .mv (.t 0)⟩⟩,
    ⟨1, 0, [1], ⟨(some 23), none, .mv (.t 1)⟩⟩,
    ⟨2, 1, [22], ⟨(some 24), none, .nc (.t 22)⟩⟩,
    ⟨3, 5, [24], ⟨(some 25), none, .fa (.t 24) 0⟩⟩,
    ⟨4, 15, [25, 23], ⟨(some 26), none, .iaa (.t 25) (.t 23) 3 1⟩⟩,
    ⟨5, 31, [26], ⟨(some 27), none, .ld (.t 26) 1 false⟩⟩,
    ⟨6, 0, [0], ⟨(some 28), none, .mv (.t 0)⟩⟩,
    ⟨7, 0, [1], ⟨(some 29), none, .mv (.t 1)⟩⟩,
    ⟨8, 64, [28], ⟨(some 30), none, .nc (.t 28)⟩⟩,
    ⟨9, 320, [30], ⟨(some 31), none, .fa (.t 30) 3⟩⟩,
    ⟨10, 960, [31, 29], ⟨(some 32), none, .iaa (.t 31) (.t 29) 3 1⟩⟩,
    ⟨11, 1984, [32], ⟨(some 33), none, .ld (.t 32) 1 false⟩⟩,
    ⟨12, 4032, [33], ⟨(some 34), none, .ap 27 3 1 8 [(.int .i64 0)] (.c (.slice none 0 0)) (.t 33)⟩⟩,
    ⟨13, 8191, [27], ⟨(some 4), none, .mv (.t 27)⟩⟩,
    ⟨14, 16383, [34], ⟨(some 5), none, .mv (.t 34)⟩⟩])
  .rt)))⟩
theorem k49 : cF Try.prog Try.f49 = some c49 := by kernel_rfl
/-- (*rundale/rundaleref5.Limbo).Len -/
def c50 : Fu := ⟨23, [.t 2],
  (.sq (.rg [⟨(some 2), none, .mv (.c (.int .i64 0))⟩])
  (.sq (.rd [⟨0, 0, [0], ⟨(some 3), none, .mv (.t 0)⟩⟩,
    ⟨1, 1, [3], ⟨(some 4), none, .nc (.t 3)⟩⟩,
    ⟨2, 3, [4], ⟨(some 5), none, .fa (.t 4) 3⟩⟩,
    ⟨3, 7, [5], ⟨(some 6), none, .iaa (.t 5) (.c (.int .i64 0)) 3 1⟩⟩,
    ⟨4, 15, [6], ⟨(some 7), none, .ld (.t 6) 1 false⟩⟩,
    ⟨5, 31, [7], ⟨(some 8), none, .len (.t 7)⟩⟩,
    ⟨6, 0, [0], ⟨(some 9), none, .mv (.t 0)⟩⟩,
    ⟨7, 64, [9], ⟨(some 10), none, .nc (.t 9)⟩⟩,
    ⟨8, 192, [10], ⟨(some 11), none, .fa (.t 10) 3⟩⟩,
    ⟨9, 448, [11], ⟨(some 12), none, .iaa (.t 11) (.c (.int .i64 1)) 3 1⟩⟩,
    ⟨10, 960, [12], ⟨(some 13), none, .ld (.t 12) 1 false⟩⟩,
    ⟨11, 1984, [13], ⟨(some 14), none, .len (.t 13)⟩⟩,
    ⟨12, 4095, [8, 14], ⟨(some 15), none, .ib .add (.t 8) (.t 14)⟩⟩,
    ⟨13, 0, [0], ⟨(some 16), none, .mv (.t 0)⟩⟩,
    ⟨14, 8192, [16], ⟨(some 17), none, .nc (.t 16)⟩⟩,
    ⟨15, 24576, [17], ⟨(some 18), none, .fa (.t 17) 3⟩⟩,
    ⟨16, 57344, [18], ⟨(some 19), none, .iaa (.t 18) (.c (.int .i64 2)) 3 1⟩⟩,
    ⟨17, 122880, [19], ⟨(some 20), none, .ld (.t 19) 1 false⟩⟩,
    ⟨18, 253952, [20], ⟨(some 21), none, .len (.t 20)⟩⟩,
    ⟨19, 524287, [15, 21], ⟨(some 22), none, .ib .add (.t 15) (.t 21)⟩⟩,
    ⟨20, 1048575, [22], ⟨(some 2), none, .mv (.t 22)⟩⟩])
  .rt))⟩
theorem k50 : cF Try.prog Try.f50 = some c50 := by kernel_rfl
/-- (*rundale/stash.Stash).cut -/
def c51 : Fu := ⟨24, [.t 4],
  (.sq (.rg [⟨(some 4), none, .mv (.c (.slice none 0 0))⟩])
  (.sq (.rg [⟨(some 6), none, .mv (.t 0)⟩,
    ⟨(some 7), none, .nc (.t 6)⟩,
    ⟨(some 8), none, .fa (.t 7) 1⟩,
    ⟨(some 9), none, .ld (.t 8) 1 false⟩,
    ⟨(some 10), none, .mv (.t 1)⟩,
    ⟨(some 11), none, .sl 1 (.t 9) none (some (.t 10)) none⟩,
    ⟨(some 12), none, .ca 52 [(.t 11)]⟩,
    ⟨(some 5), none, .mv (.t 12)⟩])
  (.sq (.rg [⟨(some 13), none, .mv (.t 0)⟩,
    ⟨(some 14), none, .mv (.t 0)⟩,
    ⟨(some 15), none, .nc (.t 14)⟩,
    ⟨(some 16), none, .fa (.t 15) 1⟩,
    ⟨(some 17), none, .ld (.t 16) 1 false⟩,
    ⟨(some 18), none, .mv (.t 1)⟩,
    ⟨(some 19), none, .sl 1 (.t 17) (some (.t 18)) none none⟩,
    ⟨(some 20), none, .ca 52 [(.t 19)]⟩,
    ⟨(some 21), none, .nc (.t 13)⟩,
    ⟨(some 22), none, .fa (.t 21) 1⟩,
    ⟨none, none, .st (.t 22) (.t 20) 1⟩])
  (.sq (.rg [⟨(some 23), none, .mv (.t 5)⟩,
    ⟨(some 4), none, .mv (.t 23)⟩])
  .rt))))⟩
theorem k51 : cF Try.prog Try.f51 = some c51 := by kernel_rfl
/-- slices.Clone[[]int,int] -/
def c52 : Fu := ⟨8, [.t 2],
  (.sq (.rg [⟨(some 2), none, .mv (.c (.slice none 0 0))⟩])
  (.sq (.sq (.rg [⟨(some 3), none, .mv (.t 0)⟩,
    ⟨(some 4), none, .en 1 false (.t 3) (.c (.slice none 0 0))⟩])
  (.cd (.t 4)
  (.sq (.rg [⟨(some 2), none, .mv (.c (.slice none 0 0))⟩])
  .rt)
  .sk))
  (.sq (.rg [⟨(some 5), none, .bs 3 0 [] []⟩,
    ⟨(some 6), none, .mv (.t 0)⟩,
    ⟨(some 7), none, .ap 27 3 1 8 [(.int .i64 0)] (.t 5) (.t 6)⟩,
    ⟨(some 2), none, .mv (.t 7)⟩])
  .rt)))⟩
theorem k52 : cF Try.prog Try.f52 = some c52 := by kernel_rfl
/-- rundale/lay.May -/
def c53 : Fu := ⟨37, [.t 2],
  (.sq (.rg [⟨(some 1), none, .bx 47 (.t 0)⟩,
    ⟨(some 2), none, .mv (.c (.bool false))⟩])
  (.sq (.rg [⟨(some 3), none, .fa (.t 1) 0⟩,
    ⟨(some 4), none, .ld (.t 3) 1 false⟩,
    ⟨(some 5), none, .ca 60 [(.t 4), (.c (.int .i64 1)), (.c (.int .i64 64))]⟩,
    ⟨(some 6), none, .mv (.t 5)⟩,
    ⟨(some 7), (some (6, true)), .fa (.t 1) 1⟩,
    ⟨(some 8), (some (6, true)), .ld (.t 7) 1 false⟩,
    ⟨(some 9), (some (6, true)), .ca 60 [(.t 8), (.c (.int .i64 1)), (.c (.int .i64 4096))]⟩,
    ⟨(some 10), none, .pk (.t 6) (.t 9) (.c (.bool false))⟩,
    ⟨(some 11), none, .mv (.t 10)⟩,
    ⟨(some 12), (some (11, true)), .fa (.t 1) 2⟩,
    ⟨(some 13), (some (11, true)), .ld (.t 12) 1 false⟩,
    ⟨(some 14), (some (11, true)), .ca 60 [(.t 13), (.c (.int .i64 8)), (.c (.int .i64 1024))]⟩,
    ⟨(some 15), none, .pk (.t 11) (.t 14) (.c (.bool false))⟩,
    ⟨(some 16), none, .mv (.t 15)⟩,
    ⟨(some 17), (some (16, true)), .fa (.t 1) 2⟩,
    ⟨(some 18), (some (16, true)), .ld (.t 17) 1 false⟩,
    ⟨(some 19), (some (16, true)), .ib .rem (.t 18) (.c (.int .i64 8))⟩,
    ⟨(some 20), (some (16, true)), .ib .eql (.t 19) (.c (.int .i64 0))⟩,
    ⟨(some 21), none, .pk (.t 16) (.t 20) (.c (.bool false))⟩,
    ⟨(some 22), none, .mv (.t 21)⟩,
    ⟨(some 23), (some (22, true)), .fa (.t 1) 3⟩,
    ⟨(some 24), (some (22, true)), .ld (.t 23) 1 false⟩,
    ⟨(some 25), (some (22, true)), .ca 60 [(.t 24), (.c (.int .i64 1)), (.c (.int .i64 4096))]⟩,
    ⟨(some 26), none, .pk (.t 22) (.t 25) (.c (.bool false))⟩,
    ⟨(some 27), none, .mv (.t 26)⟩,
    ⟨(some 28), (some (27, true)), .fa (.t 1) 4⟩,
    ⟨(some 29), (some (27, true)), .ld (.t 28) 1 false⟩,
    ⟨(some 30), (some (27, true)), .ca 60 [(.t 29), (.c (.int .i64 0)), (.c (.int .i64 64))]⟩,
    ⟨(some 31), none, .pk (.t 27) (.t 30) (.c (.bool false))⟩,
    ⟨(some 32), none, .mv (.t 31)⟩,
    ⟨(some 33), (some (32, true)), .fa (.t 1) 5⟩,
    ⟨(some 34), (some (32, true)), .ld (.t 33) 1 false⟩,
    ⟨(some 35), (some (32, true)), .ca 60 [(.t 34), (.c (.int .i64 1)), (.c (.int .i64 8))]⟩,
    ⟨(some 36), none, .pk (.t 32) (.t 35) (.c (.bool false))⟩,
    ⟨(some 2), none, .mv (.t 36)⟩])
  .rt))⟩
theorem k53 : cF Try.prog Try.f53 = some c53 := by kernel_rfl
/-- rundale/rundaleref1.May -/
def c54 : Fu := ⟨37, [.t 2],
  (.sq (.rg [⟨(some 1), none, .bx 47 (.t 0)⟩,
    ⟨(some 2), none, .mv (.c (.bool false))⟩])
  (.sq (.rg [⟨(some 3), none, .fa (.t 1) 0⟩,
    ⟨(some 4), none, .ld (.t 3) 1 false⟩,
    ⟨(some 5), none, .ca 61 [(.t 4), (.c (.int .i64 1)), (.c (.int .i64 64))]⟩,
    ⟨(some 6), none, .mv (.t 5)⟩,
    ⟨(some 7), (some (6, true)), .fa (.t 1) 1⟩,
    ⟨(some 8), (some (6, true)), .ld (.t 7) 1 false⟩,
    ⟨(some 9), (some (6, true)), .ca 61 [(.t 8), (.c (.int .i64 1)), (.c (.int .i64 4096))]⟩,
    ⟨(some 10), none, .pk (.t 6) (.t 9) (.c (.bool false))⟩,
    ⟨(some 11), none, .mv (.t 10)⟩,
    ⟨(some 12), (some (11, true)), .fa (.t 1) 2⟩,
    ⟨(some 13), (some (11, true)), .ld (.t 12) 1 false⟩,
    ⟨(some 14), (some (11, true)), .ca 61 [(.t 13), (.c (.int .i64 8)), (.c (.int .i64 1024))]⟩,
    ⟨(some 15), none, .pk (.t 11) (.t 14) (.c (.bool false))⟩,
    ⟨(some 16), none, .mv (.t 15)⟩,
    ⟨(some 17), (some (16, true)), .fa (.t 1) 2⟩,
    ⟨(some 18), (some (16, true)), .ld (.t 17) 1 false⟩,
    ⟨(some 19), (some (16, true)), .ib .rem (.t 18) (.c (.int .i64 8))⟩,
    ⟨(some 20), (some (16, true)), .ib .eql (.t 19) (.c (.int .i64 0))⟩,
    ⟨(some 21), none, .pk (.t 16) (.t 20) (.c (.bool false))⟩,
    ⟨(some 22), none, .mv (.t 21)⟩,
    ⟨(some 23), (some (22, true)), .fa (.t 1) 3⟩,
    ⟨(some 24), (some (22, true)), .ld (.t 23) 1 false⟩,
    ⟨(some 25), (some (22, true)), .ca 61 [(.t 24), (.c (.int .i64 1)), (.c (.int .i64 4096))]⟩,
    ⟨(some 26), none, .pk (.t 22) (.t 25) (.c (.bool false))⟩,
    ⟨(some 27), none, .mv (.t 26)⟩,
    ⟨(some 28), (some (27, true)), .fa (.t 1) 4⟩,
    ⟨(some 29), (some (27, true)), .ld (.t 28) 1 false⟩,
    ⟨(some 30), (some (27, true)), .ca 61 [(.t 29), (.c (.int .i64 0)), (.c (.int .i64 64))]⟩,
    ⟨(some 31), none, .pk (.t 27) (.t 30) (.c (.bool false))⟩,
    ⟨(some 32), none, .mv (.t 31)⟩,
    ⟨(some 33), (some (32, true)), .fa (.t 1) 5⟩,
    ⟨(some 34), (some (32, true)), .ld (.t 33) 1 false⟩,
    ⟨(some 35), (some (32, true)), .ca 61 [(.t 34), (.c (.int .i64 1)), (.c (.int .i64 8))]⟩,
    ⟨(some 36), none, .pk (.t 32) (.t 35) (.c (.bool false))⟩,
    ⟨(some 2), none, .mv (.t 36)⟩])
  .rt))⟩
theorem k54 : cF Try.prog Try.f54 = some c54 := by kernel_rfl
/-- (*rundale/rundalemake.Seq).N -/
def c55 : Fu := ⟨36, [.t 4],
  (.sq (.rg [⟨(some 4), none, .mv (.c (.int .i64 0))⟩])
  (.sq (.rg [⟨(some 5), none, .mv (.c (.int .i64 0))⟩])
  (.sq (.sq (.rd [⟨0, 0, [0], ⟨(some 6), none, .mv (.t 0)⟩⟩,
    ⟨1, 1, [6], ⟨(some 7), none, .nc (.t 6)⟩⟩,
    ⟨2, 3, [7], ⟨(some 8), none, .fa (.t 7) 1⟩⟩,
    ⟨3, 7, [8], ⟨(some 9), none, .ld (.t 8) 1 false⟩⟩,
    ⟨4, 0, [0], ⟨(some 10), none, .mv (.t 0)⟩⟩,
    ⟨5, 16, [10], ⟨(some 11), none, .nc (.t 10)⟩⟩,
    ⟨6, 48, [11], ⟨(some 12), none, .fa (.t 11) 0⟩⟩,
    ⟨7, 112, [12], ⟨(some 13), none, .ld (.t 12) 1 false⟩⟩,
    ⟨8, 240, [13], ⟨(some 14), none, .len (.t 13)⟩⟩,
    ⟨9, 511, [9, 14], ⟨(some 15), none, .ib .lss (.t 9) (.t 14)⟩⟩])
  (.cd (.t 15)
  (.rd [⟨0, 0, [0], ⟨(some 16), none, .mv (.t 0)⟩⟩,
    ⟨1, 1, [16], ⟨(some 17), none, .nc (.t 16)⟩⟩,
    ⟨2, 3, [17], ⟨(some 18), none, .fa (.t 17) 0⟩⟩,
    ⟨3, 7, [18], ⟨(some 19), none, .ld (.t 18) 1 false⟩⟩,
    ⟨4, 0, [0], ⟨(some 20), none, .mv (.t 0)⟩⟩,
    ⟨5, 16, [20], ⟨(some 21), none, .nc (.t 20)⟩⟩,
    ⟨6, 48, [21], ⟨(some 22), none, .fa (.t 21) 1⟩⟩,
    ⟨7, 112, [22], ⟨(some 23), none, .ld (.t 22) 1 false⟩⟩,
    ⟨8, 255, [19, 23], ⟨(some 24), none, .ia (.t 19) (.t 23) 1⟩⟩,
    ⟨9, 511, [24], ⟨(some 25), none, .ld (.t 24) 1 false⟩⟩,
    ⟨10, 1023, [25], ⟨(some 5), none, .mv (.t 25)⟩⟩])
  .sk))
  (.sq (.rg [⟨(some 26), none, .mv (.t 0)⟩,
    ⟨(some 27), none, .nc (.t 26)⟩,
    ⟨(some 28), none, .fa (.t 27) 1⟩,
    ⟨(some 29), none, .ld (.t 28) 1 false⟩,
    ⟨(some 30), none, .ib .add (.t 29) (.c (.int .i64 1))⟩,
    ⟨(some 31), none, .nc (.t 26)⟩,
    ⟨(some 32), none, .fa (.t 31) 1⟩,
    ⟨none, none, .st (.t 32) (.t 30) 1⟩])
  (.sq (.rg [⟨(some 33), none, .mv (.t 5)⟩,
    ⟨(some 34), none, .mv (.t 1)⟩,
    ⟨(some 35), none, .ca 14 [(.t 33), (.t 34)]⟩,
    ⟨(some 4), none, .mv (.t 35)⟩])
  .rt)))))⟩
theorem k55 : cF Try.prog Try.f55 = some c55 := by kernel_rfl
/-- (*rundale/limbo.bucket).open -/
def c56 : Fu := ⟨20, [.t 4],
  (.sq (.rg [⟨(some 4), none, .mv (.c (.bool false))⟩])
  (.sq (.rg [⟨(some 5), none, .mv (.t 0)⟩,
    ⟨(some 6), none, .nc (.t 5)⟩,
    ⟨(some 7), none, .fa (.t 6) 1⟩,
    ⟨(some 8), none, .ld (.t 7) 1 false⟩,
    ⟨(some 9), none, .len (.t 8)⟩,
    ⟨(some 10), none, .ib .gtr (.t 9) (.c (.int .i64 0))⟩,
    ⟨(some 11), none, .mv (.t 10)⟩,
    ⟨(some 12), (some (11, true)), .mv (.t 0)⟩,
    ⟨(some 13), (some (11, true)), .nc (.t 12)⟩,
    ⟨(some 14), (some (11, true)), .fa (.t 13) 0⟩,
    ⟨(some 15), (some (11, true)), .ld (.t 14) 1 false⟩,
    ⟨(some 16), (some (11, true)), .mv (.t 1)⟩,
    ⟨(some 17), (some (11, true)), .ib .sub (.t 16) (.c (.int .i64 2))⟩,
    ⟨(some 18), (some (11, true)), .ib .leq (.t 15) (.t 17)⟩,
    ⟨(some 19), none, .pk (.t 11) (.t 18) (.c (.bool false))⟩,
    ⟨(some 4), none, .mv (.t 19)⟩])
  .rt))⟩
theorem k56 : cF Try.prog Try.f56 = some c56 := by kernel_rfl
/-- slices.ContainsFunc[[]rundale/limbo.bucket,rundale/limbo.bucket] -/
def c57 : Fu := ⟨9, [.t 4],
  (.sq (.rg [⟨(some 4), none, .mv (.c (.bool false))⟩])
  (.sq (.rg [⟨(some 5), none, .mv (.t 0)⟩,
    ⟨(some 6), none, .mv (.t 1)⟩,
    ⟨(some 7), none, .ca 62 [(.t 5), (.t 6)]⟩,
    ⟨(some 8), none, .ib .geq (.t 7) (.c (.int .i64 0))⟩,
    ⟨(some 4), none, .mv (.t 8)⟩])
  .rt))⟩
theorem k57 : cF Try.prog Try.f57 = some c57 := by kernel_rfl
/-- (*rundale/limbo.Limbo).Open$1 -/
def c58 : Fu := ⟨6, [.t 3],
  (.sq (.rg [⟨(some 2), none, .bx 82 (.t 0)⟩,
    ⟨(some 3), none, .mv (.c (.bool false))⟩])
  (.sq (.rg [⟨(some 4), none, .ld (.t 1) 1 false⟩,
    ⟨(some 5), none, .ca 56 [(.t 2), (.t 4)]⟩,
    ⟨(some 3), none, .mv (.t 5)⟩])
  .rt))⟩
theorem k58 : cF Try.prog Try.f58 = some c58 := by kernel_rfl
/-- (*rundale/rundaleref5.Limbo).least -/
def c59 : Fu := ⟨51, [.t 4],
  (.sq (.rg [⟨(some 4), none, .mv (.c (.int .i64 0))⟩])
  (.sq (.rg [⟨(some 5), none, .mv (.c (.int .i64 (-1)))⟩])
  (.sq (.sq (.rg [⟨(some 6), none, .mv (.c (.int .i64 0))⟩])
  (.bl 0
  (.lp
  (.sq (.sq (.rg [⟨(some 7), none, .mv (.t 6)⟩,
    ⟨(some 8), none, .ib .lss (.t 7) (.c (.int .i64 3))⟩])
  (.cd (.t 8)
  .sk
  (.ex 0)))
  (.sq (.bl 1
  (.sq (.rd [⟨0, 0, [0], ⟨(some 11), none, .mv (.t 0)⟩⟩,
    ⟨1, 0, [6], ⟨(some 12), none, .mv (.t 6)⟩⟩,
    ⟨2, 1, [11], ⟨(some 13), none, .nc (.t 11)⟩⟩,
    ⟨3, 5, [13], ⟨(some 14), none, .fa (.t 13) 3⟩⟩,
    ⟨4, 15, [14, 12], ⟨(some 15), none, .iaa (.t 14) (.t 12) 3 1⟩⟩,
    ⟨5, 31, [15], ⟨(some 16), none, .ld (.t 15) 1 false⟩⟩,
    ⟨6, 63, [16], ⟨(some 17), none, .len (.t 16)⟩⟩,
    ⟨7, 127, [17], ⟨(some 18), none, .ib .gtr (.t 17) (.c (.int .i64 0))⟩⟩,
    ⟨8, 255, [18], ⟨(some 19), none, .mv (.t 18)⟩⟩,
    ⟨9, 511, [0, 19], ⟨(some 20), (some (19, true)), .mv (.t 0)⟩⟩,
    ⟨10, 511, [6, 19], ⟨(some 21), (some (19, true)), .mv (.t 6)⟩⟩,
    ⟨11, 1023, [20, 19], ⟨(some 22), (some (19, true)), .nc (.t 20)⟩⟩,
    ⟨12, 3071, [22, 19], ⟨(some 23), (some (19, true)), .fa (.t 22) 0⟩⟩,
    ⟨13, 8191, [23, 21, 19], ⟨(some 24), (some (19, true)), .iaa (.t 23) (.t 21) 3 1⟩⟩,
    ⟨14, 16383, [24, 19], ⟨(some 25), (some (19, true)), .ld (.t 24) 1 false⟩⟩,
    ⟨15, 511, [1, 19], ⟨(some 26), (some (19, true)), .mv (.t 1)⟩⟩,
    ⟨16, 33279, [26, 19], ⟨(some 27), (some (19, true)), .ib .sub (.t 26) (.c (.int .i64 2))⟩⟩,
    ⟨17, 131071, [25, 27, 19], ⟨(some 28), (some (19, true)), .ib .leq (.t 25) (.t 27)⟩⟩,
    ⟨18, 262143, [19, 28], ⟨(some 29), none, .pk (.t 19) (.t 28) (.c (.bool false))⟩⟩,
    ⟨19, 524287, [29], ⟨(some 30), none, .mv (.t 29)⟩⟩,
    ⟨20, 1048575, [5, 30], ⟨(some 31), (some (30, true)), .mv (.t 5)⟩⟩,
    ⟨21, 2097151, [31, 30], ⟨(some 32), (some (30, true)), .ib .lss (.t 31) (.c (.int .i64 0))⟩⟩,
    ⟨22, 4194303, [32, 30], ⟨(some 33), (some (30, true)), .mv (.t 32)⟩⟩,
    ⟨23, 8388607, [0, 33], ⟨(some 34), (some (33, false)), .mv (.t 0)⟩⟩,
    ⟨24, 8388607, [6, 33], ⟨(some 35), (some (33, false)), .mv (.t 6)⟩⟩,
    ⟨25, 16777215, [34, 33], ⟨(some 36), (some (33, false)), .nc (.t 34)⟩⟩,
    ⟨26, 50331647, [36, 33], ⟨(some 37), (some (33, false)), .fa (.t 36) 0⟩⟩,
    ⟨27, 134217727, [37, 35, 33], ⟨(some 38), (some (33, false)), .iaa (.t 37) (.t 35) 3 1⟩⟩,
    ⟨28, 268435455, [38, 33], ⟨(some 39), (some (33, false)), .ld (.t 38) 1 false⟩⟩,
    ⟨29, 8388607, [0, 33], ⟨(some 40), (some (33, false)), .mv (.t 0)⟩⟩,
    ⟨30, 8388607, [5, 33], ⟨(some 41), (some (33, false)), .mv (.t 5)⟩⟩,
    ⟨31, 545259519, [40, 33], ⟨(some 42), (some (33, false)), .nc (.t 40)⟩⟩,
    ⟨32, 2692743167, [42, 33], ⟨(some 43), (some (33, false)), .fa (.t 42) 0⟩⟩,
    ⟨33, 8061452287, [43, 41, 33], ⟨(some 44), (some (33, false)), .iaa (.t 43) (.t 41) 3 1⟩⟩,
    ⟨34, 16651386879, [44, 33], ⟨(some 45), (some (33, false)), .ld (.t 44) 1 false⟩⟩,
    ⟨35, 34359738367, [39, 45, 33], ⟨(some 46), (some (33, false)), .ib .lss (.t 39) (.t 45)⟩⟩,
    ⟨36, 68719476735, [33, 46, 30], ⟨(some 47), (some (30, true)), .pk (.t 33) (.c (.bool true)) (.t 46)⟩⟩,
    ⟨37, 137438953471, [30, 47], ⟨(some 48), none, .pk (.t 30) (.t 47) (.c (.bool false))⟩⟩])
  (.cd (.t 48)
  (.rg [⟨(some 49), none, .mv (.t 6)⟩,
    ⟨(some 5), none, .mv (.t 49)⟩])
  .sk)))
  (.rg [⟨(some 9), none, .mv (.t 6)⟩,
    ⟨(some 10), none, .ib .add (.t 9) (.c (.int .i64 1))⟩,
    ⟨(some 6), none, .mv (.t 10)⟩]))))))
  (.sq (.rg [⟨(some 50), none, .mv (.t 5)⟩,
    ⟨(some 4), none, .mv (.t 50)⟩])
  .rt))))⟩
theorem k59 : cF Try.prog Try.f59 = some c59 := by kernel_rfl
/-- rundale/lay.within -/
def c60 : Fu := ⟨15, [.t 6],
  (.sq (.rg [⟨(some 6), none, .mv (.c (.bool false))⟩])
  (.sq (.rg [⟨(some 7), none, .mv (.t 0)⟩,
    ⟨(some 8), none, .mv (.t 1)⟩,
    ⟨(some 9), none, .ib .geq (.t 7) (.t 8)⟩,
    ⟨(some 10), none, .mv (.t 9)⟩,
    ⟨(some 11), (some (10, true)), .mv (.t 0)⟩,
    ⟨(some 12), (some (10, true)), .mv (.t 2)⟩,
    ⟨(some 13), (some (10, true)), .ib .leq (.t 11) (.t 12)⟩,
    ⟨(some 14), none, .pk (.t 10) (.t 13) (.c (.bool false))⟩,
    ⟨(some 6), none, .mv (.t 14)⟩])
  .rt))⟩
theorem k60 : cF Try.prog Try.f60 = some c60 := by kernel_rfl
/-- rundale/rundaleref1.in -/
def c61 : Fu := ⟨15, [.t 6],
  (.sq (.rg [⟨(some 6), none, .mv (.c (.bool false))⟩])
  (.sq (.rg [⟨(some 7), none, .mv (.t 0)⟩,
    ⟨(some 8), none, .mv (.t 1)⟩,
    ⟨(some 9), none, .ib .geq (.t 7) (.t 8)⟩,
    ⟨(some 10), none, .mv (.t 9)⟩,
    ⟨(some 11), (some (10, true)), .mv (.t 0)⟩,
    ⟨(some 12), (some (10, true)), .mv (.t 2)⟩,
    ⟨(some 13), (some (10, true)), .ib .leq (.t 11) (.t 12)⟩,
    ⟨(some 14), none, .pk (.t 10) (.t 13) (.c (.bool false))⟩,
    ⟨(some 6), none, .mv (.t 14)⟩])
  .rt))⟩
theorem k61 : cF Try.prog Try.f61 = some c61 := by kernel_rfl
/-- slices.IndexFunc[[]rundale/limbo.bucket,rundale/limbo.bucket] -/
def c62 : Fu := ⟨19, [.t 4],
  (.sq (.rg [⟨(some 4), none, .mv (.c (.int .i64 0))⟩])
  (.sq (.sq (.rg [⟨(some 6), none, .mv (.t 0)⟩,
    ⟨(some 7), none, .len (.t 6)⟩,
    ⟨(some 8), none, .mv (.c (.int .i64 0))⟩])
  (.bl 0
  (.lp
  (.sq (.rg [⟨(some 9), none, .ib .lss (.t 8) (.t 7)⟩])
  (.sq (.cd (.t 9)
  .sk
  (.ex 0))
  (.sq (.bl 1
  (.sq (.rg [⟨(some 10), none, .mv (.t 8)⟩,
    ⟨(some 5), none, .mv (.t 10)⟩])
  (.sq (.rg [⟨(some 11), none, .mv (.t 1)⟩,
    ⟨(some 12), none, .mv (.t 0)⟩,
    ⟨(some 13), none, .mv (.t 5)⟩,
    ⟨(some 14), none, .ia (.t 12) (.t 13) 2⟩,
    ⟨(some 15), none, .ld (.t 14) 2 true⟩,
    ⟨(some 16), none, .cl (.t 11) [(.t 15)]⟩])
  (.cd (.t 16)
  (.sq (.rg [⟨(some 17), none, .mv (.t 5)⟩,
    ⟨(some 4), none, .mv (.t 17)⟩])
  .rt)
  .sk))))
  (.rg [⟨(some 18), none, .ib .add (.t 8) (.c (.int .i64 1))⟩,
    ⟨(some 8), none, .mv (.t 18)⟩])))))))
  (.sq (.rg [⟨(some 4), none, .mv (.c (.int .i64 (-1)))⟩])
  .rt)))⟩
theorem k62 : cF Try.prog Try.f62 = some c62 := by kernel_rfl
end Go.Proofs.Ytinomeobmpaakaa
