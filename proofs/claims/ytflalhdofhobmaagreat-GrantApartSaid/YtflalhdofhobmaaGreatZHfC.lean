/-
  Parts of the proof, merged: what the statement leans on.
-/
import Derived.Test.YtflalhdofhobmaaGreatProg
import Derived.KernelRfl
import Derived.Test.YtflalhdofhobmaaGreatZHfB
/-
  The functions' small code, as a program printed it off the translation; each held against the model's own code by the kernel.
-/
namespace Go.Proofs.YtflalhdofhobmaaGreat
open Go
set_option maxRecDepth 100000
/-- rundale/roots.New -/
def c70 : Fu := ⟨35, [.t 4, .t 5],
  (.sq (.rg [⟨(some 3), none, .bx 24 (.t 1)⟩,
    ⟨(some 4), none, .mv (.c (.pointer none))⟩,
    ⟨(some 5), none, .mv (.c (.int .i64 0))⟩])
  (.sq (.sq (.rd [⟨0, 0, [3], ⟨(some 8), none, .ld (.t 3) 6 true⟩⟩,
    ⟨1, 1, [8], ⟨(some 9), none, .ca 77 [(.t 8)]⟩⟩,
    ⟨2, 3, [9], ⟨(some 10), none, .nt (.t 9)⟩⟩,
    ⟨3, 7, [10], ⟨(some 11), none, .mv (.t 10)⟩⟩,
    ⟨4, 15, [0, 11], ⟨(some 12), (some (11, false)), .mv (.t 0)⟩⟩,
    ⟨5, 31, [12, 11], ⟨(some 13), (some (11, false)), .ca 137 [(.t 12)]⟩⟩,
    ⟨6, 15, [3, 11], ⟨(some 14), (some (11, false)), .ld (.t 3) 6 true⟩⟩,
    ⟨7, 127, [14, 11], ⟨(some 15), (some (11, false)), .ca 17 [(.t 14)]⟩⟩,
    ⟨8, 255, [13, 15, 11], ⟨(some 16), (some (11, false)), .ib .lss (.t 13) (.t 15)⟩⟩,
    ⟨9, 511, [11, 16], ⟨(some 17), none, .pk (.t 11) (.c (.bool true)) (.t 16)⟩⟩])
  (.cd (.t 17)
  (.sq (.rg [⟨(some 4), none, .mv (.c (.pointer none))⟩,
    ⟨(some 5), none, .mv (.c (.int .i64 1))⟩])
  .rt)
  .sk))
  (.sq (.rd [⟨0, 0, [0], ⟨(some 19), none, .mv (.t 0)⟩⟩,
    ⟨1, 0, [3], ⟨(some 20), none, .ld (.t 3) 6 true⟩⟩,
    ⟨2, 2, [20], ⟨(some 21), none, .ca 140 [(.t 20), (.c (.int .i64 0))]⟩⟩,
    ⟨3, 0, [3], ⟨(some 22), none, .fa (.t 3) 3⟩⟩,
    ⟨4, 8, [22], ⟨(some 23), none, .ld (.t 22) 1 false⟩⟩,
    ⟨5, 31, [19, 21, 23], ⟨(some 24), none, .ca 138 [(.t 19), (.c (.int .i64 1)), (.t 21), (.t 23)]⟩⟩,
    ⟨6, 63, [24], ⟨(some 18), none, .mv (.t 24)⟩⟩,
    ⟨7, 127, [18], ⟨(some 25), none, .ex (.t 18) 0⟩⟩,
    ⟨8, 127, [18], ⟨(some 26), none, .ex (.t 18) 1⟩⟩,
    ⟨9, 255, [25], ⟨(some 6), none, .mv (.t 25)⟩⟩,
    ⟨10, 1023, [26], ⟨(some 7), none, .mv (.t 26)⟩⟩])
  (.sq (.sq (.rg [⟨(some 27), none, .mv (.t 7)⟩,
    ⟨(some 28), none, .ib .neq (.t 27) (.c (.int .i64 0))⟩])
  (.cd (.t 28)
  (.sq (.rg [⟨(some 29), none, .mv (.t 7)⟩,
    ⟨(some 4), none, .mv (.c (.pointer none))⟩,
    ⟨(some 5), none, .mv (.t 29)⟩])
  .rt)
  .sk))
  (.sq (.rg [⟨(some 30), none, .mv (.t 0)⟩,
    ⟨(some 31), none, .ld (.t 3) 6 true⟩,
    ⟨(some 32), none, .mv (.t 6)⟩,
    ⟨(some 33), none, .bd [(.pointer none), (.int .i64 0), (.int .i64 0), (.int .i64 0), (.int .i64 0), (.int .i64 0), (.int .i64 0), (.pointer none)] [(0, 1, (.t 30)), (1, 6, (.t 31)), (7, 1, (.t 32))]⟩,
    ⟨(some 34), none, .bx 167 (.t 33)⟩,
    ⟨(some 4), none, .mv (.t 34)⟩,
    ⟨(some 5), none, .mv (.c (.int .i64 0))⟩])
  .rt)))))⟩
theorem k70 : cF Tryz.prog Tryz.f70 = some c70 := by kernel_rfl
/-- (*rundale/chain.Chains).Pool -/
def c71 : Fu := ⟨7, [.t 2],
  (.sq (.rg [⟨(some 2), none, .mv (.c (.pointer none))⟩])
  (.sq (.rg [⟨(some 3), none, .mv (.t 0)⟩,
    ⟨(some 4), none, .nc (.t 3)⟩,
    ⟨(some 5), none, .fa (.t 4) 7⟩,
    ⟨(some 6), none, .ld (.t 5) 1 false⟩,
    ⟨(some 2), none, .mv (.t 6)⟩])
  .rt))⟩
theorem k71 : cF Tryz.prog Tryz.f71 = some c71 := by kernel_rfl
/-- (*rundale/chain.Chains).Fill -/
def c72 : Fu := ⟨7, [],
  (.rg [⟨(some 2), none, .mv (.t 0)⟩,
    ⟨(some 3), none, .nc (.t 2)⟩,
    ⟨(some 4), none, .fa (.t 3) 7⟩,
    ⟨(some 5), none, .ld (.t 4) 1 false⟩,
    ⟨(some 6), none, .ca 141 [(.t 5)]⟩])⟩
theorem k72 : cF Tryz.prog Tryz.f72 = some c72 := by kernel_rfl
/-- (*rundale/roots.Roots).Fill -/
def c73 : Fu := ⟨28, [],
  (.sq (.rg [⟨(some 3), none, .mv (.t 0)⟩,
    ⟨(some 4), none, .nc (.t 3)⟩,
    ⟨(some 5), none, .fa (.t 4) 7⟩,
    ⟨(some 6), none, .ld (.t 5) 1 false⟩,
    ⟨(some 7), none, .ca 141 [(.t 6)]⟩])
  (.sq (.rg [⟨(some 8), none, .mv (.t 0)⟩,
    ⟨(some 9), none, .nc (.t 8)⟩,
    ⟨(some 10), none, .fa (.t 9) 1⟩,
    ⟨(some 11), none, .fa (.t 10) 3⟩,
    ⟨(some 12), none, .ld (.t 11) 1 false⟩,
    ⟨(some 13), none, .mv (.c (.int .i64 0))⟩])
  (.bl 0
  (.lp
  (.sq (.rg [⟨(some 14), none, .ib .lss (.t 13) (.t 12)⟩])
  (.sq (.cd (.t 14)
  .sk
  (.ex 0))
  (.sq (.bl 1
  (.sq (.rg [⟨(some 15), none, .mv (.t 13)⟩,
    ⟨(some 2), none, .mv (.t 15)⟩])
  (.rd [⟨0, 0, [0], ⟨(some 16), none, .mv (.t 0)⟩⟩,
    ⟨1, 1, [16], ⟨(some 17), none, .nc (.t 16)⟩⟩,
    ⟨2, 3, [17], ⟨(some 18), none, .fa (.t 17) 0⟩⟩,
    ⟨3, 7, [18], ⟨(some 19), none, .ld (.t 18) 1 false⟩⟩,
    ⟨4, 0, [0], ⟨(some 20), none, .mv (.t 0)⟩⟩,
    ⟨5, 16, [20], ⟨(some 21), none, .nc (.t 20)⟩⟩,
    ⟨6, 48, [21], ⟨(some 22), none, .fa (.t 21) 1⟩⟩,
    ⟨7, 112, [22], ⟨(some 23), none, .ld (.t 22) 6 true⟩⟩,
    ⟨8, 0, [2], ⟨(some 24), none, .mv (.t 2)⟩⟩,
    ⟨9, 496, [23, 24], ⟨(some 25), none, .ca 94 [(.t 23), (.t 24)]⟩⟩,
    ⟨10, 1023, [19, 25], ⟨(some 26), none, .ca 23 [(.t 19), (.t 25), (.c (.int .u64 0))]⟩⟩])))
  (.rg [⟨(some 27), none, .ib .add (.t 13) (.c (.int .i64 1))⟩,
    ⟨(some 13), none, .mv (.t 27)⟩]))))))))⟩
theorem k73 : cF Tryz.prog Tryz.f73 = some c73 := by kernel_rfl
/-- rundale/rundaleref11.New -/
def c74 : Fu := ⟨53, [.t 2],
  (.sq (.rg [⟨(some 1), none, .bx 24 (.t 0)⟩,
    ⟨(some 2), none, .mv (.c (.pointer none))⟩])
  (.sq (.rg [⟨(some 5), none, .ld (.t 1) 6 true⟩,
    ⟨(some 6), none, .ca 143 [(.t 5)]⟩,
    ⟨(some 7), none, .ca 142 [(.t 6)]⟩,
    ⟨(some 3), none, .mv (.t 7)⟩])
  (.sq (.rg [⟨(some 8), none, .ld (.t 1) 6 true⟩,
    ⟨(some 9), none, .mv (.t 3)⟩,
    ⟨(some 10), none, .bd [(.int .i64 0), (.int .i64 0), (.int .i64 0), (.int .i64 0), (.int .i64 0), (.int .i64 0), (.pointer none), (.pointer none), (.pointer none), (.pointer none)] [(0, 6, (.t 8)), (6, 1, (.t 9))]⟩,
    ⟨(some 11), none, .bx 115 (.t 10)⟩,
    ⟨(some 4), none, .mv (.t 11)⟩])
  (.sq (.rd [⟨0, 0, [4], ⟨(some 12), none, .mv (.t 4)⟩⟩,
    ⟨1, 0, [3], ⟨(some 13), none, .mv (.t 3)⟩⟩,
    ⟨2, 0, [1], ⟨(some 14), none, .ld (.t 1) 6 true⟩⟩,
    ⟨3, 4, [14], ⟨(some 15), none, .ca 112 [(.t 14), (.c (.int .i64 0))]⟩⟩,
    ⟨4, 0, [1], ⟨(some 16), none, .fa (.t 1) 1⟩⟩,
    ⟨5, 16, [16], ⟨(some 17), none, .ld (.t 16) 1 false⟩⟩,
    ⟨6, 62, [13, 15, 17], ⟨(some 18), none, .bd [(.pointer none), (.int .i64 0), (.int .i64 0), (.int .i64 0)] [(0, 1, (.t 13)), (1, 1, (.c (.int .i64 0))), (2, 1, (.t 15)), (3, 1, (.t 17))]⟩⟩,
    ⟨7, 126, [18], ⟨(some 19), none, .bx 210 (.t 18)⟩⟩,
    ⟨8, 255, [12], ⟨(some 20), none, .nc (.t 12)⟩⟩,
    ⟨9, 511, [20], ⟨(some 21), none, .fa (.t 20) 7⟩⟩,
    ⟨10, 1023, [21, 19], ⟨none, none, .st (.t 21) (.t 19) 1⟩⟩])
  (.sq (.rd [⟨0, 0, [4], ⟨(some 22), none, .mv (.t 4)⟩⟩,
    ⟨1, 0, [3], ⟨(some 23), none, .mv (.t 3)⟩⟩,
    ⟨2, 0, [1], ⟨(some 24), none, .ld (.t 1) 6 true⟩⟩,
    ⟨3, 4, [24], ⟨(some 25), none, .ca 144 [(.t 24), (.c (.int .i64 0))]⟩⟩,
    ⟨4, 0, [1], ⟨(some 26), none, .fa (.t 1) 3⟩⟩,
    ⟨5, 16, [26], ⟨(some 27), none, .ld (.t 26) 1 false⟩⟩,
    ⟨6, 62, [23, 25, 27], ⟨(some 28), none, .bd [(.pointer none), (.int .i64 0), (.int .i64 0), (.int .i64 0)] [(0, 1, (.t 23)), (1, 1, (.c (.int .i64 1))), (2, 1, (.t 25)), (3, 1, (.t 27))]⟩⟩,
    ⟨7, 126, [28], ⟨(some 29), none, .bx 210 (.t 28)⟩⟩,
    ⟨8, 255, [22], ⟨(some 30), none, .nc (.t 22)⟩⟩,
    ⟨9, 511, [30], ⟨(some 31), none, .fa (.t 30) 8⟩⟩,
    ⟨10, 1023, [31, 29], ⟨none, none, .st (.t 31) (.t 29) 1⟩⟩])
  (.sq (.rd [⟨0, 0, [4], ⟨(some 32), none, .mv (.t 4)⟩⟩,
    ⟨1, 0, [3], ⟨(some 33), none, .mv (.t 3)⟩⟩,
    ⟨2, 0, [1], ⟨(some 34), none, .ld (.t 1) 6 true⟩⟩,
    ⟨3, 4, [34], ⟨(some 35), none, .ca 145 [(.t 34), (.c (.int .i64 0))]⟩⟩,
    ⟨4, 0, [1], ⟨(some 36), none, .fa (.t 1) 0⟩⟩,
    ⟨5, 16, [36], ⟨(some 37), none, .ld (.t 36) 1 false⟩⟩,
    ⟨6, 62, [33, 35, 37], ⟨(some 38), none, .bd [(.pointer none), (.int .i64 0), (.int .i64 0), (.int .i64 0)] [(0, 1, (.t 33)), (1, 1, (.c (.int .i64 2))), (2, 1, (.t 35)), (3, 1, (.t 37))]⟩⟩,
    ⟨7, 126, [38], ⟨(some 39), none, .bx 218 (.t 38)⟩⟩,
    ⟨8, 255, [32], ⟨(some 40), none, .nc (.t 32)⟩⟩,
    ⟨9, 511, [40], ⟨(some 41), none, .fa (.t 40) 9⟩⟩,
    ⟨10, 1023, [41, 39], ⟨none, none, .st (.t 41) (.t 39) 1⟩⟩])
  (.sq (.rg [⟨(some 42), none, .mv (.t 4)⟩,
    ⟨(some 43), none, .nc (.t 42)⟩,
    ⟨(some 44), none, .fa (.t 43) 7⟩,
    ⟨(some 45), none, .ld (.t 44) 1 false⟩,
    ⟨(some 46), none, .ca 146 [(.t 45)]⟩])
  (.sq (.rg [⟨(some 47), none, .mv (.t 4)⟩,
    ⟨(some 48), none, .nc (.t 47)⟩,
    ⟨(some 49), none, .fa (.t 48) 8⟩,
    ⟨(some 50), none, .ld (.t 49) 1 false⟩,
    ⟨(some 51), none, .ca 146 [(.t 50)]⟩])
  (.sq (.rg [⟨(some 52), none, .mv (.t 4)⟩,
    ⟨(some 2), none, .mv (.t 52)⟩])
  .rt)))))))))⟩
theorem k74 : cF Tryz.prog Tryz.f74 = some c74 := by kernel_rfl
/-- rundale/supply.New -/
def c75 : Fu := ⟨27, [.t 4, .t 5],
  (.sq (.rg [⟨(some 3), none, .bx 24 (.t 1)⟩,
    ⟨(some 4), none, .mv (.c (.pointer none))⟩,
    ⟨(some 5), none, .mv (.c (.int .i64 0))⟩])
  (.sq (.rg [⟨(some 9), none, .mv (.t 0)⟩,
    ⟨(some 10), none, .ld (.t 3) 6 true⟩,
    ⟨(some 11), none, .ca 69 [(.t 9), (.t 10)]⟩,
    ⟨(some 8), none, .mv (.t 11)⟩,
    ⟨(some 12), none, .ex (.t 8) 0⟩,
    ⟨(some 13), none, .ex (.t 8) 1⟩,
    ⟨(some 6), none, .mv (.t 12)⟩,
    ⟨(some 7), none, .mv (.t 13)⟩])
  (.sq (.sq (.rg [⟨(some 14), none, .mv (.t 7)⟩,
    ⟨(some 15), none, .ib .neq (.t 14) (.c (.int .i64 0))⟩])
  (.cd (.t 15)
  (.sq (.rg [⟨(some 16), none, .mv (.t 7)⟩,
    ⟨(some 4), none, .mv (.c (.pointer none))⟩,
    ⟨(some 5), none, .mv (.t 16)⟩])
  .rt)
  .sk))
  (.sq (.rd [⟨0, 0, [0], ⟨(some 17), none, .mv (.t 0)⟩⟩,
    ⟨1, 0, [3], ⟨(some 18), none, .ld (.t 3) 6 true⟩⟩,
    ⟨2, 0, [6], ⟨(some 19), none, .mv (.t 6)⟩⟩,
    ⟨3, 4, [19], ⟨(some 20), none, .ca 71 [(.t 19)]⟩⟩,
    ⟨4, 0, [3], ⟨(some 21), none, .fa (.t 3) 4⟩⟩,
    ⟨5, 16, [21], ⟨(some 22), none, .ld (.t 21) 1 false⟩⟩,
    ⟨6, 60, [22], ⟨(some 23), none, .ca 147 [(.t 22)]⟩⟩,
    ⟨7, 124, [], ⟨(some 24), none, .ca 148 []⟩⟩,
    ⟨8, 255, [17, 18, 20, 23, 24], ⟨(some 25), none, .bd [(.pointer none), (.int .i64 0), (.int .i64 0), (.int .i64 0), (.int .i64 0), (.int .i64 0), (.int .i64 0), (.pointer none), (.pointer none), (.pointer none)] [(0, 1, (.t 17)), (1, 6, (.t 18)), (7, 1, (.t 20)), (8, 1, (.t 23)), (9, 1, (.t 24))]⟩⟩,
    ⟨9, 511, [25], ⟨(some 26), none, .bx 195 (.t 25)⟩⟩,
    ⟨10, 1023, [26], ⟨(some 4), none, .mv (.t 26)⟩⟩,
    ⟨11, 2047, [], ⟨(some 5), none, .mv (.c (.int .i64 0))⟩⟩])
  .rt))))⟩
theorem k75 : cF Tryz.prog Tryz.f75 = some c75 := by kernel_rfl
/-- (*rundale/rundaleref11.W).Supply -/
def c76 : Fu := ⟨13, [.t 2],
  (.sq (.rg [⟨(some 2), none, .mv (.c (.pointer none))⟩])
  (.sq (.rg [⟨(some 3), none, .mv (.t 0)⟩,
    ⟨(some 4), none, .mv (.t 0)⟩,
    ⟨(some 5), none, .nc (.t 4)⟩,
    ⟨(some 6), none, .fa (.t 5) 0⟩,
    ⟨(some 7), none, .fa (.t 6) 4⟩,
    ⟨(some 8), none, .ld (.t 7) 1 false⟩,
    ⟨(some 9), none, .ca 149 [(.t 8)]⟩,
    ⟨(some 10), none, .ca 150 []⟩,
    ⟨(some 11), none, .bd [(.pointer none), (.pointer none), (.pointer none)] [(0, 1, (.t 3)), (1, 1, (.t 9)), (2, 1, (.t 10))]⟩,
    ⟨(some 12), none, .bx 183 (.t 11)⟩,
    ⟨(some 2), none, .mv (.t 12)⟩])
  .rt))⟩
theorem k76 : cF Tryz.prog Tryz.f76 = some c76 := by kernel_rfl
/-- rundale/lay.May -/
def c77 : Fu := ⟨37, [.t 2],
  (.sq (.rg [⟨(some 1), none, .bx 24 (.t 0)⟩,
    ⟨(some 2), none, .mv (.c (.bool false))⟩])
  (.sq (.rg [⟨(some 3), none, .fa (.t 1) 0⟩,
    ⟨(some 4), none, .ld (.t 3) 1 false⟩,
    ⟨(some 5), none, .ca 82 [(.t 4), (.c (.int .i64 1)), (.c (.int .i64 64))]⟩,
    ⟨(some 6), none, .mv (.t 5)⟩,
    ⟨(some 7), (some (6, true)), .fa (.t 1) 1⟩,
    ⟨(some 8), (some (6, true)), .ld (.t 7) 1 false⟩,
    ⟨(some 9), (some (6, true)), .ca 82 [(.t 8), (.c (.int .i64 1)), (.c (.int .i64 4096))]⟩,
    ⟨(some 10), none, .pk (.t 6) (.t 9) (.c (.bool false))⟩,
    ⟨(some 11), none, .mv (.t 10)⟩,
    ⟨(some 12), (some (11, true)), .fa (.t 1) 2⟩,
    ⟨(some 13), (some (11, true)), .ld (.t 12) 1 false⟩,
    ⟨(some 14), (some (11, true)), .ca 82 [(.t 13), (.c (.int .i64 8)), (.c (.int .i64 1024))]⟩,
    ⟨(some 15), none, .pk (.t 11) (.t 14) (.c (.bool false))⟩,
    ⟨(some 16), none, .mv (.t 15)⟩,
    ⟨(some 17), (some (16, true)), .fa (.t 1) 2⟩,
    ⟨(some 18), (some (16, true)), .ld (.t 17) 1 false⟩,
    ⟨(some 19), (some (16, true)), .ib .rem (.t 18) (.c (.int .i64 8))⟩,
    ⟨(some 20), (some (16, true)), .ib .eql (.t 19) (.c (.int .i64 0))⟩,
    ⟨(some 21), none, .pk (.t 16) (.t 20) (.c (.bool false))⟩,
    ⟨(some 22), none, .mv (.t 21)⟩,
    ⟨(some 23), (some (22, true)), .fa (.t 1) 3⟩,
    ⟨(some 24), (some (22, true)), .ld (.t 23) 1 false⟩,
    ⟨(some 25), (some (22, true)), .ca 82 [(.t 24), (.c (.int .i64 1)), (.c (.int .i64 4096))]⟩,
    ⟨(some 26), none, .pk (.t 22) (.t 25) (.c (.bool false))⟩,
    ⟨(some 27), none, .mv (.t 26)⟩,
    ⟨(some 28), (some (27, true)), .fa (.t 1) 4⟩,
    ⟨(some 29), (some (27, true)), .ld (.t 28) 1 false⟩,
    ⟨(some 30), (some (27, true)), .ca 82 [(.t 29), (.c (.int .i64 0)), (.c (.int .i64 64))]⟩,
    ⟨(some 31), none, .pk (.t 27) (.t 30) (.c (.bool false))⟩,
    ⟨(some 32), none, .mv (.t 31)⟩,
    ⟨(some 33), (some (32, true)), .fa (.t 1) 5⟩,
    ⟨(some 34), (some (32, true)), .ld (.t 33) 1 false⟩,
    ⟨(some 35), (some (32, true)), .ca 82 [(.t 34), (.c (.int .i64 1)), (.c (.int .i64 8))]⟩,
    ⟨(some 36), none, .pk (.t 32) (.t 35) (.c (.bool false))⟩,
    ⟨(some 2), none, .mv (.t 36)⟩])
  .rt))⟩
theorem k77 : cF Tryz.prog Tryz.f77 = some c77 := by kernel_rfl
/-- rundale/lay.parts -/
def c78 : Fu := ⟨40, [.c 2 15 true],
  (.sq (.rg [⟨(some 1), none, .bx 24 (.t 0)⟩,
    ⟨(some 2), none, .al 143 [(.int .i64 0), (.int .i64 0), (.int .i64 0), (.int .i64 0), (.int .i64 0), (.int .i64 0), (.int .i64 0), (.int .i64 0), (.int .i64 0), (.int .i64 0), (.int .i64 0), (.int .i64 0), (.int .i64 0), (.int .i64 0), (.int .i64 0)]⟩])
  (.sq (.rg [⟨(some 6), none, .fa (.t 1) 0⟩,
    ⟨(some 7), none, .ld (.t 6) 1 false⟩,
    ⟨(some 8), none, .bd [(.int .i64 0), (.int .i64 0), (.int .i64 0)] [(0, 1, (.c (.int .i64 3))), (2, 1, (.t 7))]⟩,
    ⟨(some 9), none, .fa (.t 1) 3⟩,
    ⟨(some 10), none, .ld (.t 9) 1 false⟩,
    ⟨(some 11), none, .bd [(.int .i64 0), (.int .i64 0), (.int .i64 0)] [(0, 1, (.c (.int .i64 4))), (2, 1, (.t 10))]⟩,
    ⟨(some 12), none, .fa (.t 1) 3⟩,
    ⟨(some 13), none, .ld (.t 12) 1 false⟩,
    ⟨(some 14), none, .bd [(.int .i64 0), (.int .i64 0), (.int .i64 0)] [(0, 1, (.c (.int .i64 5))), (2, 1, (.t 13))]⟩,
    ⟨(some 15), none, .fa (.t 1) 1⟩,
    ⟨(some 16), none, .ld (.t 15) 1 false⟩,
    ⟨(some 17), none, .bd [(.int .i64 0), (.int .i64 0), (.int .i64 0)] [(0, 1, (.c (.int .i64 6))), (2, 1, (.t 16))]⟩,
    ⟨(some 18), none, .fa (.t 1) 1⟩,
    ⟨(some 19), none, .ld (.t 18) 1 false⟩,
    ⟨(some 20), none, .fa (.t 1) 2⟩,
    ⟨(some 21), none, .ld (.t 20) 1 false⟩,
    ⟨(some 22), none, .ib .mul (.t 19) (.t 21)⟩,
    ⟨(some 23), none, .bd [(.int .i64 0), (.int .i64 0), (.int .i64 0)] [(0, 1, (.c (.int .i64 7))), (2, 1, (.t 22))]⟩,
    ⟨(some 24), none, .bd [(.int .i64 0), (.int .i64 0), (.int .i64 0), (.int .i64 0), (.int .i64 0), (.int .i64 0), (.int .i64 0), (.int .i64 0), (.int .i64 0), (.int .i64 0), (.int .i64 0), (.int .i64 0), (.int .i64 0), (.int .i64 0), (.int .i64 0)] [(0, 3, (.t 8)), (3, 3, (.t 11)), (6, 3, (.t 14)), (9, 3, (.t 17)), (12, 3, (.t 23))]⟩,
    ⟨(some 3), none, .al 143 [(.int .i64 0), (.int .i64 0), (.int .i64 0), (.int .i64 0), (.int .i64 0), (.int .i64 0), (.int .i64 0), (.int .i64 0), (.int .i64 0), (.int .i64 0), (.int .i64 0), (.int .i64 0), (.int .i64 0), (.int .i64 0), (.int .i64 0)]⟩,
    ⟨none, none, .st (.t 3) (.t 24) 15⟩])
  (.sq (.rg [⟨(some 4), none, .mv (.c (.int .i64 3))⟩])
  (.sq (.sq (.rg [⟨(some 25), none, .mv (.c (.int .i64 0))⟩])
  (.bl 0
  (.lp
  (.sq (.rg [⟨(some 26), none, .ib .lss (.t 25) (.c (.int .i64 5))⟩])
  (.sq (.cd (.t 26)
  .sk
  (.ex 0))
  (.sq (.bl 1
  (.sq (.rg [⟨(some 27), none, .mv (.t 25)⟩,
    ⟨(some 5), none, .mv (.t 27)⟩])
  (.sq (.rg [⟨(some 28), none, .mv (.t 5)⟩,
    ⟨(some 29), none, .mv (.t 4)⟩,
    ⟨(some 30), none, .iaa (.t 3) (.t 28) 5 3⟩,
    ⟨(some 31), none, .fa (.t 30) 1⟩,
    ⟨none, none, .st (.t 31) (.t 29) 1⟩])
  (.rg [⟨(some 32), none, .mv (.t 4)⟩,
    ⟨(some 33), none, .mv (.t 5)⟩,
    ⟨(some 34), none, .iaa (.t 3) (.t 33) 5 3⟩,
    ⟨(some 35), none, .fa (.t 34) 2⟩,
    ⟨(some 36), none, .ld (.t 35) 1 false⟩,
    ⟨(some 37), none, .ib .add (.t 32) (.t 36)⟩,
    ⟨(some 4), none, .mv (.t 37)⟩]))))
  (.rg [⟨(some 38), none, .ib .add (.t 25) (.c (.int .i64 1))⟩,
    ⟨(some 25), none, .mv (.t 38)⟩])))))))
  (.sq (.rg [⟨(some 39), none, .ld (.t 3) 15 true⟩,
    ⟨none, none, .st (.t 2) (.t 39) 15⟩])
  .rt)))))⟩
theorem k78 : cF Tryz.prog Tryz.f78 = some c78 := by kernel_rfl
/-- (*rundale/run.Machine).Go -/
def c79 : Fu := ⟨8, [],
  (.rg [⟨(some 4), none, .mv (.t 0)⟩,
    ⟨(some 5), none, .mv (.t 1)⟩,
    ⟨(some 6), none, .nc (.t 4)⟩,
    ⟨(some 7), none, .fa (.t 6) 0⟩,
    ⟨none, none, .st (.t 7) (.t 5) 1⟩])⟩
theorem k79 : cF Tryz.prog Tryz.f79 = some c79 := by kernel_rfl
/-- (*rundale/grant.Alloc).look -/
def c80 : Fu := ⟨142, [],
  (.sq (.rd [⟨0, 0, [0], ⟨(some 3), none, .mv (.t 0)⟩⟩,
    ⟨1, 0, [0], ⟨(some 4), none, .mv (.t 0)⟩⟩,
    ⟨2, 2, [4], ⟨(some 5), none, .nc (.t 4)⟩⟩,
    ⟨3, 6, [5], ⟨(some 6), none, .fa (.t 5) 5⟩⟩,
    ⟨4, 14, [6], ⟨(some 7), none, .ld (.t 6) 1 false⟩⟩,
    ⟨5, 30, [7], ⟨(some 8), none, .nc (.t 7)⟩⟩,
    ⟨6, 62, [8], ⟨(some 9), none, .fa (.t 8) 0⟩⟩,
    ⟨7, 126, [9], ⟨(some 10), none, .ld (.t 9) 1 false⟩⟩,
    ⟨8, 0, [0], ⟨(some 11), none, .mv (.t 0)⟩⟩,
    ⟨9, 256, [11], ⟨(some 12), none, .nc (.t 11)⟩⟩,
    ⟨10, 768, [12], ⟨(some 13), none, .fa (.t 12) 5⟩⟩,
    ⟨11, 1792, [13], ⟨(some 14), none, .ld (.t 13) 1 false⟩⟩,
    ⟨12, 3840, [14], ⟨(some 15), none, .nc (.t 14)⟩⟩,
    ⟨13, 7936, [15], ⟨(some 16), none, .fa (.t 15) 1⟩⟩,
    ⟨14, 16128, [16], ⟨(some 17), none, .ld (.t 16) 6 true⟩⟩,
    ⟨15, 0, [0], ⟨(some 18), none, .mv (.t 0)⟩⟩,
    ⟨16, 32768, [18], ⟨(some 19), none, .nc (.t 18)⟩⟩,
    ⟨17, 98304, [19], ⟨(some 20), none, .fa (.t 19) 7⟩⟩,
    ⟨18, 229376, [20], ⟨(some 21), none, .ld (.t 20) 1 false⟩⟩,
    ⟨19, 524032, [17, 21], ⟨(some 22), none, .ca 94 [(.t 17), (.t 21)]⟩⟩,
    ⟨20, 1048574, [10, 22], ⟨(some 23), none, .ca 151 [(.t 10), (.t 22)]⟩⟩,
    ⟨21, 2097150, [23], ⟨(some 2), none, .mv (.t 23)⟩⟩,
    ⟨22, 4194302, [2], ⟨(some 24), none, .ex (.t 2) 0⟩⟩,
    ⟨23, 4194302, [2], ⟨(some 25), none, .ex (.t 2) 1⟩⟩,
    ⟨24, 8388607, [3], ⟨(some 26), none, .nc (.t 3)⟩⟩,
    ⟨25, 25165823, [26], ⟨(some 27), none, .fa (.t 26) 16⟩⟩,
    ⟨26, 58720255, [27, 24], ⟨none, none, .st (.t 27) (.t 24) 1⟩⟩])
  (.sq (.rg [⟨(some 28), none, .mv (.t 0)⟩,
    ⟨(some 29), none, .mv (.t 0)⟩,
    ⟨(some 30), none, .nc (.t 29)⟩,
    ⟨(some 31), none, .fa (.t 30) 16⟩,
    ⟨(some 32), none, .ld (.t 31) 1 false⟩,
    ⟨(some 33), none, .ca 93 [(.t 32)]⟩,
    ⟨(some 34), none, .nc (.t 28)⟩,
    ⟨(some 35), none, .fa (.t 34) 17⟩,
    ⟨none, none, .st (.t 35) (.t 33) 4⟩])
  (.sq (.sq (.rd [⟨0, 0, [0], ⟨(some 36), none, .mv (.t 0)⟩⟩,
    ⟨1, 1, [36], ⟨(some 37), none, .nc (.t 36)⟩⟩,
    ⟨2, 3, [37], ⟨(some 38), none, .fa (.t 37) 17⟩⟩,
    ⟨3, 7, [38], ⟨(some 39), none, .ld (.t 38) 4 true⟩⟩,
    ⟨4, 0, [0], ⟨(some 40), none, .mv (.t 0)⟩⟩,
    ⟨5, 16, [40], ⟨(some 41), none, .nc (.t 40)⟩⟩,
    ⟨6, 48, [41], ⟨(some 42), none, .fa (.t 41) 8⟩⟩,
    ⟨7, 112, [42], ⟨(some 43), none, .ld (.t 42) 1 false⟩⟩,
    ⟨8, 255, [39, 43], ⟨(some 44), none, .ca 152 [(.t 39), (.t 43)]⟩⟩,
    ⟨9, 511, [44], ⟨(some 45), none, .nt (.t 44)⟩⟩])
  (.cd (.t 45)
  (.sq (.rg [⟨(some 46), none, .mv (.t 0)⟩,
    ⟨(some 47), none, .bd [(.int .i64 0), (.int .i64 0), (.int .i64 0), (.int .i64 0), (.int .i64 0)] []⟩,
    ⟨(some 48), none, .ca 153 [(.t 46), (.c (.int .i64 3)), (.t 47)]⟩])
  .rt)
  .sk))
  (.sq (.rd [⟨0, 0, [0], ⟨(some 49), none, .mv (.t 0)⟩⟩,
    ⟨1, 0, [0], ⟨(some 50), none, .mv (.t 0)⟩⟩,
    ⟨2, 2, [50], ⟨(some 51), none, .nc (.t 50)⟩⟩,
    ⟨3, 6, [51], ⟨(some 52), none, .fa (.t 51) 17⟩⟩,
    ⟨4, 14, [52], ⟨(some 53), none, .fa (.t 52) 2⟩⟩,
    ⟨5, 30, [53], ⟨(some 54), none, .ld (.t 53) 1 false⟩⟩,
    ⟨6, 0, [0], ⟨(some 55), none, .mv (.t 0)⟩⟩,
    ⟨7, 64, [55], ⟨(some 56), none, .nc (.t 55)⟩⟩,
    ⟨8, 192, [56], ⟨(some 57), none, .fa (.t 56) 9⟩⟩,
    ⟨9, 448, [57], ⟨(some 58), none, .ld (.t 57) 1 false⟩⟩,
    ⟨10, 1022, [54, 58], ⟨(some 59), none, .ca 154 [(.t 54), (.t 58)]⟩⟩,
    ⟨11, 2047, [49], ⟨(some 60), none, .nc (.t 49)⟩⟩,
    ⟨12, 4095, [60], ⟨(some 61), none, .fa (.t 60) 14⟩⟩,
    ⟨13, 8191, [61, 59], ⟨none, none, .st (.t 61) (.t 59) 1⟩⟩])
  (.bl 0
  (.sq (.rd [⟨0, 0, [0], ⟨(some 90), none, .mv (.t 0)⟩⟩,
    ⟨1, 1, [90], ⟨(some 91), none, .nc (.t 90)⟩⟩,
    ⟨2, 3, [91], ⟨(some 92), none, .fa (.t 91) 17⟩⟩,
    ⟨3, 7, [92], ⟨(some 93), none, .fa (.t 92) 1⟩⟩,
    ⟨4, 15, [93], ⟨(some 94), none, .ld (.t 93) 1 false⟩⟩,
    ⟨5, 31, [94], ⟨(some 95), none, .ib .geq (.t 94) (.c (.int .i64 2))⟩⟩,
    ⟨6, 63, [95], ⟨(some 96), none, .mv (.t 95)⟩⟩,
    ⟨7, 127, [0, 96], ⟨(some 97), (some (96, true)), .mv (.t 0)⟩⟩,
    ⟨8, 255, [97, 96], ⟨(some 98), (some (96, true)), .nc (.t 97)⟩⟩,
    ⟨9, 511, [98, 96], ⟨(some 99), (some (96, true)), .fa (.t 98) 5⟩⟩,
    ⟨10, 1023, [99, 96], ⟨(some 100), (some (96, true)), .ld (.t 99) 1 false⟩⟩,
    ⟨11, 2047, [100, 96], ⟨(some 101), (some (96, true)), .nc (.t 100)⟩⟩,
    ⟨12, 4095, [101, 96], ⟨(some 102), (some (96, true)), .fa (.t 101) 1⟩⟩,
    ⟨13, 8191, [102, 96], ⟨(some 103), (some (96, true)), .fa (.t 102) 2⟩⟩,
    ⟨14, 16383, [103, 96], ⟨(some 104), (some (96, true)), .ld (.t 103) 1 false⟩⟩,
    ⟨15, 127, [0, 96], ⟨(some 105), (some (96, true)), .mv (.t 0)⟩⟩,
    ⟨16, 32895, [105, 96], ⟨(some 106), (some (96, true)), .nc (.t 105)⟩⟩,
    ⟨17, 98431, [106, 96], ⟨(some 107), (some (96, true)), .fa (.t 106) 17⟩⟩,
    ⟨18, 229503, [107, 96], ⟨(some 108), (some (96, true)), .fa (.t 107) 3⟩⟩,
    ⟨19, 491647, [108, 96], ⟨(some 109), (some (96, true)), .ld (.t 108) 1 false⟩⟩,
    ⟨20, 127, [0, 96], ⟨(some 110), (some (96, true)), .mv (.t 0)⟩⟩,
    ⟨21, 1048703, [110, 96], ⟨(some 111), (some (96, true)), .nc (.t 110)⟩⟩,
    ⟨22, 3145855, [111, 96], ⟨(some 112), (some (96, true)), .fa (.t 111) 14⟩⟩,
    ⟨23, 7340159, [112, 96], ⟨(some 113), (some (96, true)), .ld (.t 112) 1 false⟩⟩,
    ⟨24, 16777215, [104, 109, 113, 96], ⟨(some 114), (some (96, true)), .ca 155 [(.t 104), (.t 109), (.t 113)]⟩⟩,
    ⟨25, 33554431, [96, 114], ⟨(some 115), none, .pk (.t 96) (.t 114) (.c (.bool false))⟩⟩,
    ⟨26, 67108863, [115], ⟨(some 89), none, .mv (.t 115)⟩⟩])
  (.cd (.t 89)
  (.rg [⟨(some 116), none, .mv (.t 0)⟩,
    ⟨(some 117), none, .nc (.t 116)⟩,
    ⟨(some 118), none, .fa (.t 117) 0⟩,
    ⟨(some 119), none, .mv (.t 0)⟩,
    ⟨(some 120), none, .mf (.func 156) [(.t 119)] []⟩,
    ⟨(some 121), none, .ca 79 [(.t 118), (.t 120)]⟩])
  (.sq (.rg [⟨(some 123), none, .mv (.t 0)⟩,
    ⟨(some 124), none, .nc (.t 123)⟩,
    ⟨(some 125), none, .fa (.t 124) 10⟩,
    ⟨(some 126), none, .ld (.t 125) 1 false⟩,
    ⟨(some 127), none, .ib .geq (.t 126) (.c (.int .i64 0))⟩,
    ⟨(some 122), none, .mv (.t 127)⟩])
  (.cd (.t 122)
  (.rg [⟨(some 128), none, .mv (.t 0)⟩,
    ⟨(some 129), none, .nc (.t 128)⟩,
    ⟨(some 130), none, .fa (.t 129) 0⟩,
    ⟨(some 131), none, .mv (.t 0)⟩,
    ⟨(some 132), none, .mf (.func 157) [(.t 131)] []⟩,
    ⟨(some 133), none, .ca 79 [(.t 130), (.t 132)]⟩])
  (.sq (.rg [⟨(some 135), none, .mv (.t 0)⟩,
    ⟨(some 136), none, .nc (.t 135)⟩,
    ⟨(some 137), none, .fa (.t 136) 12⟩,
    ⟨(some 138), none, .ld (.t 137) 1 false⟩,
    ⟨(some 134), none, .mv (.t 138)⟩])
  (.cd (.t 134)
  (.rg [⟨(some 139), none, .mv (.t 0)⟩,
    ⟨(some 140), none, .bd [(.int .i64 0), (.int .i64 0), (.int .i64 0), (.int .i64 0), (.int .i64 0)] []⟩,
    ⟨(some 141), none, .ca 153 [(.t 139), (.c (.int .i64 6)), (.t 140)]⟩])
  (.sq (.rg [⟨(some 62), none, .mv (.t 0)⟩,
    ⟨(some 63), none, .nc (.t 62)⟩,
    ⟨(some 64), none, .fa (.t 63) 12⟩,
    ⟨none, none, .st (.t 64) (.c (.bool true)) 1⟩])
  (.sq (.rg [⟨(some 65), none, .mv (.t 0)⟩,
    ⟨(some 66), none, .mv (.t 0)⟩,
    ⟨(some 67), none, .nc (.t 66)⟩,
    ⟨(some 68), none, .fa (.t 67) 6⟩,
    ⟨(some 69), none, .ld (.t 68) 1 false⟩,
    ⟨(some 70), none, .ca 158 [(.t 69)]⟩,
    ⟨(some 71), none, .nc (.t 65)⟩,
    ⟨(some 72), none, .fa (.t 71) 21⟩,
    ⟨none, none, .st (.t 72) (.t 70) 1⟩])
  (.rd [⟨0, 0, [0], ⟨(some 73), none, .mv (.t 0)⟩⟩,
    ⟨1, 1, [73], ⟨(some 74), none, .nc (.t 73)⟩⟩,
    ⟨2, 3, [74], ⟨(some 75), none, .fa (.t 74) 0⟩⟩,
    ⟨3, 0, [0], ⟨(some 76), none, .mv (.t 0)⟩⟩,
    ⟨4, 8, [76], ⟨(some 77), none, .nc (.t 76)⟩⟩,
    ⟨5, 24, [77], ⟨(some 78), none, .fa (.t 77) 21⟩⟩,
    ⟨6, 56, [78], ⟨(some 79), none, .ld (.t 78) 1 false⟩⟩,
    ⟨7, 120, [79], ⟨(some 80), none, .mf (.func 159) [(.t 79)] []⟩⟩,
    ⟨8, 0, [0], ⟨(some 81), none, .mv (.t 0)⟩⟩,
    ⟨9, 256, [81], ⟨(some 82), none, .nc (.t 81)⟩⟩,
    ⟨10, 768, [82], ⟨(some 83), none, .fa (.t 82) 21⟩⟩,
    ⟨11, 1792, [83], ⟨(some 84), none, .ld (.t 83) 1 false⟩⟩,
    ⟨12, 3840, [84], ⟨(some 85), none, .mf (.func 160) [(.t 84)] []⟩⟩,
    ⟨13, 0, [0], ⟨(some 86), none, .mv (.t 0)⟩⟩,
    ⟨14, 8192, [86], ⟨(some 87), none, .mf (.func 161) [(.t 86)] []⟩⟩,
    ⟨15, 32767, [75, 80, 85, 87], ⟨(some 88), none, .ca 119 [(.t 75), (.t 80), (.t 85), (.t 87)]⟩⟩]))))))))))))))⟩
theorem k80 : cF Tryz.prog Tryz.f80 = some c80 := by kernel_rfl
/-- (*rundale/cells.Cells).is -/
def c81 : Fu := ⟨16, [.t 4],
  (.sq (.rg [⟨(some 4), none, .mv (.c (.bool false))⟩])
  (.sq (.rg [⟨(some 5), none, .mv (.t 1)⟩,
    ⟨(some 6), none, .ib .geq (.t 5) (.c (.int .i64 0))⟩,
    ⟨(some 7), none, .mv (.t 6)⟩,
    ⟨(some 8), (some (7, true)), .mv (.t 1)⟩,
    ⟨(some 9), (some (7, true)), .mv (.t 0)⟩,
    ⟨(some 10), (some (7, true)), .nc (.t 9)⟩,
    ⟨(some 11), (some (7, true)), .fa (.t 10) 0⟩,
    ⟨(some 12), (some (7, true)), .ld (.t 11) 1 false⟩,
    ⟨(some 13), (some (7, true)), .len (.t 12)⟩,
    ⟨(some 14), (some (7, true)), .ib .lss (.t 8) (.t 13)⟩,
    ⟨(some 15), none, .pk (.t 7) (.t 14) (.c (.bool false))⟩,
    ⟨(some 4), none, .mv (.t 15)⟩])
  .rt))⟩
theorem k81 : cF Tryz.prog Tryz.f81 = some c81 := by kernel_rfl
/-- rundale/lay.within -/
def c82 : Fu := ⟨15, [.t 6],
  (.sq (.rg [⟨(some 6), none, .mv (.c (.bool false))⟩])
  (.sq (.rg [⟨(some 7), none, .mv (.t 0)⟩,
    ⟨(some 8), none, .mv (.t 1)⟩,
    ⟨(some 9), none, .ib .geq (.t 7) (.t 8)⟩,
    ⟨(some 10), none, .mv (.t 9)⟩,
    ⟨(some 11), (some (10, true)), .mv (.t 0)⟩,
    ⟨(some 12), (some (10, true)), .mv (.t 2)⟩,
    ⟨(some 13), (some (10, true)), .ib .leq (.t 11) (.t 12)⟩,
    ⟨(some 14), none, .pk (.t 10) (.t 13) (.c (.bool false))⟩,
    ⟨(some 6), none, .mv (.t 14)⟩])
  .rt))⟩
theorem k82 : cF Tryz.prog Tryz.f82 = some c82 := by kernel_rfl
/-- rundale/lay.cell -/
def c83 : Fu := ⟨33, [.t 6],
  (.sq (.rg [⟨(some 3), none, .bx 24 (.t 0)⟩,
    ⟨(some 6), none, .mv (.c (.int .i64 0))⟩])
  (.sq (.sq (.rg [⟨(some 9), none, .ld (.t 3) 6 true⟩,
    ⟨(some 10), none, .ca 77 [(.t 9)]⟩,
    ⟨(some 11), none, .nt (.t 10)⟩])
  (.cd (.t 11)
  (.sq (.rg [⟨(some 6), none, .mv (.c (.int .i64 (-1)))⟩])
  .rt)
  .sk))
  (.sq (.sq (.rg [⟨(some 12), none, .ld (.t 3) 6 true⟩,
    ⟨(some 13), none, .ca 78 [(.t 12)]⟩,
    ⟨(some 14), none, .mv (.c (.int .i64 0))⟩])
  (.bl 0
  (.lp
  (.sq (.rg [⟨(some 15), none, .ib .lss (.t 14) (.c (.int .i64 5))⟩])
  (.sq (.cd (.t 15)
  .sk
  (.ex 0))
  (.sq (.bl 1
  (.sq (.rg [⟨(some 16), none, .iv (.t 13) (.t 14) 5 3 true⟩,
    ⟨(some 8), none, .al 142 [(.int .i64 0), (.int .i64 0), (.int .i64 0)]⟩,
    ⟨none, none, .st (.t 8) (.t 16) 3⟩])
  (.sq (.rg [⟨(some 17), none, .fa (.t 8) 0⟩,
    ⟨(some 18), none, .ld (.t 17) 1 false⟩,
    ⟨(some 19), none, .mv (.t 1)⟩,
    ⟨(some 20), none, .ib .eql (.t 18) (.t 19)⟩,
    ⟨(some 21), none, .mv (.t 20)⟩,
    ⟨(some 22), (some (21, true)), .mv (.t 2)⟩,
    ⟨(some 23), (some (21, true)), .fa (.t 8) 2⟩,
    ⟨(some 24), (some (21, true)), .ld (.t 23) 1 false⟩,
    ⟨(some 25), (some (21, true)), .ib .sub (.t 24) (.c (.int .i64 1))⟩,
    ⟨(some 26), (some (21, true)), .ca 82 [(.t 22), (.c (.int .i64 0)), (.t 25)]⟩,
    ⟨(some 27), none, .pk (.t 21) (.t 26) (.c (.bool false))⟩])
  (.cd (.t 27)
  (.sq (.rg [⟨(some 28), none, .fa (.t 8) 1⟩,
    ⟨(some 29), none, .ld (.t 28) 1 false⟩,
    ⟨(some 30), none, .mv (.t 2)⟩,
    ⟨(some 31), none, .ib .add (.t 29) (.t 30)⟩,
    ⟨(some 6), none, .mv (.t 31)⟩])
  .rt)
  .sk))))
  (.rg [⟨(some 32), none, .ib .add (.t 14) (.c (.int .i64 1))⟩,
    ⟨(some 14), none, .mv (.t 32)⟩])))))))
  (.sq (.rg [⟨(some 6), none, .mv (.c (.int .i64 (-1)))⟩])
  .rt))))⟩
theorem k83 : cF Tryz.prog Tryz.f83 = some c83 := by kernel_rfl
/-- (*rundale/roots.Roots).Create -/
def c84 : Fu := ⟨34, [.t 4],
  (.sq (.rg [⟨(some 4), none, .mv (.c (.pointer none))⟩])
  (.sq (.rg [⟨(some 6), none, .mv (.t 0)⟩,
    ⟨(some 7), none, .mv (.t 1)⟩,
    ⟨(some 8), none, .mm true (.t 7) (.c (.int .i64 0))⟩,
    ⟨(some 9), none, .mm false (.t 8) (.c (.int .i64 3))⟩,
    ⟨(some 10), none, .mv (.t 0)⟩,
    ⟨(some 11), none, .nc (.t 10)⟩,
    ⟨(some 12), none, .fa (.t 11) 7⟩,
    ⟨(some 13), none, .ld (.t 12) 1 false⟩,
    ⟨(some 14), none, .ca 162 [(.t 13), (.c (.int .i64 1))]⟩,
    ⟨(some 15), none, .bd [.nilFunc, .nilFunc, .nilFunc, .nilFunc, (.int .i64 0), (.pointer none), (.int .i64 0), (.pointer none), (.int .i64 0), (.int .i64 0), (.int .i64 0), (.int .i64 0), (.int .i64 0), (.int .i64 0), (.int .i64 0)] [(5, 1, (.t 6)), (6, 1, (.t 9)), (7, 1, (.t 14)), (8, 1, (.c (.int .i64 (-1))))]⟩,
    ⟨(some 16), none, .bx 232 (.t 15)⟩,
    ⟨(some 5), none, .mv (.t 16)⟩])
  (.sq (.rd [⟨0, 0, [5], ⟨(some 17), none, .mv (.t 5)⟩⟩,
    ⟨1, 1, [17], ⟨(some 18), none, .nc (.t 17)⟩⟩,
    ⟨2, 3, [18], ⟨(some 19), none, .fa (.t 18) 0⟩⟩,
    ⟨3, 0, [5], ⟨(some 20), none, .mv (.t 5)⟩⟩,
    ⟨4, 8, [20], ⟨(some 21), none, .nc (.t 20)⟩⟩,
    ⟨5, 24, [21], ⟨(some 22), none, .fa (.t 21) 7⟩⟩,
    ⟨6, 56, [22], ⟨(some 23), none, .ld (.t 22) 1 false⟩⟩,
    ⟨7, 120, [23], ⟨(some 24), none, .mf (.func 163) [(.t 23)] []⟩⟩,
    ⟨8, 0, [5], ⟨(some 25), none, .mv (.t 5)⟩⟩,
    ⟨9, 256, [25], ⟨(some 26), none, .nc (.t 25)⟩⟩,
    ⟨10, 768, [26], ⟨(some 27), none, .fa (.t 26) 7⟩⟩,
    ⟨11, 1792, [27], ⟨(some 28), none, .ld (.t 27) 1 false⟩⟩,
    ⟨12, 3840, [28], ⟨(some 29), none, .mf (.func 164) [(.t 28)] []⟩⟩,
    ⟨13, 0, [5], ⟨(some 30), none, .mv (.t 5)⟩⟩,
    ⟨14, 8192, [30], ⟨(some 31), none, .mf (.func 165) [(.t 30)] []⟩⟩,
    ⟨15, 32767, [19, 24, 29, 31], ⟨(some 32), none, .ca 119 [(.t 19), (.t 24), (.t 29), (.t 31)]⟩⟩])
  (.sq (.rg [⟨(some 33), none, .mv (.t 5)⟩,
    ⟨(some 4), none, .mv (.t 33)⟩])
  .rt))))⟩
theorem k84 : cF Tryz.prog Tryz.f84 = some c84 := by kernel_rfl
/-- (*rundale/rundaleref11.W).Create -/
def c85 : Fu := ⟨16, [.t 4],
  (.sq (.rg [⟨(some 4), none, .mv (.c (.pointer none))⟩])
  (.sq (.rg [⟨(some 5), none, .mv (.t 0)⟩,
    ⟨(some 6), none, .mv (.t 1)⟩,
    ⟨(some 7), none, .mm true (.t 6) (.c (.int .i64 0))⟩,
    ⟨(some 8), none, .mm false (.t 7) (.c (.int .i64 3))⟩,
    ⟨(some 9), none, .mv (.t 0)⟩,
    ⟨(some 10), none, .nc (.t 9)⟩,
    ⟨(some 11), none, .fa (.t 10) 8⟩,
    ⟨(some 12), none, .ld (.t 11) 1 false⟩,
    ⟨(some 13), none, .ca 166 [(.t 12), (.c (.int .i64 1))]⟩,
    ⟨(some 14), none, .bd [(.pointer none), (.int .i64 0), (.int .i64 0), (.int .i64 0), (.int .i64 0), (.int .i64 0), (.int .i64 0), (.pointer none), (.int .i64 0), (.int .i64 0), (.int .i64 0), (.int .i64 0), (.int .i64 0), (.bool false)] [(0, 1, (.t 5)), (1, 1, (.t 8)), (7, 1, (.t 13))]⟩,
    ⟨(some 15), none, .bx 164 (.t 14)⟩,
    ⟨(some 4), none, .mv (.t 15)⟩])
  .rt))⟩
theorem k85 : cF Tryz.prog Tryz.f85 = some c85 := by kernel_rfl
/-- (*rundale/roots.Create).Step -/
def c86 : Fu := ⟨7, [.t 2],
  (.sq (.rg [⟨(some 2), none, .mv (.c (.bool false))⟩])
  (.sq (.rg [⟨(some 3), none, .mv (.t 0)⟩,
    ⟨(some 4), none, .nc (.t 3)⟩,
    ⟨(some 5), none, .fa (.t 4) 0⟩,
    ⟨(some 6), none, .ca 91 [(.t 5)]⟩,
    ⟨(some 2), none, .mv (.t 6)⟩])
  .rt))⟩
theorem k86 : cF Tryz.prog Tryz.f86 = some c86 := by kernel_rfl
/-- (*rundale/rundaleref11.Create).Step -/
def c87 : Fu := ⟨137, [.t 2],
  (.sq (.rg [⟨(some 2), none, .mv (.c (.bool false))⟩])
  (.sq (.sq (.rg [⟨(some 7), none, .mv (.t 0)⟩,
    ⟨(some 8), none, .nc (.t 7)⟩,
    ⟨(some 9), none, .fa (.t 8) 13⟩,
    ⟨(some 10), none, .ld (.t 9) 1 false⟩])
  (.cd (.t 10)
  (.sq (.rg [⟨(some 2), none, .mv (.c (.bool false))⟩])
  .rt)
  .sk))
  (.sq (.rg [⟨(some 11), none, .mv (.t 0)⟩,
    ⟨(some 12), none, .nc (.t 11)⟩,
    ⟨(some 13), none, .fa (.t 12) 3⟩,
    ⟨(some 14), none, .ld (.t 13) 1 false⟩,
    ⟨(some 15), none, .ib .add (.t 14) (.c (.int .i64 1))⟩,
    ⟨(some 16), none, .nc (.t 11)⟩,
    ⟨(some 17), none, .fa (.t 16) 3⟩,
    ⟨none, none, .st (.t 17) (.t 15) 1⟩])
  (.sq (.rg [⟨(some 18), none, .mv (.t 0)⟩,
    ⟨(some 19), none, .nc (.t 18)⟩,
    ⟨(some 20), none, .fa (.t 19) 0⟩,
    ⟨(some 21), none, .ld (.t 20) 1 false⟩,
    ⟨(some 22), none, .nc (.t 21)⟩,
    ⟨(some 23), none, .fa (.t 22) 6⟩,
    ⟨(some 24), none, .ld (.t 23) 1 false⟩,
    ⟨(some 3), none, .mv (.t 24)⟩])
  (.sq (.sq (.rg [⟨(some 25), none, .mv (.t 0)⟩,
    ⟨(some 26), none, .nc (.t 25)⟩,
    ⟨(some 27), none, .fa (.t 26) 2⟩,
    ⟨(some 28), none, .ld (.t 27) 1 false⟩])
  (.bl 0
  (.sq (.rg [⟨(some 70), none, .ib .eql (.t 28) (.c (.int .i64 0))⟩,
    ⟨(some 69), none, .mv (.t 70)⟩])
  (.cd (.t 69)
  (.sq (.rg [⟨(some 71), none, .mv (.t 0)⟩,
    ⟨(some 72), none, .nc (.t 71)⟩,
    ⟨(some 73), none, .fa (.t 72) 7⟩,
    ⟨(some 74), none, .ld (.t 73) 1 false⟩,
    ⟨(some 75), none, .ca 167 [(.t 74)]⟩])
  (.sq (.sq (.rg [⟨(some 76), none, .mv (.t 0)⟩,
    ⟨(some 77), none, .nc (.t 76)⟩,
    ⟨(some 78), none, .fa (.t 77) 7⟩,
    ⟨(some 79), none, .ld (.t 78) 1 false⟩,
    ⟨(some 80), none, .nc (.t 79)⟩,
    ⟨(some 81), none, .fa (.t 80) 6⟩,
    ⟨(some 82), none, .ld (.t 81) 1 false⟩,
    ⟨(some 83), none, .nt (.t 82)⟩])
  (.cd (.t 83)
  (.sq (.rg [⟨(some 2), none, .mv (.c (.bool true))⟩])
  .rt)
  .sk))
  (.sq (.rg [⟨(some 84), none, .mv (.t 0)⟩,
    ⟨(some 85), none, .mv (.t 0)⟩,
    ⟨(some 86), none, .nc (.t 85)⟩,
    ⟨(some 87), none, .fa (.t 86) 3⟩,
    ⟨(some 88), none, .ld (.t 87) 1 false⟩,
    ⟨(some 89), none, .nc (.t 84)⟩,
    ⟨(some 90), none, .fa (.t 89) 4⟩,
    ⟨none, none, .st (.t 90) (.t 88) 1⟩])
  (.sq (.rg [⟨(some 91), none, .mv (.t 0)⟩,
    ⟨(some 92), none, .nc (.t 91)⟩,
    ⟨(some 93), none, .fa (.t 92) 7⟩,
    ⟨(some 94), none, .ld (.t 93) 1 false⟩,
    ⟨(some 95), none, .ca 168 [(.t 94)]⟩,
    ⟨(some 4), none, .mv (.t 95)⟩])
  (.sq (.sq (.rg [⟨(some 96), none, .mv (.t 4)⟩,
    ⟨(some 97), none, .len (.t 96)⟩,
    ⟨(some 98), none, .ib .eql (.t 97) (.c (.int .i64 0))⟩])
  (.cd (.t 98)
  (.sq (.rg [⟨(some 99), none, .mv (.t 0)⟩,
    ⟨(some 100), none, .mv (.t 0)⟩,
    ⟨(some 101), none, .nc (.t 99)⟩,
    ⟨(some 102), none, .fa (.t 101) 12⟩,
    ⟨none, none, .st (.t 102) (.c (.int .i64 7)) 1⟩,
    ⟨(some 103), none, .nc (.t 100)⟩,
    ⟨(some 104), none, .fa (.t 103) 13⟩,
    ⟨none, none, .st (.t 104) (.c (.bool true)) 1⟩])
  (.sq (.rg [⟨(some 2), none, .mv (.c (.bool true))⟩])
  .rt))
  .sk))
  (.rg [⟨(some 105), none, .mv (.t 0)⟩,
    ⟨(some 106), none, .mv (.t 0)⟩,
    ⟨(some 107), none, .mv (.t 4)⟩,
    ⟨(some 108), none, .ia (.t 107) (.c (.int .i64 0)) 1⟩,
    ⟨(some 109), none, .ld (.t 108) 1 false⟩,
    ⟨(some 110), none, .nc (.t 105)⟩,
    ⟨(some 111), none, .fa (.t 110) 5⟩,
    ⟨none, none, .st (.t 111) (.t 109) 1⟩,
    ⟨(some 112), none, .nc (.t 106)⟩,
    ⟨(some 113), none, .fa (.t 112) 2⟩,
    ⟨none, none, .st (.t 113) (.c (.int .i64 1)) 1⟩]))))))
  (.sq (.rg [⟨(some 115), none, .ib .eql (.t 28) (.c (.int .i64 1))⟩,
    ⟨(some 114), none, .mv (.t 115)⟩])
  (.cd (.t 114)
  (.sq (.rd [⟨0, 0, [0], ⟨(some 116), none, .mv (.t 0)⟩⟩,
    ⟨1, 0, [3], ⟨(some 117), none, .mv (.t 3)⟩⟩,
    ⟨2, 0, [0], ⟨(some 118), none, .mv (.t 0)⟩⟩,
    ⟨3, 4, [118], ⟨(some 119), none, .nc (.t 118)⟩⟩,
    ⟨4, 12, [119], ⟨(some 120), none, .fa (.t 119) 0⟩⟩,
    ⟨5, 28, [120], ⟨(some 121), none, .ld (.t 120) 1 false⟩⟩,
    ⟨6, 60, [121], ⟨(some 122), none, .nc (.t 121)⟩⟩,
    ⟨7, 124, [122], ⟨(some 123), none, .fa (.t 122) 0⟩⟩,
    ⟨8, 252, [123], ⟨(some 124), none, .ld (.t 123) 6 true⟩⟩,
    ⟨9, 0, [0], ⟨(some 125), none, .mv (.t 0)⟩⟩,
    ⟨10, 512, [125], ⟨(some 126), none, .nc (.t 125)⟩⟩,
    ⟨11, 1536, [126], ⟨(some 127), none, .fa (.t 126) 5⟩⟩,
    ⟨12, 3584, [127], ⟨(some 128), none, .ld (.t 127) 1 false⟩⟩,
    ⟨13, 8188, [124, 128], ⟨(some 129), none, .ca 97 [(.t 124), (.t 128)]⟩⟩,
    ⟨14, 16382, [117, 129], ⟨(some 130), none, .ca 98 [(.t 117), (.t 129)]⟩⟩,
    ⟨15, 32766, [130], ⟨(some 131), none, .ca 100 [(.t 130)]⟩⟩,
    ⟨16, 65535, [116], ⟨(some 132), none, .nc (.t 116)⟩⟩,
    ⟨17, 131071, [132], ⟨(some 133), none, .fa (.t 132) 8⟩⟩,
    ⟨18, 262143, [133, 131], ⟨none, none, .st (.t 133) (.t 131) 4⟩⟩])
  (.rg [⟨(some 134), none, .mv (.t 0)⟩,
    ⟨(some 135), none, .nc (.t 134)⟩,
    ⟨(some 136), none, .fa (.t 135) 2⟩,
    ⟨none, none, .st (.t 136) (.c (.int .i64 2)) 1⟩]))
  (.sq (.rg [⟨(some 29), none, .mv (.t 0)⟩,
    ⟨(some 30), none, .mv (.t 0)⟩,
    ⟨(some 31), none, .nc (.t 30)⟩,
    ⟨(some 32), none, .fa (.t 31) 8⟩,
    ⟨(some 33), none, .fa (.t 32) 0⟩,
    ⟨(some 34), none, .ld (.t 33) 1 false⟩,
    ⟨(some 35), none, .ca 169 [(.t 34)]⟩,
    ⟨(some 36), none, .nc (.t 29)⟩,
    ⟨(some 37), none, .fa (.t 36) 6⟩,
    ⟨none, none, .st (.t 37) (.t 35) 1⟩])
  (.sq (.rd [⟨0, 0, [0], ⟨(some 39), none, .mv (.t 0)⟩⟩,
    ⟨1, 1, [39], ⟨(some 40), none, .nc (.t 39)⟩⟩,
    ⟨2, 3, [40], ⟨(some 41), none, .fa (.t 40) 6⟩⟩,
    ⟨3, 7, [41], ⟨(some 42), none, .ld (.t 41) 1 false⟩⟩,
    ⟨4, 0, [0], ⟨(some 43), none, .mv (.t 0)⟩⟩,
    ⟨5, 16, [43], ⟨(some 44), none, .nc (.t 43)⟩⟩,
    ⟨6, 48, [44], ⟨(some 45), none, .fa (.t 44) 1⟩⟩,
    ⟨7, 112, [45], ⟨(some 46), none, .ld (.t 45) 1 false⟩⟩,
    ⟨8, 255, [42, 46], ⟨(some 47), none, .bd [(.int .i64 0), (.int .i64 0), (.int .i64 0), (.int .i64 0)] [(0, 1, (.t 42)), (1, 1, (.c (.int .i64 1))), (2, 1, (.t 46))]⟩⟩,
    ⟨9, 511, [47], ⟨(some 48), none, .ca 101 [(.t 47)]⟩⟩,
    ⟨10, 1023, [48], ⟨(some 38), none, .mv (.t 48)⟩⟩,
    ⟨11, 2047, [38], ⟨(some 49), none, .ex (.t 38) 0⟩⟩,
    ⟨12, 2047, [38], ⟨(some 50), none, .ex (.t 38) 1⟩⟩,
    ⟨13, 4095, [49], ⟨(some 5), none, .mv (.t 49)⟩⟩,
    ⟨14, 16383, [50], ⟨(some 6), none, .mv (.t 50)⟩⟩])
  (.sq (.rd [⟨0, 0, [3], ⟨(some 51), none, .mv (.t 3)⟩⟩,
    ⟨1, 0, [0], ⟨(some 52), none, .mv (.t 0)⟩⟩,
    ⟨2, 2, [52], ⟨(some 53), none, .nc (.t 52)⟩⟩,
    ⟨3, 6, [53], ⟨(some 54), none, .fa (.t 53) 0⟩⟩,
    ⟨4, 14, [54], ⟨(some 55), none, .ld (.t 54) 1 false⟩⟩,
    ⟨5, 30, [55], ⟨(some 56), none, .nc (.t 55)⟩⟩,
    ⟨6, 62, [56], ⟨(some 57), none, .fa (.t 56) 0⟩⟩,
    ⟨7, 126, [57], ⟨(some 58), none, .ld (.t 57) 6 true⟩⟩,
    ⟨8, 0, [0], ⟨(some 59), none, .mv (.t 0)⟩⟩,
    ⟨9, 256, [59], ⟨(some 60), none, .nc (.t 59)⟩⟩,
    ⟨10, 768, [60], ⟨(some 61), none, .fa (.t 60) 5⟩⟩,
    ⟨11, 1792, [61], ⟨(some 62), none, .ld (.t 61) 1 false⟩⟩,
    ⟨12, 4094, [58, 62], ⟨(some 63), none, .ca 97 [(.t 58), (.t 62)]⟩⟩,
    ⟨13, 0, [5], ⟨(some 64), none, .mv (.t 5)⟩⟩,
    ⟨14, 16383, [51, 63, 64], ⟨(some 65), none, .ca 110 [(.t 51), (.t 63), (.t 64)]⟩⟩])
  (.rg [⟨(some 66), none, .mv (.t 0)⟩,
    ⟨(some 67), none, .nc (.t 66)⟩,
    ⟨(some 68), none, .fa (.t 67) 13⟩,
    ⟨none, none, .st (.t 68) (.c (.bool true)) 1⟩]))))))))))
  (.sq (.rg [⟨(some 2), none, .mv (.c (.bool true))⟩])
  .rt))))))⟩
theorem k87 : cF Tryz.prog Tryz.f87 = some c87 := by kernel_rfl
/-- (*rundale/roots.Create).Region -/
def c88 : Fu := ⟨23, [.t 2, .t 3],
  (.sq (.rg [⟨(some 2), none, .mv (.c (.int .i64 0))⟩,
    ⟨(some 3), none, .mv (.c (.int .i64 0))⟩])
  (.sq (.sq (.rg [⟨(some 4), none, .mv (.t 0)⟩,
    ⟨(some 5), none, .ca 89 [(.t 4)]⟩,
    ⟨(some 6), none, .nt (.t 5)⟩,
    ⟨(some 7), none, .mv (.t 6)⟩,
    ⟨(some 8), (some (7, false)), .mv (.t 0)⟩,
    ⟨(some 9), (some (7, false)), .nc (.t 8)⟩,
    ⟨(some 10), (some (7, false)), .fa (.t 9) 14⟩,
    ⟨(some 11), (some (7, false)), .ld (.t 10) 1 false⟩,
    ⟨(some 12), (some (7, false)), .ib .neq (.t 11) (.c (.int .i64 0))⟩,
    ⟨(some 13), none, .pk (.t 7) (.c (.bool true)) (.t 12)⟩])
  (.cd (.t 13)
  (.sq (.rg [⟨(some 2), none, .mv (.c (.int .i64 0))⟩,
    ⟨(some 3), none, .mv (.c (.int .i64 0))⟩])
  .rt)
  .sk))
  (.sq (.rd [⟨0, 0, [0], ⟨(some 14), none, .mv (.t 0)⟩⟩,
    ⟨1, 1, [14], ⟨(some 15), none, .nc (.t 14)⟩⟩,
    ⟨2, 3, [15], ⟨(some 16), none, .fa (.t 15) 8⟩⟩,
    ⟨3, 7, [16], ⟨(some 17), none, .ld (.t 16) 1 false⟩⟩,
    ⟨4, 0, [0], ⟨(some 18), none, .mv (.t 0)⟩⟩,
    ⟨5, 16, [18], ⟨(some 19), none, .nc (.t 18)⟩⟩,
    ⟨6, 48, [19], ⟨(some 20), none, .fa (.t 19) 10⟩⟩,
    ⟨7, 112, [20], ⟨(some 21), none, .fa (.t 20) 0⟩⟩,
    ⟨8, 240, [21], ⟨(some 22), none, .ld (.t 21) 1 false⟩⟩,
    ⟨9, 15, [17], ⟨(some 2), none, .mv (.t 17)⟩⟩,
    ⟨10, 1023, [22], ⟨(some 3), none, .mv (.t 22)⟩⟩])
  .rt)))⟩
theorem k88 : cF Tryz.prog Tryz.f88 = some c88 := by kernel_rfl
/-- (*rundale/roots.Create).Done -/
def c89 : Fu := ⟨7, [.t 2],
  (.sq (.rg [⟨(some 2), none, .mv (.c (.bool false))⟩])
  (.sq (.rg [⟨(some 3), none, .mv (.t 0)⟩,
    ⟨(some 4), none, .nc (.t 3)⟩,
    ⟨(some 5), none, .fa (.t 4) 0⟩,
    ⟨(some 6), none, .ca 92 [(.t 5)]⟩,
    ⟨(some 2), none, .mv (.t 6)⟩])
  .rt))⟩
theorem k89 : cF Tryz.prog Tryz.f89 = some c89 := by kernel_rfl
/-- (*rundale/roots.Create).Code -/
def c90 : Fu := ⟨7, [.t 2],
  (.sq (.rg [⟨(some 2), none, .mv (.c (.int .i64 0))⟩])
  (.sq (.rg [⟨(some 3), none, .mv (.t 0)⟩,
    ⟨(some 4), none, .nc (.t 3)⟩,
    ⟨(some 5), none, .fa (.t 4) 14⟩,
    ⟨(some 6), none, .ld (.t 5) 1 false⟩,
    ⟨(some 2), none, .mv (.t 6)⟩])
  .rt))⟩
theorem k90 : cF Tryz.prog Tryz.f90 = some c90 := by kernel_rfl
/-- (*rundale/run.Machine).Step -/
def c91 : Fu := ⟨25, [.t 2],
  (.sq (.rg [⟨(some 2), none, .mv (.c (.bool false))⟩])
  (.sq (.sq (.rg [⟨(some 4), none, .mv (.t 0)⟩,
    ⟨(some 5), none, .nc (.t 4)⟩,
    ⟨(some 6), none, .fa (.t 5) 0⟩,
    ⟨(some 7), none, .ld (.t 6) 1 false⟩,
    ⟨(some 8), none, .en 2 false (.t 7) (.c .nilFunc)⟩])
  (.cd (.t 8)
  (.sq (.rg [⟨(some 2), none, .mv (.c (.bool false))⟩])
  .rt)
  .sk))
  (.sq (.rg [⟨(some 9), none, .mv (.t 0)⟩,
    ⟨(some 10), none, .nc (.t 9)⟩,
    ⟨(some 11), none, .fa (.t 10) 0⟩,
    ⟨(some 12), none, .ld (.t 11) 1 false⟩,
    ⟨(some 3), none, .mv (.t 12)⟩])
  (.sq (.rg [⟨(some 13), none, .mv (.t 0)⟩,
    ⟨(some 14), none, .nc (.t 13)⟩,
    ⟨(some 15), none, .fa (.t 14) 0⟩,
    ⟨none, none, .st (.t 15) (.c .nilFunc) 1⟩])
  (.sq (.rg [⟨(some 16), none, .mv (.t 0)⟩,
    ⟨(some 17), none, .nc (.t 16)⟩,
    ⟨(some 18), none, .fa (.t 17) 4⟩,
    ⟨(some 19), none, .ld (.t 18) 1 false⟩,
    ⟨(some 20), none, .ib .add (.t 19) (.c (.int .i64 1))⟩,
    ⟨(some 21), none, .nc (.t 16)⟩,
    ⟨(some 22), none, .fa (.t 21) 4⟩,
    ⟨none, none, .st (.t 22) (.t 20) 1⟩])
  (.sq (.rg [⟨(some 23), none, .mv (.t 3)⟩,
    ⟨(some 24), none, .cl (.t 23) []⟩])
  (.sq (.rg [⟨(some 2), none, .mv (.c (.bool true))⟩])
  .rt)))))))⟩
theorem k91 : cF Tryz.prog Tryz.f91 = some c91 := by kernel_rfl
/-- (*rundale/run.Machine).Done -/
def c92 : Fu := ⟨8, [.t 2],
  (.sq (.rg [⟨(some 2), none, .mv (.c (.bool false))⟩])
  (.sq (.rg [⟨(some 3), none, .mv (.t 0)⟩,
    ⟨(some 4), none, .nc (.t 3)⟩,
    ⟨(some 5), none, .fa (.t 4) 0⟩,
    ⟨(some 6), none, .ld (.t 5) 1 false⟩,
    ⟨(some 7), none, .en 2 false (.t 6) (.c .nilFunc)⟩,
    ⟨(some 2), none, .mv (.t 7)⟩])
  .rt))⟩
theorem k92 : cF Tryz.prog Tryz.f92 = some c92 := by kernel_rfl
/-- rundale/word.GetRoot -/
def c93 : Fu := ⟨16, [.c 2 4 true],
  (.sq (.rg [⟨(some 2), none, .al 68 [(.int .i64 0), (.int .i64 0), (.int .i64 0), (.int .i64 0)]⟩])
  (.sq (.rg [⟨(some 3), none, .mv (.t 0)⟩,
    ⟨(some 4), none, .ca 170 [(.t 3), (.c (.int .i64 32)), (.c (.int .i64 32))]⟩,
    ⟨(some 5), none, .cv .i64 (.t 4)⟩,
    ⟨(some 6), none, .mv (.t 0)⟩,
    ⟨(some 7), none, .ca 170 [(.t 6), (.c (.int .i64 16)), (.c (.int .i64 16))]⟩,
    ⟨(some 8), none, .cv .i64 (.t 7)⟩,
    ⟨(some 9), none, .mv (.t 0)⟩,
    ⟨(some 10), none, .ca 170 [(.t 9), (.c (.int .i64 12)), (.c (.int .i64 4))]⟩,
    ⟨(some 11), none, .cv .i64 (.t 10)⟩,
    ⟨(some 12), none, .mv (.t 0)⟩,
    ⟨(some 13), none, .ca 170 [(.t 12), (.c (.int .i64 0)), (.c (.int .i64 12))]⟩,
    ⟨(some 14), none, .cv .i64 (.t 13)⟩,
    ⟨(some 15), none, .bd [(.int .i64 0), (.int .i64 0), (.int .i64 0), (.int .i64 0)] [(0, 1, (.t 5)), (1, 1, (.t 8)), (2, 1, (.t 11)), (3, 1, (.t 14))]⟩,
    ⟨none, none, .st (.t 2) (.t 15) 4⟩])
  .rt))⟩
theorem k93 : cF Tryz.prog Tryz.f93 = some c93 := by kernel_rfl
/-- rundale/lay.Root -/
def c94 : Fu := ⟨8, [.t 4],
  (.sq (.rg [⟨(some 2), none, .bx 24 (.t 0)⟩,
    ⟨(some 4), none, .mv (.c (.int .i64 0))⟩])
  (.sq (.rg [⟨(some 5), none, .ld (.t 2) 6 true⟩,
    ⟨(some 6), none, .mv (.t 1)⟩,
    ⟨(some 7), none, .ca 83 [(.t 5), (.c (.int .i64 4)), (.t 6)]⟩,
    ⟨(some 4), none, .mv (.t 7)⟩])
  .rt))⟩
theorem k94 : cF Tryz.prog Tryz.f94 = some c94 := by kernel_rfl
/-- (*rundale/stack.Stack).top -/
def c95 : Fu := ⟨17, [.t 4],
  (.sq (.rg [⟨(some 4), none, .mv (.c (.int .i64 0))⟩])
  (.sq (.sq (.rg [⟨(some 6), none, .mv (.t 1)⟩,
    ⟨(some 7), none, .ca 171 [(.t 6)]⟩,
    ⟨(some 5), none, .al 238 [(.int .i64 0), (.int .i64 0)]⟩,
    ⟨none, none, .st (.t 5) (.t 7) 2⟩])
  (.sq (.rd [⟨0, 0, [5], ⟨(some 8), none, .fa (.t 5) 0⟩⟩,
    ⟨1, 1, [8], ⟨(some 9), none, .ld (.t 8) 1 false⟩⟩,
    ⟨2, 0, [0], ⟨(some 10), none, .mv (.t 0)⟩⟩,
    ⟨3, 4, [10], ⟨(some 11), none, .nc (.t 10)⟩⟩,
    ⟨4, 12, [11], ⟨(some 12), none, .fa (.t 11) 3⟩⟩,
    ⟨5, 28, [12], ⟨(some 13), none, .ld (.t 12) 1 false⟩⟩,
    ⟨6, 63, [9, 13], ⟨(some 14), none, .ib .lss (.t 9) (.t 13)⟩⟩])
  (.cd (.t 14)
  (.sq (.rg [⟨(some 15), none, .fa (.t 5) 0⟩,
    ⟨(some 16), none, .ld (.t 15) 1 false⟩,
    ⟨(some 4), none, .mv (.t 16)⟩])
  .rt)
  .sk)))
  (.sq (.rg [⟨(some 4), none, .mv (.c (.int .i64 (-1)))⟩])
  .rt)))⟩
theorem k95 : cF Tryz.prog Tryz.f95 = some c95 := by kernel_rfl
/-- (*rundale/stack.Stack).below -/
def c96 : Fu := ⟨15, [.t 4],
  (.sq (.rg [⟨(some 4), none, .mv (.c (.int .i64 0))⟩])
  (.sq (.sq (.rg [⟨(some 5), none, .mv (.t 1)⟩,
    ⟨(some 6), none, .mv (.t 0)⟩,
    ⟨(some 7), none, .nc (.t 6)⟩,
    ⟨(some 8), none, .fa (.t 7) 3⟩,
    ⟨(some 9), none, .ld (.t 8) 1 false⟩,
    ⟨(some 10), none, .cv .u64 (.t 9)⟩,
    ⟨(some 11), none, .ib .gtr (.t 5) (.t 10)⟩])
  (.cd (.t 11)
  (.sq (.rg [⟨(some 4), none, .mv (.c (.int .i64 (-1)))⟩])
  .rt)
  .sk))
  (.sq (.rg [⟨(some 12), none, .mv (.t 1)⟩,
    ⟨(some 13), none, .cv .i64 (.t 12)⟩,
    ⟨(some 14), none, .ib .sub (.t 13) (.c (.int .i64 1))⟩,
    ⟨(some 4), none, .mv (.t 14)⟩])
  .rt)))⟩
theorem k96 : cF Tryz.prog Tryz.f96 = some c96 := by kernel_rfl
/-- rundale/rundaleref1.RootAt -/
def c97 : Fu := ⟨13, [.t 4],
  (.sq (.rg [⟨(some 2), none, .bx 24 (.t 0)⟩,
    ⟨(some 4), none, .mv (.c (.int .i64 0))⟩])
  (.sq (.rg [⟨(some 5), none, .ld (.t 2) 6 true⟩,
    ⟨(some 6), none, .fa (.t 2) 0⟩,
    ⟨(some 7), none, .ld (.t 6) 1 false⟩,
    ⟨(some 8), none, .ib .add (.c (.int .i64 3)) (.t 7)⟩,
    ⟨(some 9), none, .fa (.t 2) 3⟩,
    ⟨(some 10), none, .ld (.t 9) 1 false⟩,
    ⟨(some 11), none, .mv (.t 1)⟩,
    ⟨(some 12), none, .ca 172 [(.t 5), (.t 8), (.t 10), (.t 11)]⟩,
    ⟨(some 4), none, .mv (.t 12)⟩])
  .rt))⟩
theorem k97 : cF Tryz.prog Tryz.f97 = some c97 := by kernel_rfl
/-- (*rundale/rundaleref5.M).Load -/
def c98 : Fu := ⟨19, [.t 4],
  (.sq (.rg [⟨(some 4), none, .mv (.c (.int .u64 0))⟩])
  (.sq (.rg [⟨(some 5), none, .mv (.t 0)⟩,
    ⟨(some 6), none, .nc (.t 5)⟩,
    ⟨(some 7), none, .fa (.t 6) 1⟩,
    ⟨(some 8), none, .ld (.t 7) 1 false⟩,
    ⟨(some 9), none, .ib .add (.t 8) (.c (.int .i64 1))⟩,
    ⟨(some 10), none, .nc (.t 5)⟩,
    ⟨(some 11), none, .fa (.t 10) 1⟩,
    ⟨none, none, .st (.t 11) (.t 9) 1⟩])
  (.sq (.rg [⟨(some 12), none, .mv (.t 0)⟩,
    ⟨(some 13), none, .nc (.t 12)⟩,
    ⟨(some 14), none, .fa (.t 13) 0⟩,
    ⟨(some 15), none, .ld (.t 14) 1 false⟩,
    ⟨(some 16), none, .mv (.t 1)⟩,
    ⟨(some 17), none, .ia (.t 15) (.t 16) 1⟩,
    ⟨(some 18), none, .ld (.t 17) 1 false⟩,
    ⟨(some 4), none, .mv (.t 18)⟩])
  .rt)))⟩
theorem k98 : cF Tryz.prog Tryz.f98 = some c98 := by kernel_rfl
/-- rundale/rundaleref1.GetRoot -/
def c100 : Fu := ⟨18, [.c 2 4 true],
  (.sq (.rg [⟨(some 2), none, .al 162 [(.int .i64 0), (.int .i64 0), (.int .i64 0), (.int .i64 0)]⟩])
  (.sq (.rg [⟨(some 3), none, .mv (.t 0)⟩,
    ⟨(some 4), none, .ib .quo (.t 3) (.c (.int .u64 4294967296))⟩,
    ⟨(some 5), none, .cv .i64 (.t 4)⟩,
    ⟨(some 6), none, .mv (.t 0)⟩,
    ⟨(some 7), none, .ib .quo (.t 6) (.c (.int .u64 65536))⟩,
    ⟨(some 8), none, .ib .rem (.t 7) (.c (.int .u64 65536))⟩,
    ⟨(some 9), none, .cv .i64 (.t 8)⟩,
    ⟨(some 10), none, .mv (.t 0)⟩,
    ⟨(some 11), none, .ib .quo (.t 10) (.c (.int .u64 4096))⟩,
    ⟨(some 12), none, .ib .rem (.t 11) (.c (.int .u64 16))⟩,
    ⟨(some 13), none, .cv .i64 (.t 12)⟩,
    ⟨(some 14), none, .mv (.t 0)⟩,
    ⟨(some 15), none, .ib .rem (.t 14) (.c (.int .u64 4096))⟩,
    ⟨(some 16), none, .cv .i64 (.t 15)⟩,
    ⟨(some 17), none, .bd [(.int .i64 0), (.int .i64 0), (.int .i64 0), (.int .i64 0)] [(0, 1, (.t 5)), (1, 1, (.t 9)), (2, 1, (.t 13)), (3, 1, (.t 16))]⟩,
    ⟨none, none, .st (.t 2) (.t 17) 4⟩])
  .rt))⟩
theorem k100 : cF Tryz.prog Tryz.f100 = some c100 := by kernel_rfl
/-- rundale/rundaleref1.PutRoot -/
def c101 : Fu := ⟨44, [.t 2, .t 3],
  (.sq (.rg [⟨(some 1), none, .bx 162 (.t 0)⟩,
    ⟨(some 2), none, .mv (.c (.int .u64 0))⟩,
    ⟨(some 3), none, .mv (.c (.bool false))⟩])
  (.sq (.sq (.rg [⟨(some 4), none, .fa (.t 1) 0⟩,
    ⟨(some 5), none, .ld (.t 4) 1 false⟩,
    ⟨(some 6), none, .ca 173 [(.t 5), (.c (.int .i64 0)), (.c (.int .i64 4294967295))]⟩,
    ⟨(some 7), none, .nt (.t 6)⟩,
    ⟨(some 8), none, .mv (.t 7)⟩,
    ⟨(some 9), (some (8, false)), .fa (.t 1) 1⟩,
    ⟨(some 10), (some (8, false)), .ld (.t 9) 1 false⟩,
    ⟨(some 11), (some (8, false)), .ca 173 [(.t 10), (.c (.int .i64 0)), (.c (.int .i64 4097))]⟩,
    ⟨(some 12), (some (8, false)), .nt (.t 11)⟩,
    ⟨(some 13), none, .pk (.t 8) (.c (.bool true)) (.t 12)⟩,
    ⟨(some 14), none, .mv (.t 13)⟩,
    ⟨(some 15), (some (14, false)), .fa (.t 1) 2⟩,
    ⟨(some 16), (some (14, false)), .ld (.t 15) 1 false⟩,
    ⟨(some 17), (some (14, false)), .ca 173 [(.t 16), (.c (.int .i64 0)), (.c (.int .i64 3))]⟩,
    ⟨(some 18), (some (14, false)), .nt (.t 17)⟩,
    ⟨(some 19), none, .pk (.t 14) (.c (.bool true)) (.t 18)⟩,
    ⟨(some 20), none, .mv (.t 19)⟩,
    ⟨(some 21), (some (20, false)), .fa (.t 1) 3⟩,
    ⟨(some 22), (some (20, false)), .ld (.t 21) 1 false⟩,
    ⟨(some 23), (some (20, false)), .ca 173 [(.t 22), (.c (.int .i64 0)), (.c (.int .i64 1024))]⟩,
    ⟨(some 24), (some (20, false)), .nt (.t 23)⟩,
    ⟨(some 25), none, .pk (.t 20) (.c (.bool true)) (.t 24)⟩])
  (.cd (.t 25)
  (.sq (.rg [⟨(some 2), none, .mv (.c (.int .u64 0))⟩,
    ⟨(some 3), none, .mv (.c (.bool false))⟩])
  .rt)
  .sk))
  (.sq (.rg [⟨(some 26), none, .fa (.t 1) 0⟩,
    ⟨(some 27), none, .ld (.t 26) 1 false⟩,
    ⟨(some 28), none, .cv .u64 (.t 27)⟩,
    ⟨(some 29), none, .ib .mul (.t 28) (.c (.int .u64 4294967296))⟩,
    ⟨(some 30), none, .fa (.t 1) 1⟩,
    ⟨(some 31), none, .ld (.t 30) 1 false⟩,
    ⟨(some 32), none, .cv .u64 (.t 31)⟩,
    ⟨(some 33), none, .ib .mul (.t 32) (.c (.int .u64 65536))⟩,
    ⟨(some 34), none, .ib .add (.t 29) (.t 33)⟩,
    ⟨(some 35), none, .fa (.t 1) 2⟩,
    ⟨(some 36), none, .ld (.t 35) 1 false⟩,
    ⟨(some 37), none, .cv .u64 (.t 36)⟩,
    ⟨(some 38), none, .ib .mul (.t 37) (.c (.int .u64 4096))⟩,
    ⟨(some 39), none, .ib .add (.t 34) (.t 38)⟩,
    ⟨(some 40), none, .fa (.t 1) 3⟩,
    ⟨(some 41), none, .ld (.t 40) 1 false⟩,
    ⟨(some 42), none, .cv .u64 (.t 41)⟩,
    ⟨(some 43), none, .ib .add (.t 39) (.t 42)⟩,
    ⟨(some 2), none, .mv (.t 43)⟩,
    ⟨(some 3), none, .mv (.c (.bool true))⟩])
  .rt)))⟩
theorem k101 : cF Tryz.prog Tryz.f101 = some c101 := by kernel_rfl
/-- (*rundale/rundaleref5.M).Cas -/
def c102 : Fu := ⟨32, [.t 8],
  (.sq (.rg [⟨(some 8), none, .mv (.c (.bool false))⟩])
  (.sq (.rg [⟨(some 9), none, .mv (.t 0)⟩,
    ⟨(some 10), none, .nc (.t 9)⟩,
    ⟨(some 11), none, .fa (.t 10) 1⟩,
    ⟨(some 12), none, .ld (.t 11) 1 false⟩,
    ⟨(some 13), none, .ib .add (.t 12) (.c (.int .i64 1))⟩,
    ⟨(some 14), none, .nc (.t 9)⟩,
    ⟨(some 15), none, .fa (.t 14) 1⟩,
    ⟨none, none, .st (.t 15) (.t 13) 1⟩])
  (.sq (.sq (.rg [⟨(some 16), none, .mv (.t 0)⟩,
    ⟨(some 17), none, .nc (.t 16)⟩,
    ⟨(some 18), none, .fa (.t 17) 0⟩,
    ⟨(some 19), none, .ld (.t 18) 1 false⟩,
    ⟨(some 20), none, .mv (.t 1)⟩,
    ⟨(some 21), none, .ia (.t 19) (.t 20) 1⟩,
    ⟨(some 22), none, .ld (.t 21) 1 false⟩,
    ⟨(some 23), none, .mv (.t 2)⟩,
    ⟨(some 24), none, .ib .neq (.t 22) (.t 23)⟩])
  (.cd (.t 24)
  (.sq (.rg [⟨(some 8), none, .mv (.c (.bool false))⟩])
  .rt)
  .sk))
  (.sq (.rg [⟨(some 25), none, .mv (.t 0)⟩,
    ⟨(some 26), none, .nc (.t 25)⟩,
    ⟨(some 27), none, .fa (.t 26) 0⟩,
    ⟨(some 28), none, .ld (.t 27) 1 false⟩,
    ⟨(some 29), none, .mv (.t 1)⟩,
    ⟨(some 30), none, .mv (.t 3)⟩,
    ⟨(some 31), none, .ia (.t 28) (.t 29) 1⟩,
    ⟨none, none, .st (.t 31) (.t 30) 1⟩])
  (.sq (.rg [⟨(some 8), none, .mv (.c (.bool true))⟩])
  .rt)))))⟩
theorem k102 : cF Tryz.prog Tryz.f102 = some c102 := by kernel_rfl
/-- (*rundale/rundaleref5.M).Store -/
def c110 : Fu := ⟨20, [],
  (.sq (.rg [⟨(some 6), none, .mv (.t 0)⟩,
    ⟨(some 7), none, .nc (.t 6)⟩,
    ⟨(some 8), none, .fa (.t 7) 1⟩,
    ⟨(some 9), none, .ld (.t 8) 1 false⟩,
    ⟨(some 10), none, .ib .add (.t 9) (.c (.int .i64 1))⟩,
    ⟨(some 11), none, .nc (.t 6)⟩,
    ⟨(some 12), none, .fa (.t 11) 1⟩,
    ⟨none, none, .st (.t 12) (.t 10) 1⟩])
  (.rg [⟨(some 13), none, .mv (.t 0)⟩,
    ⟨(some 14), none, .nc (.t 13)⟩,
    ⟨(some 15), none, .fa (.t 14) 0⟩,
    ⟨(some 16), none, .ld (.t 15) 1 false⟩,
    ⟨(some 17), none, .mv (.t 1)⟩,
    ⟨(some 18), none, .mv (.t 2)⟩,
    ⟨(some 19), none, .ia (.t 16) (.t 17) 1⟩,
    ⟨none, none, .st (.t 19) (.t 18) 1⟩]))⟩
theorem k110 : cF Tryz.prog Tryz.f110 = some c110 := by kernel_rfl
/-- rundale/rundaleref1.Link -/
def c112 : Fu := ⟨17, [.t 4],
  (.sq (.rg [⟨(some 2), none, .bx 24 (.t 0)⟩,
    ⟨(some 4), none, .mv (.c (.int .i64 0))⟩])
  (.sq (.rg [⟨(some 5), none, .ld (.t 2) 6 true⟩,
    ⟨(some 6), none, .fa (.t 2) 0⟩,
    ⟨(some 7), none, .ld (.t 6) 1 false⟩,
    ⟨(some 8), none, .ib .add (.c (.int .i64 3)) (.t 7)⟩,
    ⟨(some 9), none, .fa (.t 2) 3⟩,
    ⟨(some 10), none, .ld (.t 9) 1 false⟩,
    ⟨(some 11), none, .ib .mul (.c (.int .i64 2)) (.t 10)⟩,
    ⟨(some 12), none, .ib .add (.t 8) (.t 11)⟩,
    ⟨(some 13), none, .fa (.t 2) 1⟩,
    ⟨(some 14), none, .ld (.t 13) 1 false⟩,
    ⟨(some 15), none, .mv (.t 1)⟩,
    ⟨(some 16), none, .ca 172 [(.t 5), (.t 12), (.t 14), (.t 15)]⟩,
    ⟨(some 4), none, .mv (.t 16)⟩])
  .rt))⟩
theorem k112 : cF Tryz.prog Tryz.f112 = some c112 := by kernel_rfl
/-- (*rundale/run.Machine).Through -/
def c119 : Fu := ⟨22, [],
  (.sq (.rg [⟨(some 8), none, .mv (.t 0)⟩,
    ⟨(some 9), none, .mv (.t 0)⟩,
    ⟨(some 10), none, .mv (.t 0)⟩,
    ⟨(some 11), none, .mv (.t 1)⟩,
    ⟨(some 12), none, .mv (.t 2)⟩,
    ⟨(some 13), none, .mv (.t 3)⟩,
    ⟨(some 14), none, .nc (.t 8)⟩,
    ⟨(some 15), none, .fa (.t 14) 1⟩,
    ⟨none, none, .st (.t 15) (.t 11) 1⟩,
    ⟨(some 16), none, .nc (.t 9)⟩,
    ⟨(some 17), none, .fa (.t 16) 2⟩,
    ⟨none, none, .st (.t 17) (.t 12) 1⟩,
    ⟨(some 18), none, .nc (.t 10)⟩,
    ⟨(some 19), none, .fa (.t 18) 3⟩,
    ⟨none, none, .st (.t 19) (.t 13) 1⟩])
  (.rg [⟨(some 20), none, .mv (.t 0)⟩,
    ⟨(some 21), none, .ca 190 [(.t 20)]⟩]))⟩
theorem k119 : cF Tryz.prog Tryz.f119 = some c119 := by kernel_rfl
/-- (*rundale/rundaleref5.Stack).Top -/
def c133 : Fu := ⟨16, [.t 4],
  (.sq (.rg [⟨(some 4), none, .mv (.c (.int .i64 0))⟩])
  (.sq (.rg [⟨(some 6), none, .mv (.t 1)⟩,
    ⟨(some 7), none, .ca 200 [(.t 6)]⟩,
    ⟨(some 8), none, .fv (.t 7) 0 1 false⟩,
    ⟨(some 5), none, .mv (.t 8)⟩])
  (.sq (.sq (.rg [⟨(some 9), none, .mv (.t 5)⟩,
    ⟨(some 10), none, .mv (.t 0)⟩,
    ⟨(some 11), none, .nc (.t 10)⟩,
    ⟨(some 12), none, .fa (.t 11) 3⟩,
    ⟨(some 13), none, .ld (.t 12) 1 false⟩,
    ⟨(some 14), none, .ib .geq (.t 9) (.t 13)⟩])
  (.cd (.t 14)
  (.sq (.rg [⟨(some 4), none, .mv (.c (.int .i64 (-1)))⟩])
  .rt)
  .sk))
  (.sq (.rg [⟨(some 15), none, .mv (.t 5)⟩,
    ⟨(some 4), none, .mv (.t 15)⟩])
  .rt))))⟩
theorem k133 : cF Tryz.prog Tryz.f133 = some c133 := by kernel_rfl
/-- (*rundale/rundaleref5.Stack).Below -/
def c134 : Fu := ⟨15, [.t 4],
  (.sq (.rg [⟨(some 4), none, .mv (.c (.int .i64 0))⟩])
  (.sq (.sq (.rg [⟨(some 5), none, .mv (.t 1)⟩,
    ⟨(some 6), none, .mv (.t 0)⟩,
    ⟨(some 7), none, .nc (.t 6)⟩,
    ⟨(some 8), none, .fa (.t 7) 3⟩,
    ⟨(some 9), none, .ld (.t 8) 1 false⟩,
    ⟨(some 10), none, .cv .u64 (.t 9)⟩,
    ⟨(some 11), none, .ib .gtr (.t 5) (.t 10)⟩])
  (.cd (.t 11)
  (.sq (.rg [⟨(some 4), none, .mv (.c (.int .i64 (-1)))⟩])
  .rt)
  .sk))
  (.sq (.rg [⟨(some 12), none, .mv (.t 1)⟩,
    ⟨(some 13), none, .cv .i64 (.t 12)⟩,
    ⟨(some 14), none, .ib .sub (.t 13) (.c (.int .i64 1))⟩,
    ⟨(some 4), none, .mv (.t 14)⟩])
  .rt)))⟩
theorem k134 : cF Tryz.prog Tryz.f134 = some c134 := by kernel_rfl
/-- (*rundale/limbo.Limbo).Ready -/
def c135 : Fu := ⟨51, [.t 4],
  (.sq (.rg [⟨(some 4), none, .mv (.c (.slice none 0 0))⟩])
  (.sq (.rg [⟨(some 5), none, .mv (.c (.slice none 0 0))⟩])
  (.sq (.bl 0
  (.lp
  (.sq (.sq (.rg [⟨(some 9), none, .mv (.t 1)⟩,
    ⟨(some 10), none, .ib .geq (.t 9) (.c (.int .i64 2))⟩])
  (.cd (.t 10)
  .sk
  (.ex 0)))
  (.bl 1
  (.sq (.rg [⟨(some 6), none, .mv (.c (.pointer none))⟩])
  (.sq (.sq (.rg [⟨(some 11), none, .mv (.c (.int .i64 0))⟩])
  (.bl 2
  (.lp
  (.sq (.rg [⟨(some 12), none, .ib .lss (.t 11) (.c (.int .i64 3))⟩])
  (.sq (.cd (.t 12)
  .sk
  (.ex 2))
  (.sq (.bl 3
  (.sq (.rg [⟨(some 13), none, .mv (.t 11)⟩,
    ⟨(some 7), none, .mv (.t 13)⟩])
  (.sq (.rg [⟨(some 14), none, .mv (.t 0)⟩,
    ⟨(some 15), none, .mv (.t 7)⟩,
    ⟨(some 16), none, .nc (.t 14)⟩,
    ⟨(some 17), none, .fa (.t 16) 0⟩,
    ⟨(some 18), none, .iaa (.t 17) (.t 15) 3 2⟩,
    ⟨(some 8), none, .mv (.t 18)⟩])
  (.sq (.rd [⟨0, 0, [8], ⟨(some 19), none, .mv (.t 8)⟩⟩,
    ⟨1, 0, [1], ⟨(some 20), none, .mv (.t 1)⟩⟩,
    ⟨2, 3, [19, 20], ⟨(some 21), none, .ca 201 [(.t 19), (.t 20)]⟩⟩,
    ⟨3, 7, [21], ⟨(some 22), none, .mv (.t 21)⟩⟩,
    ⟨4, 15, [6, 22], ⟨(some 23), (some (22, true)), .mv (.t 6)⟩⟩,
    ⟨5, 31, [23, 22], ⟨(some 24), (some (22, true)), .en 0 false (.t 23) (.c (.pointer none))⟩⟩,
    ⟨6, 63, [24, 22], ⟨(some 25), (some (22, true)), .mv (.t 24)⟩⟩,
    ⟨7, 127, [8, 25], ⟨(some 26), (some (25, false)), .mv (.t 8)⟩⟩,
    ⟨8, 255, [26, 25], ⟨(some 27), (some (25, false)), .nc (.t 26)⟩⟩,
    ⟨9, 511, [27, 25], ⟨(some 28), (some (25, false)), .fa (.t 27) 0⟩⟩,
    ⟨10, 1023, [28, 25], ⟨(some 29), (some (25, false)), .ld (.t 28) 1 false⟩⟩,
    ⟨11, 127, [6, 25], ⟨(some 30), (some (25, false)), .mv (.t 6)⟩⟩,
    ⟨12, 2175, [30, 25], ⟨(some 31), (some (25, false)), .nc (.t 30)⟩⟩,
    ⟨13, 6271, [31, 25], ⟨(some 32), (some (25, false)), .fa (.t 31) 0⟩⟩,
    ⟨14, 14463, [32, 25], ⟨(some 33), (some (25, false)), .ld (.t 32) 1 false⟩⟩,
    ⟨15, 32767, [29, 33, 25], ⟨(some 34), (some (25, false)), .ib .lss (.t 29) (.t 33)⟩⟩,
    ⟨16, 65535, [25, 34, 22], ⟨(some 35), (some (22, true)), .pk (.t 25) (.c (.bool true)) (.t 34)⟩⟩,
    ⟨17, 131071, [22, 35], ⟨(some 36), none, .pk (.t 22) (.t 35) (.c (.bool false))⟩⟩])
  (.cd (.t 36)
  (.rg [⟨(some 37), none, .mv (.t 8)⟩,
    ⟨(some 6), none, .mv (.t 37)⟩])
  .sk)))))
  (.rg [⟨(some 38), none, .ib .add (.t 11) (.c (.int .i64 1))⟩,
    ⟨(some 11), none, .mv (.t 38)⟩])))))))
  (.sq (.sq (.rg [⟨(some 39), none, .mv (.t 6)⟩,
    ⟨(some 40), none, .en 0 false (.t 39) (.c (.pointer none))⟩])
  (.cd (.t 40)
  (.ex 0)
  .sk))
  (.sq (.rg [⟨(some 41), none, .mv (.t 5)⟩,
    ⟨(some 42), none, .mv (.t 6)⟩,
    ⟨(some 43), none, .nc (.t 42)⟩,
    ⟨(some 44), none, .fa (.t 43) 1⟩,
    ⟨(some 45), none, .ld (.t 44) 1 false⟩,
    ⟨(some 46), none, .ap 53 3 1 8 [(.int .i64 0)] (.t 41) (.t 45)⟩,
    ⟨(some 5), none, .mv (.t 46)⟩])
  (.rg [⟨(some 47), none, .mv (.t 6)⟩,
    ⟨(some 48), none, .bd [(.int .i64 0), (.slice none 0 0)] []⟩,
    ⟨(some 49), none, .nc (.t 47)⟩,
    ⟨none, none, .st (.t 49) (.t 48) 2⟩])))))))))
  (.sq (.rg [⟨(some 50), none, .mv (.t 5)⟩,
    ⟨(some 4), none, .mv (.t 50)⟩])
  .rt))))⟩
theorem k135 : cF Tryz.prog Tryz.f135 = some c135 := by kernel_rfl
/-- (*rundale/stash.Stash).Give -/
def c136 : Fu := ⟨13, [],
  (.rg [⟨(some 4), none, .mv (.t 0)⟩,
    ⟨(some 5), none, .mv (.t 0)⟩,
    ⟨(some 6), none, .nc (.t 5)⟩,
    ⟨(some 7), none, .fa (.t 6) 1⟩,
    ⟨(some 8), none, .ld (.t 7) 1 false⟩,
    ⟨(some 9), none, .mv (.t 1)⟩,
    ⟨(some 10), none, .ap 53 3 1 8 [(.int .i64 0)] (.t 8) (.t 9)⟩,
    ⟨(some 11), none, .nc (.t 4)⟩,
    ⟨(some 12), none, .fa (.t 11) 1⟩,
    ⟨none, none, .st (.t 12) (.t 10) 1⟩])⟩
theorem k136 : cF Tryz.prog Tryz.f136 = some c136 := by kernel_rfl
/-- (*rundale/cells.Cells).Len -/
def c137 : Fu := ⟨8, [.t 2],
  (.sq (.rg [⟨(some 2), none, .mv (.c (.int .i64 0))⟩])
  (.sq (.rg [⟨(some 3), none, .mv (.t 0)⟩,
    ⟨(some 4), none, .nc (.t 3)⟩,
    ⟨(some 5), none, .fa (.t 4) 0⟩,
    ⟨(some 6), none, .ld (.t 5) 1 false⟩,
    ⟨(some 7), none, .len (.t 6)⟩,
    ⟨(some 2), none, .mv (.t 7)⟩])
  .rt))⟩
theorem k137 : cF Tryz.prog Tryz.f137 = some c137 := by kernel_rfl
/-- rundale/stack.New -/
def c138 : Fu := ⟨57, [.t 8, .t 9],
  (.sq (.rg [⟨(some 4), none, .bx 28 (.t 0)⟩,
    ⟨(some 8), none, .mv (.c (.pointer none))⟩,
    ⟨(some 9), none, .mv (.c (.int .i64 0))⟩])
  (.sq (.rg [⟨(some 11), none, .mf (.func 202) [] [(.t 4)]⟩,
    ⟨(some 10), none, .mv (.t 11)⟩])
  (.sq (.sq (.rg [⟨(some 12), none, .mv (.t 3)⟩,
    ⟨(some 13), none, .ib .lss (.t 12) (.c (.int .i64 1))⟩,
    ⟨(some 14), none, .mv (.t 13)⟩,
    ⟨(some 15), (some (14, false)), .mv (.t 3)⟩,
    ⟨(some 16), (some (14, false)), .ib .gtr (.t 15) (.c (.int .i64 4096))⟩,
    ⟨(some 17), none, .pk (.t 14) (.c (.bool true)) (.t 16)⟩,
    ⟨(some 18), none, .mv (.t 17)⟩,
    ⟨(some 19), (some (18, false)), .mv (.t 10)⟩,
    ⟨(some 20), (some (18, false)), .mv (.t 1)⟩,
    ⟨(some 21), (some (18, false)), .cl (.t 19) [(.t 20)]⟩,
    ⟨(some 22), (some (18, false)), .nt (.t 21)⟩,
    ⟨(some 23), none, .pk (.t 18) (.c (.bool true)) (.t 22)⟩,
    ⟨(some 24), none, .mv (.t 23)⟩,
    ⟨(some 25), (some (24, false)), .mv (.t 10)⟩,
    ⟨(some 26), (some (24, false)), .mv (.t 2)⟩,
    ⟨(some 27), (some (24, false)), .cl (.t 25) [(.t 26)]⟩,
    ⟨(some 28), (some (24, false)), .nt (.t 27)⟩,
    ⟨(some 29), none, .pk (.t 24) (.c (.bool true)) (.t 28)⟩,
    ⟨(some 30), none, .mv (.t 29)⟩,
    ⟨(some 31), (some (30, false)), .mv (.t 10)⟩,
    ⟨(some 32), (some (30, false)), .mv (.t 2)⟩,
    ⟨(some 33), (some (30, false)), .mv (.t 3)⟩,
    ⟨(some 34), (some (30, false)), .ib .add (.t 32) (.t 33)⟩,
    ⟨(some 35), (some (30, false)), .ib .sub (.t 34) (.c (.int .i64 1))⟩,
    ⟨(some 36), (some (30, false)), .cl (.t 31) [(.t 35)]⟩,
    ⟨(some 37), (some (30, false)), .nt (.t 36)⟩,
    ⟨(some 38), none, .pk (.t 30) (.c (.bool true)) (.t 37)⟩,
    ⟨(some 39), none, .mv (.t 38)⟩,
    ⟨(some 40), (some (39, false)), .mv (.t 1)⟩,
    ⟨(some 41), (some (39, false)), .mv (.t 2)⟩,
    ⟨(some 42), (some (39, false)), .ib .geq (.t 40) (.t 41)⟩,
    ⟨(some 43), (some (39, false)), .mv (.t 42)⟩,
    ⟨(some 44), (some (43, true)), .mv (.t 1)⟩,
    ⟨(some 45), (some (43, true)), .mv (.t 2)⟩,
    ⟨(some 46), (some (43, true)), .mv (.t 3)⟩,
    ⟨(some 47), (some (43, true)), .ib .add (.t 45) (.t 46)⟩,
    ⟨(some 48), (some (43, true)), .ib .lss (.t 44) (.t 47)⟩,
    ⟨(some 49), (some (39, false)), .pk (.t 43) (.t 48) (.c (.bool false))⟩,
    ⟨(some 50), none, .pk (.t 39) (.c (.bool true)) (.t 49)⟩])
  (.cd (.t 50)
  (.sq (.rg [⟨(some 8), none, .mv (.c (.pointer none))⟩,
    ⟨(some 9), none, .mv (.c (.int .i64 1))⟩])
  .rt)
  .sk))
  (.sq (.rg [⟨(some 51), none, .ld (.t 4) 1 false⟩,
    ⟨(some 52), none, .mv (.t 1)⟩,
    ⟨(some 53), none, .mv (.t 2)⟩,
    ⟨(some 54), none, .mv (.t 3)⟩,
    ⟨(some 55), none, .bd [(.pointer none), (.int .i64 0), (.int .i64 0), (.int .i64 0)] [(0, 1, (.t 51)), (1, 1, (.t 52)), (2, 1, (.t 53)), (3, 1, (.t 54))]⟩,
    ⟨(some 56), none, .bx 171 (.t 55)⟩,
    ⟨(some 8), none, .mv (.t 56)⟩,
    ⟨(some 9), none, .mv (.c (.int .i64 0))⟩])
  .rt))))⟩
theorem k138 : cF Tryz.prog Tryz.f138 = some c138 := by kernel_rfl
/-- rundale/lay.Link -/
def c139 : Fu := ⟨8, [.t 4],
  (.sq (.rg [⟨(some 2), none, .bx 24 (.t 0)⟩,
    ⟨(some 4), none, .mv (.c (.int .i64 0))⟩])
  (.sq (.rg [⟨(some 5), none, .ld (.t 2) 6 true⟩,
    ⟨(some 6), none, .mv (.t 1)⟩,
    ⟨(some 7), none, .ca 83 [(.t 5), (.c (.int .i64 6)), (.t 6)]⟩,
    ⟨(some 4), none, .mv (.t 7)⟩])
  .rt))⟩
theorem k139 : cF Tryz.prog Tryz.f139 = some c139 := by kernel_rfl
/-- rundale/lay.Slot -/
def c140 : Fu := ⟨8, [.t 4],
  (.sq (.rg [⟨(some 2), none, .bx 24 (.t 0)⟩,
    ⟨(some 4), none, .mv (.c (.int .i64 0))⟩])
  (.sq (.rg [⟨(some 5), none, .ld (.t 2) 6 true⟩,
    ⟨(some 6), none, .mv (.t 1)⟩,
    ⟨(some 7), none, .ca 83 [(.t 5), (.c (.int .i64 5)), (.t 6)]⟩,
    ⟨(some 4), none, .mv (.t 7)⟩])
  .rt))⟩
theorem k140 : cF Tryz.prog Tryz.f140 = some c140 := by kernel_rfl
/-- (*rundale/stack.Stack).Fill -/
def c141 : Fu := ⟨57, [],
  (.sq (.sq (.rg [⟨(some 5), none, .mv (.t 0)⟩,
    ⟨(some 6), none, .nc (.t 5)⟩,
    ⟨(some 7), none, .fa (.t 6) 3⟩,
    ⟨(some 8), none, .ld (.t 7) 1 false⟩,
    ⟨(some 9), none, .mv (.c (.int .i64 0))⟩])
  (.bl 0
  (.lp
  (.sq (.rg [⟨(some 10), none, .ib .lss (.t 9) (.t 8)⟩])
  (.sq (.cd (.t 10)
  .sk
  (.ex 0))
  (.sq (.bl 1
  (.sq (.rg [⟨(some 11), none, .mv (.t 9)⟩,
    ⟨(some 2), none, .mv (.t 11)⟩])
  (.rd [⟨0, 0, [0], ⟨(some 12), none, .mv (.t 0)⟩⟩,
    ⟨1, 1, [12], ⟨(some 13), none, .nc (.t 12)⟩⟩,
    ⟨2, 3, [13], ⟨(some 14), none, .fa (.t 13) 0⟩⟩,
    ⟨3, 7, [14], ⟨(some 15), none, .ld (.t 14) 1 false⟩⟩,
    ⟨4, 0, [0], ⟨(some 16), none, .mv (.t 0)⟩⟩,
    ⟨5, 16, [16], ⟨(some 17), none, .nc (.t 16)⟩⟩,
    ⟨6, 48, [17], ⟨(some 18), none, .fa (.t 17) 2⟩⟩,
    ⟨7, 112, [18], ⟨(some 19), none, .ld (.t 18) 1 false⟩⟩,
    ⟨8, 0, [2], ⟨(some 20), none, .mv (.t 2)⟩⟩,
    ⟨9, 496, [19, 20], ⟨(some 21), none, .ib .add (.t 19) (.t 20)⟩⟩,
    ⟨10, 0, [2], ⟨(some 22), none, .mv (.t 2)⟩⟩,
    ⟨11, 1024, [22], ⟨(some 23), none, .ib .add (.t 22) (.c (.int .i64 2))⟩⟩,
    ⟨12, 3072, [23], ⟨(some 24), none, .cv .u64 (.t 23)⟩⟩,
    ⟨13, 8191, [15, 21, 24], ⟨(some 25), none, .ca 23 [(.t 15), (.t 21), (.t 24)]⟩⟩])))
  (.rg [⟨(some 26), none, .ib .add (.t 9) (.c (.int .i64 1))⟩,
    ⟨(some 9), none, .mv (.t 26)⟩])))))))
  (.sq (.rd [⟨0, 0, [0], ⟨(some 27), none, .mv (.t 0)⟩⟩,
    ⟨1, 1, [27], ⟨(some 28), none, .nc (.t 27)⟩⟩,
    ⟨2, 3, [28], ⟨(some 29), none, .fa (.t 28) 0⟩⟩,
    ⟨3, 7, [29], ⟨(some 30), none, .ld (.t 29) 1 false⟩⟩,
    ⟨4, 0, [0], ⟨(some 31), none, .mv (.t 0)⟩⟩,
    ⟨5, 16, [31], ⟨(some 32), none, .nc (.t 31)⟩⟩,
    ⟨6, 48, [32], ⟨(some 33), none, .fa (.t 32) 2⟩⟩,
    ⟨7, 112, [33], ⟨(some 34), none, .ld (.t 33) 1 false⟩⟩,
    ⟨8, 0, [0], ⟨(some 35), none, .mv (.t 0)⟩⟩,
    ⟨9, 256, [35], ⟨(some 36), none, .nc (.t 35)⟩⟩,
    ⟨10, 768, [36], ⟨(some 37), none, .fa (.t 36) 3⟩⟩,
    ⟨11, 1792, [37], ⟨(some 38), none, .ld (.t 37) 1 false⟩⟩,
    ⟨12, 4080, [34, 38], ⟨(some 39), none, .ib .add (.t 34) (.t 38)⟩⟩,
    ⟨13, 8176, [39], ⟨(some 40), none, .ib .sub (.t 39) (.c (.int .i64 1))⟩⟩,
    ⟨14, 16383, [30, 40], ⟨(some 41), none, .ca 23 [(.t 30), (.t 40), (.c (.int .u64 0))]⟩⟩])
  (.sq (.rg [⟨(some 43), none, .bd [(.int .i64 0), (.int .i64 0)] []⟩,
    ⟨(some 44), none, .ca 203 [(.t 43)]⟩,
    ⟨(some 42), none, .mv (.t 44)⟩,
    ⟨(some 45), none, .ex (.t 42) 0⟩,
    ⟨(some 46), none, .ex (.t 42) 1⟩,
    ⟨(some 3), none, .mv (.t 45)⟩,
    ⟨(some 4), none, .mv (.t 46)⟩])
  (.rd [⟨0, 0, [0], ⟨(some 47), none, .mv (.t 0)⟩⟩,
    ⟨1, 1, [47], ⟨(some 48), none, .nc (.t 47)⟩⟩,
    ⟨2, 3, [48], ⟨(some 49), none, .fa (.t 48) 0⟩⟩,
    ⟨3, 7, [49], ⟨(some 50), none, .ld (.t 49) 1 false⟩⟩,
    ⟨4, 0, [0], ⟨(some 51), none, .mv (.t 0)⟩⟩,
    ⟨5, 16, [51], ⟨(some 52), none, .nc (.t 51)⟩⟩,
    ⟨6, 48, [52], ⟨(some 53), none, .fa (.t 52) 1⟩⟩,
    ⟨7, 112, [53], ⟨(some 54), none, .ld (.t 53) 1 false⟩⟩,
    ⟨8, 0, [3], ⟨(some 55), none, .mv (.t 3)⟩⟩,
    ⟨9, 511, [50, 54, 55], ⟨(some 56), none, .ca 23 [(.t 50), (.t 54), (.t 55)]⟩⟩]))))⟩
theorem k141 : cF Tryz.prog Tryz.f141 = some c141 := by kernel_rfl
/-- rundale/rundaleref5.New -/
def c142 : Fu := ⟨7, [.t 2],
  (.sq (.rg [⟨(some 2), none, .mv (.c (.pointer none))⟩])
  (.sq (.rg [⟨(some 3), none, .mv (.t 0)⟩,
    ⟨(some 4), none, .mk 56 1 8 [(.int .u64 0)] (.t 3) (.t 3)⟩,
    ⟨(some 5), none, .bd [(.slice none 0 0), (.int .i64 0)] [(0, 1, (.t 4))]⟩,
    ⟨(some 6), none, .bx 110 (.t 5)⟩,
    ⟨(some 2), none, .mv (.t 6)⟩])
  .rt))⟩
theorem k142 : cF Tryz.prog Tryz.f142 = some c142 := by kernel_rfl
/-- rundale/rundaleref1.Len -/
def c143 : Fu := ⟨22, [.t 2],
  (.sq (.rg [⟨(some 1), none, .bx 24 (.t 0)⟩,
    ⟨(some 2), none, .mv (.c (.int .i64 0))⟩])
  (.sq (.sq (.rg [⟨(some 3), none, .ld (.t 1) 6 true⟩,
    ⟨(some 4), none, .ca 185 [(.t 3)]⟩,
    ⟨(some 5), none, .nt (.t 4)⟩])
  (.cd (.t 5)
  (.sq (.rg [⟨(some 2), none, .mv (.c (.int .i64 0))⟩])
  .rt)
  .sk))
  (.sq (.rg [⟨(some 6), none, .fa (.t 1) 0⟩,
    ⟨(some 7), none, .ld (.t 6) 1 false⟩,
    ⟨(some 8), none, .ib .add (.c (.int .i64 3)) (.t 7)⟩,
    ⟨(some 9), none, .fa (.t 1) 3⟩,
    ⟨(some 10), none, .ld (.t 9) 1 false⟩,
    ⟨(some 11), none, .ib .mul (.c (.int .i64 2)) (.t 10)⟩,
    ⟨(some 12), none, .ib .add (.t 8) (.t 11)⟩,
    ⟨(some 13), none, .fa (.t 1) 1⟩,
    ⟨(some 14), none, .ld (.t 13) 1 false⟩,
    ⟨(some 15), none, .ib .add (.t 12) (.t 14)⟩,
    ⟨(some 16), none, .fa (.t 1) 1⟩,
    ⟨(some 17), none, .ld (.t 16) 1 false⟩,
    ⟨(some 18), none, .fa (.t 1) 2⟩,
    ⟨(some 19), none, .ld (.t 18) 1 false⟩,
    ⟨(some 20), none, .ib .mul (.t 17) (.t 19)⟩,
    ⟨(some 21), none, .ib .add (.t 15) (.t 20)⟩,
    ⟨(some 2), none, .mv (.t 21)⟩])
  .rt)))⟩
theorem k143 : cF Tryz.prog Tryz.f143 = some c143 := by kernel_rfl
/-- rundale/rundaleref1.Slot -/
def c144 : Fu := ⟨16, [.t 4],
  (.sq (.rg [⟨(some 2), none, .bx 24 (.t 0)⟩,
    ⟨(some 4), none, .mv (.c (.int .i64 0))⟩])
  (.sq (.rg [⟨(some 5), none, .ld (.t 2) 6 true⟩,
    ⟨(some 6), none, .fa (.t 2) 0⟩,
    ⟨(some 7), none, .ld (.t 6) 1 false⟩,
    ⟨(some 8), none, .ib .add (.c (.int .i64 3)) (.t 7)⟩,
    ⟨(some 9), none, .fa (.t 2) 3⟩,
    ⟨(some 10), none, .ld (.t 9) 1 false⟩,
    ⟨(some 11), none, .ib .add (.t 8) (.t 10)⟩,
    ⟨(some 12), none, .fa (.t 2) 3⟩,
    ⟨(some 13), none, .ld (.t 12) 1 false⟩,
    ⟨(some 14), none, .mv (.t 1)⟩,
    ⟨(some 15), none, .ca 172 [(.t 5), (.t 11), (.t 13), (.t 14)]⟩,
    ⟨(some 4), none, .mv (.t 15)⟩])
  .rt))⟩
theorem k144 : cF Tryz.prog Tryz.f144 = some c144 := by kernel_rfl
/-- rundale/rundaleref1.Pin -/
def c145 : Fu := ⟨10, [.t 4],
  (.sq (.rg [⟨(some 2), none, .bx 24 (.t 0)⟩,
    ⟨(some 4), none, .mv (.c (.int .i64 0))⟩])
  (.sq (.rg [⟨(some 5), none, .ld (.t 2) 6 true⟩,
    ⟨(some 6), none, .fa (.t 2) 0⟩,
    ⟨(some 7), none, .ld (.t 6) 1 false⟩,
    ⟨(some 8), none, .mv (.t 1)⟩,
    ⟨(some 9), none, .ca 172 [(.t 5), (.c (.int .i64 3)), (.t 7), (.t 8)]⟩,
    ⟨(some 4), none, .mv (.t 9)⟩])
  .rt))⟩
theorem k145 : cF Tryz.prog Tryz.f145 = some c145 := by kernel_rfl
/-- (*rundale/rundaleref5.Stack).Fill -/
def c146 : Fu := ⟨75, [],
  (.sq (.rg [⟨(some 6), none, .bd [(.int .i64 0), (.int .i64 0)] [(0, 1, (.c (.int .i64 0)))]⟩,
    ⟨(some 7), none, .ca 204 [(.t 6)]⟩,
    ⟨(some 5), none, .mv (.t 7)⟩,
    ⟨(some 8), none, .ex (.t 5) 0⟩,
    ⟨(some 9), none, .ex (.t 5) 1⟩,
    ⟨(some 2), none, .mv (.t 8)⟩,
    ⟨(some 3), none, .mv (.t 9)⟩])
  (.sq (.rd [⟨0, 0, [0], ⟨(some 10), none, .mv (.t 0)⟩⟩,
    ⟨1, 1, [10], ⟨(some 11), none, .nc (.t 10)⟩⟩,
    ⟨2, 3, [11], ⟨(some 12), none, .fa (.t 11) 0⟩⟩,
    ⟨3, 7, [12], ⟨(some 13), none, .ld (.t 12) 1 false⟩⟩,
    ⟨4, 15, [13], ⟨(some 14), none, .nc (.t 13)⟩⟩,
    ⟨5, 31, [14], ⟨(some 15), none, .fa (.t 14) 0⟩⟩,
    ⟨6, 63, [15], ⟨(some 16), none, .ld (.t 15) 1 false⟩⟩,
    ⟨7, 0, [0], ⟨(some 17), none, .mv (.t 0)⟩⟩,
    ⟨8, 128, [17], ⟨(some 18), none, .nc (.t 17)⟩⟩,
    ⟨9, 384, [18], ⟨(some 19), none, .fa (.t 18) 1⟩⟩,
    ⟨10, 896, [19], ⟨(some 20), none, .ld (.t 19) 1 false⟩⟩,
    ⟨11, 0, [2], ⟨(some 21), none, .mv (.t 2)⟩⟩,
    ⟨12, 4095, [16, 20], ⟨(some 22), none, .ia (.t 16) (.t 20) 1⟩⟩,
    ⟨13, 8191, [22, 21], ⟨none, none, .st (.t 22) (.t 21) 1⟩⟩])
  (.sq (.rg [⟨(some 4), none, .mv (.c (.int .i64 0))⟩])
  (.bl 0
  (.lp
  (.sq (.sq (.rg [⟨(some 23), none, .mv (.t 4)⟩,
    ⟨(some 24), none, .mv (.t 0)⟩,
    ⟨(some 25), none, .nc (.t 24)⟩,
    ⟨(some 26), none, .fa (.t 25) 3⟩,
    ⟨(some 27), none, .ld (.t 26) 1 false⟩,
    ⟨(some 28), none, .ib .lss (.t 23) (.t 27)⟩])
  (.cd (.t 28)
  .sk
  (.ex 0)))
  (.sq (.bl 1
  (.sq (.rd [⟨0, 0, [0], ⟨(some 31), none, .mv (.t 0)⟩⟩,
    ⟨1, 1, [31], ⟨(some 32), none, .nc (.t 31)⟩⟩,
    ⟨2, 3, [32], ⟨(some 33), none, .fa (.t 32) 0⟩⟩,
    ⟨3, 7, [33], ⟨(some 34), none, .ld (.t 33) 1 false⟩⟩,
    ⟨4, 15, [34], ⟨(some 35), none, .nc (.t 34)⟩⟩,
    ⟨5, 31, [35], ⟨(some 36), none, .fa (.t 35) 0⟩⟩,
    ⟨6, 63, [36], ⟨(some 37), none, .ld (.t 36) 1 false⟩⟩,
    ⟨7, 0, [0], ⟨(some 38), none, .mv (.t 0)⟩⟩,
    ⟨8, 128, [38], ⟨(some 39), none, .nc (.t 38)⟩⟩,
    ⟨9, 384, [39], ⟨(some 40), none, .fa (.t 39) 2⟩⟩,
    ⟨10, 896, [40], ⟨(some 41), none, .ld (.t 40) 1 false⟩⟩,
    ⟨11, 0, [4], ⟨(some 42), none, .mv (.t 4)⟩⟩,
    ⟨12, 3968, [41, 42], ⟨(some 43), none, .ib .add (.t 41) (.t 42)⟩⟩,
    ⟨13, 0, [4], ⟨(some 44), none, .mv (.t 4)⟩⟩,
    ⟨14, 8192, [44], ⟨(some 45), none, .ib .add (.t 44) (.c (.int .i64 2))⟩⟩,
    ⟨15, 0, [0], ⟨(some 46), none, .mv (.t 0)⟩⟩,
    ⟨16, 32768, [46], ⟨(some 47), none, .nc (.t 46)⟩⟩,
    ⟨17, 98304, [47], ⟨(some 48), none, .fa (.t 47) 3⟩⟩,
    ⟨18, 229376, [48], ⟨(some 49), none, .ld (.t 48) 1 false⟩⟩,
    ⟨19, 491520, [49], ⟨(some 50), none, .ib .add (.t 49) (.c (.int .i64 1))⟩⟩,
    ⟨20, 1040384, [45, 50], ⟨(some 51), none, .ib .rem (.t 45) (.t 50)⟩⟩,
    ⟨21, 2088960, [51], ⟨(some 52), none, .cv .u64 (.t 51)⟩⟩,
    ⟨22, 4194303, [37, 43], ⟨(some 53), none, .ia (.t 37) (.t 43) 1⟩⟩,
    ⟨23, 8388607, [53, 52], ⟨none, none, .st (.t 53) (.t 52) 1⟩⟩])
  (.sq (.rg [⟨(some 54), none, .mv (.t 4)⟩,
    ⟨(some 55), none, .mv (.t 0)⟩,
    ⟨(some 56), none, .nc (.t 55)⟩,
    ⟨(some 57), none, .fa (.t 56) 3⟩,
    ⟨(some 58), none, .ld (.t 57) 1 false⟩,
    ⟨(some 59), none, .ib .sub (.t 58) (.c (.int .i64 1))⟩,
    ⟨(some 60), none, .ib .eql (.t 54) (.t 59)⟩])
  (.cd (.t 60)
  (.rd [⟨0, 0, [0], ⟨(some 61), none, .mv (.t 0)⟩⟩,
    ⟨1, 1, [61], ⟨(some 62), none, .nc (.t 61)⟩⟩,
    ⟨2, 3, [62], ⟨(some 63), none, .fa (.t 62) 0⟩⟩,
    ⟨3, 7, [63], ⟨(some 64), none, .ld (.t 63) 1 false⟩⟩,
    ⟨4, 15, [64], ⟨(some 65), none, .nc (.t 64)⟩⟩,
    ⟨5, 31, [65], ⟨(some 66), none, .fa (.t 65) 0⟩⟩,
    ⟨6, 63, [66], ⟨(some 67), none, .ld (.t 66) 1 false⟩⟩,
    ⟨7, 0, [0], ⟨(some 68), none, .mv (.t 0)⟩⟩,
    ⟨8, 128, [68], ⟨(some 69), none, .nc (.t 68)⟩⟩,
    ⟨9, 384, [69], ⟨(some 70), none, .fa (.t 69) 2⟩⟩,
    ⟨10, 896, [70], ⟨(some 71), none, .ld (.t 70) 1 false⟩⟩,
    ⟨11, 0, [4], ⟨(some 72), none, .mv (.t 4)⟩⟩,
    ⟨12, 3968, [71, 72], ⟨(some 73), none, .ib .add (.t 71) (.t 72)⟩⟩,
    ⟨13, 8191, [67, 73], ⟨(some 74), none, .ia (.t 67) (.t 73) 1⟩⟩,
    ⟨14, 16383, [74], ⟨none, none, .st (.t 74) (.c (.int .u64 0)) 1⟩⟩])
  .sk))))
  (.rg [⟨(some 29), none, .mv (.t 4)⟩,
    ⟨(some 30), none, .ib .add (.t 29) (.c (.int .i64 1))⟩,
    ⟨(some 4), none, .mv (.t 30)⟩]))))))))⟩
theorem k146 : cF Tryz.prog Tryz.f146 = some c146 := by kernel_rfl
/-- rundale/stash.New -/
def c147 : Fu := ⟨8, [.t 2],
  (.sq (.rg [⟨(some 2), none, .mv (.c (.pointer none))⟩])
  (.sq (.rg [⟨(some 3), none, .mv (.t 0)⟩,
    ⟨(some 4), none, .mm true (.t 3) (.c (.int .i64 0))⟩,
    ⟨(some 5), none, .mm false (.t 4) (.c (.int .i64 64))⟩,
    ⟨(some 6), none, .bd [(.int .i64 0), (.slice none 0 0)] [(0, 1, (.t 5))]⟩,
    ⟨(some 7), none, .bx 250 (.t 6)⟩,
    ⟨(some 2), none, .mv (.t 7)⟩])
  .rt))⟩
theorem k147 : cF Tryz.prog Tryz.f147 = some c147 := by kernel_rfl
/-- rundale/limbo.New -/
def c148 : Fu := ⟨3, [.t 0],
  (.sq (.rg [⟨(some 0), none, .mv (.c (.pointer none))⟩])
  (.sq (.rg [⟨(some 1), none, .bd [(.int .i64 0), (.slice none 0 0), (.int .i64 0), (.slice none 0 0), (.int .i64 0), (.slice none 0 0), (.int .i64 0)] []⟩,
    ⟨(some 2), none, .bx 255 (.t 1)⟩,
    ⟨(some 0), none, .mv (.t 2)⟩])
  .rt))⟩
theorem k148 : cF Tryz.prog Tryz.f148 = some c148 := by kernel_rfl
/-- rundale/rundaleref5.NewStash -/
def c149 : Fu := ⟨8, [.t 2],
  (.sq (.rg [⟨(some 2), none, .mv (.c (.pointer none))⟩])
  (.sq (.rg [⟨(some 3), none, .mv (.t 0)⟩,
    ⟨(some 4), none, .mm true (.t 3) (.c (.int .i64 0))⟩,
    ⟨(some 5), none, .mm false (.t 4) (.c (.int .i64 64))⟩,
    ⟨(some 6), none, .bd [(.int .i64 0), (.slice none 0 0)] [(0, 1, (.t 5))]⟩,
    ⟨(some 7), none, .bx 191 (.t 6)⟩,
    ⟨(some 2), none, .mv (.t 7)⟩])
  .rt))⟩
theorem k149 : cF Tryz.prog Tryz.f149 = some c149 := by kernel_rfl
/-- rundale/rundaleref5.NewLimbo -/
def c150 : Fu := ⟨3, [.t 0],
  (.sq (.rg [⟨(some 0), none, .mv (.c (.pointer none))⟩])
  (.sq (.rg [⟨(some 1), none, .bd [(.int .i64 0), (.int .i64 0), (.int .i64 0), (.slice none 0 0), (.slice none 0 0), (.slice none 0 0), (.int .i64 0)] [(6, 1, (.c (.int .i64 (-1))))]⟩,
    ⟨(some 2), none, .bx 263 (.t 1)⟩,
    ⟨(some 0), none, .mv (.t 2)⟩])
  .rt))⟩
theorem k150 : cF Tryz.prog Tryz.f150 = some c150 := by kernel_rfl
/-- (*rundale/cells.Cells).Load -/
def c151 : Fu := ⟨20, [.t 4, .t 5],
  (.sq (.rg [⟨(some 4), none, .mv (.c (.int .u64 0))⟩,
    ⟨(some 5), none, .mv (.c (.int .i64 0))⟩])
  (.sq (.sq (.rg [⟨(some 6), none, .mv (.t 0)⟩,
    ⟨(some 7), none, .mv (.t 1)⟩,
    ⟨(some 8), none, .ca 81 [(.t 6), (.t 7)]⟩,
    ⟨(some 9), none, .nt (.t 8)⟩])
  (.cd (.t 9)
  (.sq (.rg [⟨(some 4), none, .mv (.c (.int .u64 0))⟩,
    ⟨(some 5), none, .mv (.c (.int .i64 1))⟩])
  .rt)
  .sk))
  (.sq (.rg [⟨(some 10), none, .mv (.t 0)⟩,
    ⟨(some 11), none, .mv (.t 1)⟩,
    ⟨(some 12), none, .mv (.t 0)⟩,
    ⟨(some 13), none, .nc (.t 12)⟩,
    ⟨(some 14), none, .fa (.t 13) 0⟩,
    ⟨(some 15), none, .ld (.t 14) 1 false⟩,
    ⟨(some 16), none, .mv (.t 1)⟩,
    ⟨(some 17), none, .ia (.t 15) (.t 16) 1⟩,
    ⟨(some 18), none, .ld (.t 17) 1 false⟩,
    ⟨(some 19), none, .ca 205 [(.t 10), (.c (.int .i64 1)), (.t 11), (.t 18), (.c (.bool true))]⟩,
    ⟨(some 4), none, .mv (.t 19)⟩,
    ⟨(some 5), none, .mv (.c (.int .i64 0))⟩])
  .rt)))⟩
theorem k151 : cF Tryz.prog Tryz.f151 = some c151 := by kernel_rfl
/-- rundale/word.Live -/
def c152 : Fu := ⟨14, [.t 4],
  (.sq (.rg [⟨(some 2), none, .bx 68 (.t 0)⟩,
    ⟨(some 4), none, .mv (.c (.bool false))⟩])
  (.sq (.rg [⟨(some 5), none, .fa (.t 2) 1⟩,
    ⟨(some 6), none, .ld (.t 5) 1 false⟩,
    ⟨(some 7), none, .ib .geq (.t 6) (.c (.int .i64 1))⟩,
    ⟨(some 8), none, .mv (.t 7)⟩,
    ⟨(some 9), (some (8, true)), .fa (.t 2) 0⟩,
    ⟨(some 10), (some (8, true)), .ld (.t 9) 1 false⟩,
    ⟨(some 11), (some (8, true)), .mv (.t 1)⟩,
    ⟨(some 12), (some (8, true)), .ib .eql (.t 10) (.t 11)⟩,
    ⟨(some 13), none, .pk (.t 8) (.t 12) (.c (.bool false))⟩,
    ⟨(some 4), none, .mv (.t 13)⟩])
  .rt))⟩
theorem k152 : cF Tryz.prog Tryz.f152 = some c152 := by kernel_rfl
/-- (*rundale/grant.Alloc).close -/
def c153 : Fu := ⟨66, [],
  (.sq (.rg [⟨(some 5), none, .bx 62 (.t 2)⟩])
  (.sq (.rd [⟨0, 0, [0], ⟨(some 6), none, .mv (.t 0)⟩⟩,
    ⟨1, 0, [0], ⟨(some 7), none, .mv (.t 0)⟩⟩,
    ⟨2, 0, [0], ⟨(some 8), none, .mv (.t 0)⟩⟩,
    ⟨3, 0, [0], ⟨(some 9), none, .mv (.t 0)⟩⟩,
    ⟨4, 0, [1], ⟨(some 10), none, .mv (.t 1)⟩⟩,
    ⟨5, 0, [5], ⟨(some 11), none, .ld (.t 5) 5 true⟩⟩,
    ⟨6, 0, [0], ⟨(some 12), none, .mv (.t 0)⟩⟩,
    ⟨7, 64, [12], ⟨(some 13), none, .nc (.t 12)⟩⟩,
    ⟨8, 192, [13], ⟨(some 14), none, .fa (.t 13) 0⟩⟩,
    ⟨9, 448, [14], ⟨(some 15), none, .ca 175 [(.t 14)]⟩⟩,
    ⟨10, 977, [6], ⟨(some 16), none, .nc (.t 6)⟩⟩,
    ⟨11, 2001, [16], ⟨(some 17), none, .fa (.t 16) 23⟩⟩,
    ⟨12, 4049, [17, 10], ⟨none, none, .st (.t 17) (.t 10) 1⟩⟩,
    ⟨13, 8179, [7], ⟨(some 18), none, .nc (.t 7)⟩⟩,
    ⟨14, 16371, [18], ⟨(some 19), none, .fa (.t 18) 24⟩⟩,
    ⟨15, 32755, [19, 11], ⟨none, none, .st (.t 19) (.t 11) 5⟩⟩,
    ⟨16, 65527, [8], ⟨(some 20), none, .nc (.t 8)⟩⟩,
    ⟨17, 131063, [20], ⟨(some 21), none, .fa (.t 20) 15⟩⟩,
    ⟨18, 262135, [21, 15], ⟨none, none, .st (.t 21) (.t 15) 1⟩⟩,
    ⟨19, 524287, [9], ⟨(some 22), none, .nc (.t 9)⟩⟩,
    ⟨20, 1048575, [22], ⟨(some 23), none, .fa (.t 22) 13⟩⟩,
    ⟨21, 2097151, [23], ⟨none, none, .st (.t 23) (.c (.bool true)) 1⟩⟩])
  (.sq (.sq (.rg [⟨(some 24), none, .mv (.t 0)⟩,
    ⟨(some 25), none, .nc (.t 24)⟩,
    ⟨(some 26), none, .fa (.t 25) 10⟩,
    ⟨(some 27), none, .ld (.t 26) 1 false⟩,
    ⟨(some 28), none, .ib .geq (.t 27) (.c (.int .i64 0))⟩])
  (.cd (.t 28)
  (.sq (.rd [⟨0, 0, [0], ⟨(some 29), none, .mv (.t 0)⟩⟩,
    ⟨1, 1, [29], ⟨(some 30), none, .nc (.t 29)⟩⟩,
    ⟨2, 3, [30], ⟨(some 31), none, .fa (.t 30) 6⟩⟩,
    ⟨3, 7, [31], ⟨(some 32), none, .ld (.t 31) 1 false⟩⟩,
    ⟨4, 0, [0], ⟨(some 33), none, .mv (.t 0)⟩⟩,
    ⟨5, 16, [33], ⟨(some 34), none, .nc (.t 33)⟩⟩,
    ⟨6, 48, [34], ⟨(some 35), none, .fa (.t 34) 10⟩⟩,
    ⟨7, 112, [35], ⟨(some 36), none, .ld (.t 35) 1 false⟩⟩,
    ⟨8, 240, [36], ⟨(some 37), none, .bs 3 1 [(.int .i64 0)] [(0, 1, (.t 36))]⟩⟩,
    ⟨9, 511, [32, 37], ⟨(some 38), none, .ca 206 [(.t 32), (.t 37)]⟩⟩])
  (.rg [⟨(some 39), none, .mv (.t 0)⟩,
    ⟨(some 40), none, .nc (.t 39)⟩,
    ⟨(some 41), none, .fa (.t 40) 10⟩,
    ⟨none, none, .st (.t 41) (.c (.int .i64 (-1))) 1⟩]))
  .sk))
  (.sq (.rg [⟨(some 42), none, .mv (.t 0)⟩,
    ⟨(some 43), none, .mv (.t 0)⟩,
    ⟨(some 44), none, .nc (.t 43)⟩,
    ⟨(some 45), none, .fa (.t 44) 6⟩,
    ⟨(some 46), none, .ld (.t 45) 1 false⟩,
    ⟨(some 47), none, .ca 207 [(.t 46)]⟩,
    ⟨(some 48), none, .nc (.t 42)⟩,
    ⟨(some 49), none, .fa (.t 48) 22⟩,
    ⟨none, none, .st (.t 49) (.t 47) 1⟩])
  (.rd [⟨0, 0, [0], ⟨(some 50), none, .mv (.t 0)⟩⟩,
    ⟨1, 1, [50], ⟨(some 51), none, .nc (.t 50)⟩⟩,
    ⟨2, 3, [51], ⟨(some 52), none, .fa (.t 51) 0⟩⟩,
    ⟨3, 0, [0], ⟨(some 53), none, .mv (.t 0)⟩⟩,
    ⟨4, 8, [53], ⟨(some 54), none, .nc (.t 53)⟩⟩,
    ⟨5, 24, [54], ⟨(some 55), none, .fa (.t 54) 22⟩⟩,
    ⟨6, 56, [55], ⟨(some 56), none, .ld (.t 55) 1 false⟩⟩,
    ⟨7, 120, [56], ⟨(some 57), none, .mf (.func 208) [(.t 56)] []⟩⟩,
    ⟨8, 0, [0], ⟨(some 58), none, .mv (.t 0)⟩⟩,
    ⟨9, 256, [58], ⟨(some 59), none, .nc (.t 58)⟩⟩,
    ⟨10, 768, [59], ⟨(some 60), none, .fa (.t 59) 22⟩⟩,
    ⟨11, 1792, [60], ⟨(some 61), none, .ld (.t 60) 1 false⟩⟩,
    ⟨12, 3840, [61], ⟨(some 62), none, .mf (.func 188) [(.t 61)] []⟩⟩,
    ⟨13, 0, [0], ⟨(some 63), none, .mv (.t 0)⟩⟩,
    ⟨14, 8192, [63], ⟨(some 64), none, .mf (.func 209) [(.t 63)] []⟩⟩,
    ⟨15, 32767, [52, 57, 62, 64], ⟨(some 65), none, .ca 119 [(.t 52), (.t 57), (.t 62), (.t 64)]⟩⟩])))))⟩
theorem k153 : cF Tryz.prog Tryz.f153 = some c153 := by kernel_rfl
/-- rundale/size.Round -/
def c154 : Fu := ⟨24, [.t 4],
  (.sq (.rg [⟨(some 4), none, .mv (.c (.int .i64 0))⟩])
  (.sq (.sq (.rg [⟨(some 6), none, .mv (.t 1)⟩,
    ⟨(some 7), none, .ib .lss (.t 6) (.c (.int .i64 1))⟩,
    ⟨(some 8), none, .mv (.t 7)⟩,
    ⟨(some 9), (some (8, false)), .mv (.t 1)⟩,
    ⟨(some 10), (some (8, false)), .ib .gtr (.t 9) (.c (.int .i64 1024))⟩,
    ⟨(some 11), none, .pk (.t 8) (.c (.bool true)) (.t 10)⟩])
  (.cd (.t 11)
  (.sq (.rg [⟨(some 4), none, .mv (.c (.int .i64 0))⟩])
  .rt)
  .sk))
  (.sq (.rg [⟨(some 12), none, .mv (.t 0)⟩,
    ⟨(some 13), none, .mm true (.t 12) (.c (.int .i64 0))⟩,
    ⟨(some 14), none, .mm false (.t 13) (.c (.int .i64 3))⟩,
    ⟨(some 15), none, .ib .shl (.c (.int .i64 1)) (.t 14)⟩,
    ⟨(some 5), none, .mv (.t 15)⟩])
  (.sq (.rg [⟨(some 16), none, .mv (.t 1)⟩,
    ⟨(some 17), none, .mv (.t 5)⟩,
    ⟨(some 18), none, .ib .add (.t 16) (.t 17)⟩,
    ⟨(some 19), none, .ib .sub (.t 18) (.c (.int .i64 1))⟩,
    ⟨(some 20), none, .mv (.t 5)⟩,
    ⟨(some 21), none, .ib .quo (.t 19) (.t 20)⟩,
    ⟨(some 22), none, .mv (.t 5)⟩,
    ⟨(some 23), none, .ib .mul (.t 21) (.t 22)⟩,
    ⟨(some 4), none, .mv (.t 23)⟩])
  .rt))))⟩
theorem k154 : cF Tryz.prog Tryz.f154 = some c154 := by kernel_rfl
/-- rundale/size.Fits -/
def c155 : Fu := ⟨27, [.t 6],
  (.sq (.rg [⟨(some 6), none, .mv (.c (.bool false))⟩])
  (.sq (.rg [⟨(some 7), none, .mv (.t 0)⟩,
    ⟨(some 8), none, .mv (.t 2)⟩,
    ⟨(some 9), none, .ca 210 [(.t 7), (.t 8)]⟩,
    ⟨(some 10), none, .mv (.t 9)⟩,
    ⟨(some 11), (some (10, true)), .mv (.t 0)⟩,
    ⟨(some 12), (some (10, true)), .mv (.t 2)⟩,
    ⟨(some 13), (some (10, true)), .ca 211 [(.t 11), (.t 12)]⟩,
    ⟨(some 14), (some (10, true)), .nt (.t 13)⟩,
    ⟨(some 15), none, .pk (.t 10) (.t 14) (.c (.bool false))⟩,
    ⟨(some 16), none, .mv (.t 15)⟩,
    ⟨(some 17), (some (16, true)), .mv (.t 1)⟩,
    ⟨(some 18), (some (16, true)), .ib .geq (.t 17) (.c (.int .i64 0))⟩,
    ⟨(some 19), none, .pk (.t 16) (.t 18) (.c (.bool false))⟩,
    ⟨(some 20), none, .mv (.t 19)⟩,
    ⟨(some 21), (some (20, true)), .mv (.t 1)⟩,
    ⟨(some 22), (some (20, true)), .mv (.t 0)⟩,
    ⟨(some 23), (some (20, true)), .mv (.t 2)⟩,
    ⟨(some 24), (some (20, true)), .ib .sub (.t 22) (.t 23)⟩,
    ⟨(some 25), (some (20, true)), .ib .leq (.t 21) (.t 24)⟩,
    ⟨(some 26), none, .pk (.t 20) (.t 25) (.c (.bool false))⟩,
    ⟨(some 6), none, .mv (.t 26)⟩])
  .rt))⟩
theorem k155 : cF Tryz.prog Tryz.f155 = some c155 := by kernel_rfl
/-- (*rundale/grant.Alloc).fit -/
def c156 : Fu := ⟨47, [],
  (.sq (.rg [⟨(some 3), none, .mv (.t 0)⟩,
    ⟨(some 4), none, .nc (.t 3)⟩,
    ⟨(some 5), none, .fa (.t 4) 17⟩,
    ⟨(some 6), none, .ld (.t 5) 4 true⟩,
    ⟨(some 2), none, .al 68 [(.int .i64 0), (.int .i64 0), (.int .i64 0), (.int .i64 0)]⟩,
    ⟨none, none, .st (.t 2) (.t 6) 4⟩])
  (.sq (.rd [⟨0, 0, [2], ⟨(some 7), none, .fa (.t 2) 3⟩⟩,
    ⟨1, 1, [7], ⟨(some 8), none, .ld (.t 7) 1 false⟩⟩,
    ⟨2, 0, [0], ⟨(some 9), none, .mv (.t 0)⟩⟩,
    ⟨3, 4, [9], ⟨(some 10), none, .nc (.t 9)⟩⟩,
    ⟨4, 12, [10], ⟨(some 11), none, .fa (.t 10) 14⟩⟩,
    ⟨5, 28, [11], ⟨(some 12), none, .ld (.t 11) 1 false⟩⟩,
    ⟨6, 63, [8, 12], ⟨(some 13), none, .ib .add (.t 8) (.t 12)⟩⟩,
    ⟨7, 127, [2], ⟨(some 14), none, .fa (.t 2) 3⟩⟩,
    ⟨8, 255, [14, 13], ⟨none, none, .st (.t 14) (.t 13) 1⟩⟩])
  (.sq (.sq (.rg [⟨(some 15), none, .mv (.t 0)⟩,
    ⟨(some 16), none, .ld (.t 2) 4 true⟩,
    ⟨(some 17), none, .ca 212 [(.t 15), (.t 16)]⟩,
    ⟨(some 18), none, .nt (.t 17)⟩])
  (.cd (.t 18)
  (.sq (.rg [⟨(some 19), none, .mv (.t 0)⟩,
    ⟨(some 20), none, .nc (.t 19)⟩,
    ⟨(some 21), none, .fa (.t 20) 0⟩,
    ⟨(some 22), none, .mv (.t 0)⟩,
    ⟨(some 23), none, .mf (.func 80) [(.t 22)] []⟩,
    ⟨(some 24), none, .ca 79 [(.t 21), (.t 23)]⟩])
  .rt)
  .sk))
  (.rd [⟨0, 0, [0], ⟨(some 25), none, .mv (.t 0)⟩⟩,
    ⟨1, 0, [0], ⟨(some 26), none, .mv (.t 0)⟩⟩,
    ⟨2, 2, [26], ⟨(some 27), none, .nc (.t 26)⟩⟩,
    ⟨3, 6, [27], ⟨(some 28), none, .fa (.t 27) 7⟩⟩,
    ⟨4, 14, [28], ⟨(some 29), none, .ld (.t 28) 1 false⟩⟩,
    ⟨5, 0, [0], ⟨(some 30), none, .mv (.t 0)⟩⟩,
    ⟨6, 32, [30], ⟨(some 31), none, .nc (.t 30)⟩⟩,
    ⟨7, 96, [31], ⟨(some 32), none, .fa (.t 31) 8⟩⟩,
    ⟨8, 224, [32], ⟨(some 33), none, .ld (.t 32) 1 false⟩⟩,
    ⟨9, 0, [2], ⟨(some 34), none, .ld (.t 2) 4 true⟩⟩,
    ⟨10, 512, [34], ⟨(some 35), none, .ca 213 [(.t 34)]⟩⟩,
    ⟨11, 0, [0], ⟨(some 36), none, .mv (.t 0)⟩⟩,
    ⟨12, 2048, [36], ⟨(some 37), none, .nc (.t 36)⟩⟩,
    ⟨13, 6144, [37], ⟨(some 38), none, .fa (.t 37) 17⟩⟩,
    ⟨14, 14336, [38], ⟨(some 39), none, .fa (.t 38) 3⟩⟩,
    ⟨15, 30720, [39], ⟨(some 40), none, .ld (.t 39) 1 false⟩⟩,
    ⟨16, 0, [0], ⟨(some 41), none, .mv (.t 0)⟩⟩,
    ⟨17, 65536, [41], ⟨(some 42), none, .nc (.t 41)⟩⟩,
    ⟨18, 196608, [42], ⟨(some 43), none, .fa (.t 42) 9⟩⟩,
    ⟨19, 458752, [43], ⟨(some 44), none, .ld (.t 43) 1 false⟩⟩,
    ⟨20, 1048574, [29, 33, 35, 40, 44], ⟨(some 45), none, .bd [(.int .i64 0), (.int .i64 0), (.int .i64 0), (.int .i64 0), (.int .i64 0)] [(0, 1, (.t 29)), (1, 1, (.t 33)), (2, 1, (.t 35)), (3, 1, (.t 40)), (4, 1, (.t 44))]⟩⟩,
    ⟨21, 2097151, [25, 45], ⟨(some 46), none, .ca 153 [(.t 25), (.c (.int .i64 0)), (.t 45)]⟩⟩]))))⟩
theorem k156 : cF Tryz.prog Tryz.f156 = some c156 := by kernel_rfl
/-- (*rundale/grant.Alloc).link -/
def c157 : Fu := ⟨35, [],
  (.sq (.rd [⟨0, 0, [0], ⟨(some 2), none, .mv (.t 0)⟩⟩,
    ⟨1, 1, [2], ⟨(some 3), none, .nc (.t 2)⟩⟩,
    ⟨2, 3, [3], ⟨(some 4), none, .fa (.t 3) 5⟩⟩,
    ⟨3, 7, [4], ⟨(some 5), none, .ld (.t 4) 1 false⟩⟩,
    ⟨4, 15, [5], ⟨(some 6), none, .nc (.t 5)⟩⟩,
    ⟨5, 31, [6], ⟨(some 7), none, .fa (.t 6) 0⟩⟩,
    ⟨6, 63, [7], ⟨(some 8), none, .ld (.t 7) 1 false⟩⟩,
    ⟨7, 0, [0], ⟨(some 9), none, .mv (.t 0)⟩⟩,
    ⟨8, 128, [9], ⟨(some 10), none, .nc (.t 9)⟩⟩,
    ⟨9, 384, [10], ⟨(some 11), none, .fa (.t 10) 5⟩⟩,
    ⟨10, 896, [11], ⟨(some 12), none, .ld (.t 11) 1 false⟩⟩,
    ⟨11, 1920, [12], ⟨(some 13), none, .nc (.t 12)⟩⟩,
    ⟨12, 3968, [13], ⟨(some 14), none, .fa (.t 13) 1⟩⟩,
    ⟨13, 8064, [14], ⟨(some 15), none, .ld (.t 14) 6 true⟩⟩,
    ⟨14, 0, [0], ⟨(some 16), none, .mv (.t 0)⟩⟩,
    ⟨15, 16384, [16], ⟨(some 17), none, .nc (.t 16)⟩⟩,
    ⟨16, 49152, [17], ⟨(some 18), none, .fa (.t 17) 10⟩⟩,
    ⟨17, 114688, [18], ⟨(some 19), none, .ld (.t 18) 1 false⟩⟩,
    ⟨18, 262016, [15, 19], ⟨(some 20), none, .ca 139 [(.t 15), (.t 19)]⟩⟩,
    ⟨19, 0, [0], ⟨(some 21), none, .mv (.t 0)⟩⟩,
    ⟨20, 524288, [21], ⟨(some 22), none, .nc (.t 21)⟩⟩,
    ⟨21, 1572864, [22], ⟨(some 23), none, .fa (.t 22) 17⟩⟩,
    ⟨22, 3670016, [23], ⟨(some 24), none, .ld (.t 23) 4 true⟩⟩,
    ⟨23, 8388480, [24], ⟨(some 25), none, .ca 213 [(.t 24)]⟩⟩,
    ⟨24, 16777088, [25], ⟨(some 26), none, .ib .add (.t 25) (.c (.int .i64 1))⟩⟩,
    ⟨25, 33554304, [26], ⟨(some 27), none, .cv .u64 (.t 26)⟩⟩,
    ⟨26, 67108863, [8, 20, 27], ⟨(some 28), none, .ca 214 [(.t 8), (.t 20), (.t 27)]⟩⟩])
  (.rg [⟨(some 29), none, .mv (.t 0)⟩,
    ⟨(some 30), none, .nc (.t 29)⟩,
    ⟨(some 31), none, .fa (.t 30) 0⟩,
    ⟨(some 32), none, .mv (.t 0)⟩,
    ⟨(some 33), none, .mf (.func 215) [(.t 32)] []⟩,
    ⟨(some 34), none, .ca 79 [(.t 31), (.t 33)]⟩]))⟩
theorem k157 : cF Tryz.prog Tryz.f157 = some c157 := by kernel_rfl
/-- (*rundale/supply.Supply).Take -/
def c158 : Fu := ⟨26, [.t 2],
  (.sq (.rg [⟨(some 2), none, .mv (.c (.pointer none))⟩])
  (.sq (.rg [⟨(some 4), none, .mv (.t 0)⟩,
    ⟨(some 5), none, .bd [.nilFunc, .nilFunc, .nilFunc, .nilFunc, (.int .i64 0), (.pointer none), (.pointer none), (.int .i64 0), (.int .i64 0), (.bool false)] [(5, 1, (.t 4)), (8, 1, (.c (.int .i64 (-1))))]⟩,
    ⟨(some 6), none, .bx 274 (.t 5)⟩,
    ⟨(some 3), none, .mv (.t 6)⟩])
  (.sq (.bl 0
  (.sq (.rg [⟨(some 10), none, .mv (.t 3)⟩,
    ⟨(some 11), none, .ca 216 [(.t 10)]⟩,
    ⟨(some 9), none, .mv (.t 11)⟩])
  (.cd (.t 9)
  .sk
  (.sq (.rg [⟨(some 13), none, .mv (.t 0)⟩,
    ⟨(some 14), none, .nc (.t 13)⟩,
    ⟨(some 15), none, .fa (.t 14) 9⟩,
    ⟨(some 16), none, .ld (.t 15) 1 false⟩,
    ⟨(some 17), none, .ca 217 [(.t 16)]⟩,
    ⟨(some 18), none, .ib .gtr (.t 17) (.c (.int .i64 0))⟩,
    ⟨(some 12), none, .mv (.t 18)⟩])
  (.cd (.t 12)
  (.rg [⟨(some 19), none, .mv (.t 3)⟩,
    ⟨(some 20), none, .nc (.t 19)⟩,
    ⟨(some 21), none, .fa (.t 20) 0⟩,
    ⟨(some 22), none, .mv (.t 3)⟩,
    ⟨(some 23), none, .mf (.func 218) [(.t 22)] []⟩,
    ⟨(some 24), none, .ca 79 [(.t 21), (.t 23)]⟩])
  (.rg [⟨(some 7), none, .mv (.t 3)⟩,
    ⟨(some 8), none, .ca 219 [(.t 7)]⟩]))))))
  (.sq (.rg [⟨(some 25), none, .mv (.t 3)⟩,
    ⟨(some 2), none, .mv (.t 25)⟩])
  .rt))))⟩
theorem k158 : cF Tryz.prog Tryz.f158 = some c158 := by kernel_rfl
/-- (*rundale/supply.Take).Step -/
def c159 : Fu := ⟨7, [.t 2],
  (.sq (.rg [⟨(some 2), none, .mv (.c (.bool false))⟩])
  (.sq (.rg [⟨(some 3), none, .mv (.t 0)⟩,
    ⟨(some 4), none, .nc (.t 3)⟩,
    ⟨(some 5), none, .fa (.t 4) 0⟩,
    ⟨(some 6), none, .ca 91 [(.t 5)]⟩,
    ⟨(some 2), none, .mv (.t 6)⟩])
  .rt))⟩
theorem k159 : cF Tryz.prog Tryz.f159 = some c159 := by kernel_rfl
/-- (*rundale/supply.Take).Done -/
def c160 : Fu := ⟨7, [.t 2],
  (.sq (.rg [⟨(some 2), none, .mv (.c (.bool false))⟩])
  (.sq (.rg [⟨(some 3), none, .mv (.t 0)⟩,
    ⟨(some 4), none, .nc (.t 3)⟩,
    ⟨(some 5), none, .fa (.t 4) 0⟩,
    ⟨(some 6), none, .ca 92 [(.t 5)]⟩,
    ⟨(some 2), none, .mv (.t 6)⟩])
  .rt))⟩
theorem k160 : cF Tryz.prog Tryz.f160 = some c160 := by kernel_rfl
/-- (*rundale/grant.Alloc).taken -/
def c161 : Fu := ⟨30, [],
  (.sq (.rg [⟨(some 5), none, .mv (.t 0)⟩,
    ⟨(some 6), none, .nc (.t 5)⟩,
    ⟨(some 7), none, .fa (.t 6) 21⟩,
    ⟨(some 8), none, .ld (.t 7) 1 false⟩,
    ⟨(some 9), none, .ca 220 [(.t 8)]⟩,
    ⟨(some 4), none, .mv (.t 9)⟩,
    ⟨(some 10), none, .ex (.t 4) 0⟩,
    ⟨(some 11), none, .ex (.t 4) 1⟩,
    ⟨(some 2), none, .mv (.t 10)⟩,
    ⟨(some 3), none, .mv (.t 11)⟩])
  (.sq (.sq (.rg [⟨(some 12), none, .mv (.t 3)⟩,
    ⟨(some 13), none, .nt (.t 12)⟩])
  (.cd (.t 13)
  (.sq (.rg [⟨(some 14), none, .mv (.t 0)⟩,
    ⟨(some 15), none, .nc (.t 14)⟩,
    ⟨(some 16), none, .fa (.t 15) 0⟩,
    ⟨(some 17), none, .mv (.t 0)⟩,
    ⟨(some 18), none, .mf (.func 80) [(.t 17)] []⟩,
    ⟨(some 19), none, .ca 79 [(.t 16), (.t 18)]⟩])
  .rt)
  .sk))
  (.sq (.rg [⟨(some 20), none, .mv (.t 0)⟩,
    ⟨(some 21), none, .mv (.t 2)⟩,
    ⟨(some 22), none, .nc (.t 20)⟩,
    ⟨(some 23), none, .fa (.t 22) 10⟩,
    ⟨none, none, .st (.t 23) (.t 21) 1⟩])
  (.rg [⟨(some 24), none, .mv (.t 0)⟩,
    ⟨(some 25), none, .nc (.t 24)⟩,
    ⟨(some 26), none, .fa (.t 25) 0⟩,
    ⟨(some 27), none, .mv (.t 0)⟩,
    ⟨(some 28), none, .mf (.func 221) [(.t 27)] []⟩,
    ⟨(some 29), none, .ca 79 [(.t 26), (.t 28)]⟩]))))⟩
theorem k161 : cF Tryz.prog Tryz.f161 = some c161 := by kernel_rfl
/-- (*rundale/stack.Stack).Pop -/
def c162 : Fu := ⟨19, [.t 4],
  (.sq (.rg [⟨(some 4), none, .mv (.c (.pointer none))⟩])
  (.sq (.rg [⟨(some 6), none, .mv (.t 0)⟩,
    ⟨(some 7), none, .mv (.t 1)⟩,
    ⟨(some 8), none, .mm true (.t 7) (.c (.int .i64 1))⟩,
    ⟨(some 9), none, .mm false (.t 8) (.c (.int .i64 8))⟩,
    ⟨(some 10), none, .bd [.nilFunc, .nilFunc, .nilFunc, .nilFunc, (.int .i64 0), (.pointer none), (.int .i64 0), (.int .i64 0), (.int .u64 0), (.slice none 0 0)] [(5, 1, (.t 6)), (6, 1, (.t 9))]⟩,
    ⟨(some 11), none, .bx 278 (.t 10)⟩,
    ⟨(some 5), none, .mv (.t 11)⟩])
  (.sq (.rg [⟨(some 12), none, .mv (.t 5)⟩,
    ⟨(some 13), none, .nc (.t 12)⟩,
    ⟨(some 14), none, .fa (.t 13) 0⟩,
    ⟨(some 15), none, .mv (.t 5)⟩,
    ⟨(some 16), none, .mf (.func 222) [(.t 15)] []⟩,
    ⟨(some 17), none, .ca 79 [(.t 14), (.t 16)]⟩])
  (.sq (.rg [⟨(some 18), none, .mv (.t 5)⟩,
    ⟨(some 4), none, .mv (.t 18)⟩])
  .rt))))⟩
theorem k162 : cF Tryz.prog Tryz.f162 = some c162 := by kernel_rfl
/-- (*rundale/stack.Pop).Step -/
def c163 : Fu := ⟨7, [.t 2],
  (.sq (.rg [⟨(some 2), none, .mv (.c (.bool false))⟩])
  (.sq (.rg [⟨(some 3), none, .mv (.t 0)⟩,
    ⟨(some 4), none, .nc (.t 3)⟩,
    ⟨(some 5), none, .fa (.t 4) 0⟩,
    ⟨(some 6), none, .ca 91 [(.t 5)]⟩,
    ⟨(some 2), none, .mv (.t 6)⟩])
  .rt))⟩
theorem k163 : cF Tryz.prog Tryz.f163 = some c163 := by kernel_rfl
/-- (*rundale/stack.Pop).Done -/
def c164 : Fu := ⟨7, [.t 2],
  (.sq (.rg [⟨(some 2), none, .mv (.c (.bool false))⟩])
  (.sq (.rg [⟨(some 3), none, .mv (.t 0)⟩,
    ⟨(some 4), none, .nc (.t 3)⟩,
    ⟨(some 5), none, .fa (.t 4) 0⟩,
    ⟨(some 6), none, .ca 92 [(.t 5)]⟩,
    ⟨(some 2), none, .mv (.t 6)⟩])
  .rt))⟩
theorem k164 : cF Tryz.prog Tryz.f164 = some c164 := by kernel_rfl
/-- (*rundale/roots.Create).popped -/
def c165 : Fu := ⟨33, [],
  (.sq (.rg [⟨(some 3), none, .mv (.t 0)⟩,
    ⟨(some 4), none, .mv (.t 0)⟩,
    ⟨(some 5), none, .nc (.t 4)⟩,
    ⟨(some 6), none, .fa (.t 5) 0⟩,
    ⟨(some 7), none, .ca 175 [(.t 6)]⟩,
    ⟨(some 8), none, .nc (.t 3)⟩,
    ⟨(some 9), none, .fa (.t 8) 9⟩,
    ⟨none, none, .st (.t 9) (.t 7) 1⟩])
  (.sq (.rg [⟨(some 10), none, .mv (.t 0)⟩,
    ⟨(some 11), none, .nc (.t 10)⟩,
    ⟨(some 12), none, .fa (.t 11) 7⟩,
    ⟨(some 13), none, .ld (.t 12) 1 false⟩,
    ⟨(some 14), none, .ca 223 [(.t 13)]⟩,
    ⟨(some 2), none, .mv (.t 14)⟩])
  (.sq (.sq (.rg [⟨(some 15), none, .mv (.t 2)⟩,
    ⟨(some 16), none, .len (.t 15)⟩,
    ⟨(some 17), none, .ib .eql (.t 16) (.c (.int .i64 0))⟩])
  (.cd (.t 17)
  (.sq (.rg [⟨(some 18), none, .mv (.t 0)⟩,
    ⟨(some 19), none, .nc (.t 18)⟩,
    ⟨(some 20), none, .fa (.t 19) 14⟩,
    ⟨none, none, .st (.t 20) (.c (.int .i64 7)) 1⟩])
  .rt)
  .sk))
  (.sq (.rg [⟨(some 21), none, .mv (.t 0)⟩,
    ⟨(some 22), none, .mv (.t 2)⟩,
    ⟨(some 23), none, .ia (.t 22) (.c (.int .i64 0)) 1⟩,
    ⟨(some 24), none, .ld (.t 23) 1 false⟩,
    ⟨(some 25), none, .nc (.t 21)⟩,
    ⟨(some 26), none, .fa (.t 25) 8⟩,
    ⟨none, none, .st (.t 26) (.t 24) 1⟩])
  (.rg [⟨(some 27), none, .mv (.t 0)⟩,
    ⟨(some 28), none, .nc (.t 27)⟩,
    ⟨(some 29), none, .fa (.t 28) 0⟩,
    ⟨(some 30), none, .mv (.t 0)⟩,
    ⟨(some 31), none, .mf (.func 224) [(.t 30)] []⟩,
    ⟨(some 32), none, .ca 79 [(.t 29), (.t 31)]⟩])))))⟩
theorem k165 : cF Tryz.prog Tryz.f165 = some c165 := by kernel_rfl
/-- (*rundale/rundaleref5.Stack).Pop -/
def c166 : Fu := ⟨11, [.t 4],
  (.sq (.rg [⟨(some 4), none, .mv (.c (.pointer none))⟩])
  (.sq (.rg [⟨(some 5), none, .mv (.t 0)⟩,
    ⟨(some 6), none, .mv (.t 1)⟩,
    ⟨(some 7), none, .mm true (.t 6) (.c (.int .i64 1))⟩,
    ⟨(some 8), none, .mm false (.t 7) (.c (.int .i64 8))⟩,
    ⟨(some 9), none, .bd [(.pointer none), (.int .i64 0), (.int .i64 0), (.int .i64 0), (.int .u64 0), (.slice none 0 0), (.bool false)] [(0, 1, (.t 5)), (1, 1, (.t 8))]⟩,
    ⟨(some 10), none, .bx 235 (.t 9)⟩,
    ⟨(some 4), none, .mv (.t 10)⟩])
  .rt))⟩
theorem k166 : cF Tryz.prog Tryz.f166 = some c166 := by kernel_rfl
/-- (*rundale/rundaleref5.Pop).Step -/
def c167 : Fu := ⟨148, [.t 2],
  (.sq (.rg [⟨(some 2), none, .mv (.c (.bool false))⟩])
  (.sq (.sq (.rg [⟨(some 5), none, .mv (.t 0)⟩,
    ⟨(some 6), none, .nc (.t 5)⟩,
    ⟨(some 7), none, .fa (.t 6) 6⟩,
    ⟨(some 8), none, .ld (.t 7) 1 false⟩])
  (.cd (.t 8)
  (.sq (.rg [⟨(some 2), none, .mv (.c (.bool false))⟩])
  .rt)
  .sk))
  (.sq (.rg [⟨(some 9), none, .mv (.t 0)⟩,
    ⟨(some 10), none, .nc (.t 9)⟩,
    ⟨(some 11), none, .fa (.t 10) 0⟩,
    ⟨(some 12), none, .ld (.t 11) 1 false⟩,
    ⟨(some 3), none, .mv (.t 12)⟩])
  (.sq (.sq (.rg [⟨(some 13), none, .mv (.t 0)⟩,
    ⟨(some 14), none, .nc (.t 13)⟩,
    ⟨(some 15), none, .fa (.t 14) 2⟩,
    ⟨(some 16), none, .ld (.t 15) 1 false⟩])
  (.bl 0
  (.sq (.rg [⟨(some 46), none, .ib .eql (.t 16) (.c (.int .i64 0))⟩,
    ⟨(some 45), none, .mv (.t 46)⟩])
  (.cd (.t 45)
  (.sq (.rd [⟨0, 0, [0], ⟨(some 47), none, .mv (.t 0)⟩⟩,
    ⟨1, 0, [3], ⟨(some 48), none, .mv (.t 3)⟩⟩,
    ⟨2, 2, [48], ⟨(some 49), none, .nc (.t 48)⟩⟩,
    ⟨3, 6, [49], ⟨(some 50), none, .fa (.t 49) 0⟩⟩,
    ⟨4, 14, [50], ⟨(some 51), none, .ld (.t 50) 1 false⟩⟩,
    ⟨5, 0, [3], ⟨(some 52), none, .mv (.t 3)⟩⟩,
    ⟨6, 32, [52], ⟨(some 53), none, .nc (.t 52)⟩⟩,
    ⟨7, 96, [53], ⟨(some 54), none, .fa (.t 53) 1⟩⟩,
    ⟨8, 224, [54], ⟨(some 55), none, .ld (.t 54) 1 false⟩⟩,
    ⟨9, 510, [51, 55], ⟨(some 56), none, .ca 98 [(.t 51), (.t 55)]⟩⟩,
    ⟨10, 1023, [47], ⟨(some 57), none, .nc (.t 47)⟩⟩,
    ⟨11, 2047, [57], ⟨(some 58), none, .fa (.t 57) 4⟩⟩,
    ⟨12, 4095, [58, 56], ⟨none, none, .st (.t 58) (.t 56) 1⟩⟩])
  (.sq (.rg [⟨(some 59), none, .mv (.t 0)⟩,
    ⟨(some 60), none, .nc (.t 59)⟩,
    ⟨(some 61), none, .fa (.t 60) 5⟩,
    ⟨none, none, .st (.t 61) (.c (.slice none 0 0)) 1⟩])
  (.sq (.rg [⟨(some 62), none, .mv (.t 3)⟩,
    ⟨(some 63), none, .mv (.t 0)⟩,
    ⟨(some 64), none, .nc (.t 63)⟩,
    ⟨(some 65), none, .fa (.t 64) 4⟩,
    ⟨(some 66), none, .ld (.t 65) 1 false⟩,
    ⟨(some 67), none, .ca 133 [(.t 62), (.t 66)]⟩,
    ⟨(some 4), none, .mv (.t 67)⟩])
  (.sq (.rg [⟨(some 68), none, .mv (.t 4)⟩,
    ⟨(some 69), none, .ib .lss (.t 68) (.c (.int .i64 0))⟩])
  (.cd (.t 69)
  (.rg [⟨(some 70), none, .mv (.t 0)⟩,
    ⟨(some 71), none, .nc (.t 70)⟩,
    ⟨(some 72), none, .fa (.t 71) 6⟩,
    ⟨none, none, .st (.t 72) (.c (.bool true)) 1⟩])
  (.rg [⟨(some 73), none, .mv (.t 0)⟩,
    ⟨(some 74), none, .mv (.t 0)⟩,
    ⟨(some 75), none, .mv (.t 0)⟩,
    ⟨(some 76), none, .nc (.t 75)⟩,
    ⟨(some 77), none, .fa (.t 76) 5⟩,
    ⟨(some 78), none, .ld (.t 77) 1 false⟩,
    ⟨(some 79), none, .mv (.t 4)⟩,
    ⟨(some 80), none, .bs 3 1 [(.int .i64 0)] [(0, 1, (.t 79))]⟩,
    ⟨(some 81), none, .ap 53 3 1 8 [(.int .i64 0)] (.t 78) (.t 80)⟩,
    ⟨(some 82), none, .nc (.t 73)⟩,
    ⟨(some 83), none, .fa (.t 82) 5⟩,
    ⟨none, none, .st (.t 83) (.t 81) 1⟩,
    ⟨(some 84), none, .nc (.t 74)⟩,
    ⟨(some 85), none, .fa (.t 84) 2⟩,
    ⟨none, none, .st (.t 85) (.c (.int .i64 1)) 1⟩]))))))
  (.sq (.rg [⟨(some 87), none, .ib .eql (.t 16) (.c (.int .i64 1))⟩,
    ⟨(some 86), none, .mv (.t 87)⟩])
  (.cd (.t 86)
  (.sq (.rd [⟨0, 0, [0], ⟨(some 88), none, .mv (.t 0)⟩⟩,
    ⟨1, 0, [3], ⟨(some 89), none, .mv (.t 3)⟩⟩,
    ⟨2, 0, [3], ⟨(some 90), none, .mv (.t 3)⟩⟩,
    ⟨3, 4, [90], ⟨(some 91), none, .nc (.t 90)⟩⟩,
    ⟨4, 12, [91], ⟨(some 92), none, .fa (.t 91) 0⟩⟩,
    ⟨5, 28, [92], ⟨(some 93), none, .ld (.t 92) 1 false⟩⟩,
    ⟨6, 0, [3], ⟨(some 94), none, .mv (.t 3)⟩⟩,
    ⟨7, 64, [94], ⟨(some 95), none, .nc (.t 94)⟩⟩,
    ⟨8, 192, [95], ⟨(some 96), none, .fa (.t 95) 2⟩⟩,
    ⟨9, 448, [96], ⟨(some 97), none, .ld (.t 96) 1 false⟩⟩,
    ⟨10, 0, [0], ⟨(some 98), none, .mv (.t 0)⟩⟩,
    ⟨11, 1024, [98], ⟨(some 99), none, .nc (.t 98)⟩⟩,
    ⟨12, 3072, [99], ⟨(some 100), none, .fa (.t 99) 5⟩⟩,
    ⟨13, 7168, [100], ⟨(some 101), none, .ld (.t 100) 1 false⟩⟩,
    ⟨14, 0, [0], ⟨(some 102), none, .mv (.t 0)⟩⟩,
    ⟨15, 16384, [102], ⟨(some 103), none, .nc (.t 102)⟩⟩,
    ⟨16, 49152, [103], ⟨(some 104), none, .fa (.t 103) 5⟩⟩,
    ⟨17, 114688, [104], ⟨(some 105), none, .ld (.t 104) 1 false⟩⟩,
    ⟨18, 245760, [105], ⟨(some 106), none, .len (.t 105)⟩⟩,
    ⟨19, 507904, [106], ⟨(some 107), none, .ib .sub (.t 106) (.c (.int .i64 1))⟩⟩,
    ⟨20, 1047552, [101, 107], ⟨(some 108), none, .ia (.t 101) (.t 107) 1⟩⟩,
    ⟨21, 2096128, [108], ⟨(some 109), none, .ld (.t 108) 1 false⟩⟩,
    ⟨22, 4194240, [97, 109], ⟨(some 110), none, .ib .add (.t 97) (.t 109)⟩⟩,
    ⟨23, 8388604, [93, 110], ⟨(some 111), none, .ca 98 [(.t 93), (.t 110)]⟩⟩,
    ⟨24, 16777214, [89, 111], ⟨(some 112), none, .ca 134 [(.t 89), (.t 111)]⟩⟩,
    ⟨25, 33554431, [88], ⟨(some 113), none, .nc (.t 88)⟩⟩,
    ⟨26, 67108863, [113], ⟨(some 114), none, .fa (.t 113) 3⟩⟩,
    ⟨27, 134217727, [114, 112], ⟨none, none, .st (.t 114) (.t 112) 1⟩⟩])
  (.sq (.rd [⟨0, 0, [0], ⟨(some 115), none, .mv (.t 0)⟩⟩,
    ⟨1, 1, [115], ⟨(some 116), none, .nc (.t 115)⟩⟩,
    ⟨2, 3, [116], ⟨(some 117), none, .fa (.t 116) 3⟩⟩,
    ⟨3, 7, [117], ⟨(some 118), none, .ld (.t 117) 1 false⟩⟩,
    ⟨4, 15, [118], ⟨(some 119), none, .ib .geq (.t 118) (.c (.int .i64 0))⟩⟩,
    ⟨5, 31, [119], ⟨(some 120), none, .mv (.t 119)⟩⟩,
    ⟨6, 63, [0, 120], ⟨(some 121), (some (120, true)), .mv (.t 0)⟩⟩,
    ⟨7, 127, [121, 120], ⟨(some 122), (some (120, true)), .nc (.t 121)⟩⟩,
    ⟨8, 255, [122, 120], ⟨(some 123), (some (120, true)), .fa (.t 122) 5⟩⟩,
    ⟨9, 511, [123, 120], ⟨(some 124), (some (120, true)), .ld (.t 123) 1 false⟩⟩,
    ⟨10, 1023, [124, 120], ⟨(some 125), (some (120, true)), .len (.t 124)⟩⟩,
    ⟨11, 63, [0, 120], ⟨(some 126), (some (120, true)), .mv (.t 0)⟩⟩,
    ⟨12, 2111, [126, 120], ⟨(some 127), (some (120, true)), .nc (.t 126)⟩⟩,
    ⟨13, 6207, [127, 120], ⟨(some 128), (some (120, true)), .fa (.t 127) 1⟩⟩,
    ⟨14, 14399, [128, 120], ⟨(some 129), (some (120, true)), .ld (.t 128) 1 false⟩⟩,
    ⟨15, 32767, [125, 129, 120], ⟨(some 130), (some (120, true)), .ib .lss (.t 125) (.t 129)⟩⟩,
    ⟨16, 65535, [120, 130], ⟨(some 131), none, .pk (.t 120) (.t 130) (.c (.bool false))⟩⟩])
  (.cd (.t 131)
  (.rd [⟨0, 0, [0], ⟨(some 132), none, .mv (.t 0)⟩⟩,
    ⟨1, 0, [0], ⟨(some 133), none, .mv (.t 0)⟩⟩,
    ⟨2, 2, [133], ⟨(some 134), none, .nc (.t 133)⟩⟩,
    ⟨3, 6, [134], ⟨(some 135), none, .fa (.t 134) 5⟩⟩,
    ⟨4, 14, [135], ⟨(some 136), none, .ld (.t 135) 1 false⟩⟩,
    ⟨5, 0, [0], ⟨(some 137), none, .mv (.t 0)⟩⟩,
    ⟨6, 32, [137], ⟨(some 138), none, .nc (.t 137)⟩⟩,
    ⟨7, 96, [138], ⟨(some 139), none, .fa (.t 138) 3⟩⟩,
    ⟨8, 224, [139], ⟨(some 140), none, .ld (.t 139) 1 false⟩⟩,
    ⟨9, 480, [140], ⟨(some 141), none, .bs 3 1 [(.int .i64 0)] [(0, 1, (.t 140))]⟩⟩,
    ⟨10, 1022, [136, 141], ⟨(some 142), none, .ap 53 3 1 8 [(.int .i64 0)] (.t 136) (.t 141)⟩⟩,
    ⟨11, 2047, [132], ⟨(some 143), none, .nc (.t 132)⟩⟩,
    ⟨12, 4095, [143], ⟨(some 144), none, .fa (.t 143) 5⟩⟩,
    ⟨13, 8191, [144, 142], ⟨none, none, .st (.t 144) (.t 142) 1⟩⟩])
  (.rg [⟨(some 145), none, .mv (.t 0)⟩,
    ⟨(some 146), none, .nc (.t 145)⟩,
    ⟨(some 147), none, .fa (.t 146) 2⟩,
    ⟨none, none, .st (.t 147) (.c (.int .i64 2)) 1⟩]))))
  (.sq (.rd [⟨0, 0, [0], ⟨(some 17), none, .mv (.t 0)⟩⟩,
    ⟨1, 0, [3], ⟨(some 18), none, .mv (.t 3)⟩⟩,
    ⟨2, 2, [18], ⟨(some 19), none, .nc (.t 18)⟩⟩,
    ⟨3, 6, [19], ⟨(some 20), none, .fa (.t 19) 0⟩⟩,
    ⟨4, 14, [20], ⟨(some 21), none, .ld (.t 20) 1 false⟩⟩,
    ⟨5, 0, [3], ⟨(some 22), none, .mv (.t 3)⟩⟩,
    ⟨6, 32, [22], ⟨(some 23), none, .nc (.t 22)⟩⟩,
    ⟨7, 96, [23], ⟨(some 24), none, .fa (.t 23) 1⟩⟩,
    ⟨8, 224, [24], ⟨(some 25), none, .ld (.t 24) 1 false⟩⟩,
    ⟨9, 0, [0], ⟨(some 26), none, .mv (.t 0)⟩⟩,
    ⟨10, 512, [26], ⟨(some 27), none, .nc (.t 26)⟩⟩,
    ⟨11, 1536, [27], ⟨(some 28), none, .fa (.t 27) 4⟩⟩,
    ⟨12, 3584, [28], ⟨(some 29), none, .ld (.t 28) 1 false⟩⟩,
    ⟨13, 0, [0], ⟨(some 30), none, .mv (.t 0)⟩⟩,
    ⟨14, 8192, [30], ⟨(some 31), none, .nc (.t 30)⟩⟩,
    ⟨15, 24576, [31], ⟨(some 32), none, .fa (.t 31) 4⟩⟩,
    ⟨16, 57344, [32], ⟨(some 33), none, .ld (.t 32) 1 false⟩⟩,
    ⟨17, 0, [0], ⟨(some 34), none, .mv (.t 0)⟩⟩,
    ⟨18, 131072, [34], ⟨(some 35), none, .nc (.t 34)⟩⟩,
    ⟨19, 393216, [35], ⟨(some 36), none, .fa (.t 35) 3⟩⟩,
    ⟨20, 917504, [36], ⟨(some 37), none, .ld (.t 36) 1 false⟩⟩,
    ⟨21, 2088960, [33, 37], ⟨(some 38), none, .ca 195 [(.t 33), (.t 37)]⟩⟩,
    ⟨22, 4194302, [21, 25, 29, 38], ⟨(some 39), none, .ca 102 [(.t 21), (.t 25), (.t 29), (.t 38)]⟩⟩,
    ⟨23, 8388607, [17], ⟨(some 40), none, .nc (.t 17)⟩⟩,
    ⟨24, 16777215, [40], ⟨(some 41), none, .fa (.t 40) 6⟩⟩,
    ⟨25, 33554431, [41, 39], ⟨none, none, .st (.t 41) (.t 39) 1⟩⟩])
  (.rg [⟨(some 42), none, .mv (.t 0)⟩,
    ⟨(some 43), none, .nc (.t 42)⟩,
    ⟨(some 44), none, .fa (.t 43) 2⟩,
    ⟨none, none, .st (.t 44) (.c (.int .i64 0)) 1⟩]))))))))
  (.sq (.rg [⟨(some 2), none, .mv (.c (.bool true))⟩])
  .rt)))))⟩
theorem k167 : cF Tryz.prog Tryz.f167 = some c167 := by kernel_rfl
/-- (*rundale/rundaleref5.Pop).Got -/
def c168 : Fu := ⟨13, [.t 2],
  (.sq (.rg [⟨(some 2), none, .mv (.c (.slice none 0 0))⟩])
  (.sq (.sq (.rg [⟨(some 3), none, .mv (.t 0)⟩,
    ⟨(some 4), none, .nc (.t 3)⟩,
    ⟨(some 5), none, .fa (.t 4) 6⟩,
    ⟨(some 6), none, .ld (.t 5) 1 false⟩,
    ⟨(some 7), none, .nt (.t 6)⟩])
  (.cd (.t 7)
  (.sq (.rg [⟨(some 2), none, .mv (.c (.slice none 0 0))⟩])
  .rt)
  .sk))
  (.sq (.rg [⟨(some 8), none, .mv (.t 0)⟩,
    ⟨(some 9), none, .nc (.t 8)⟩,
    ⟨(some 10), none, .fa (.t 9) 5⟩,
    ⟨(some 11), none, .ld (.t 10) 1 false⟩,
    ⟨(some 12), none, .ap 53 3 1 8 [(.int .i64 0)] (.c (.slice none 0 0)) (.t 11)⟩,
    ⟨(some 2), none, .mv (.t 12)⟩])
  .rt)))⟩
theorem k168 : cF Tryz.prog Tryz.f168 = some c168 := by kernel_rfl
/-- rundale/rundaleref11.Later -/
def c169 : Fu := ⟨7, [.t 2],
  (.sq (.rg [⟨(some 2), none, .mv (.c (.int .i64 0))⟩])
  (.sq (.sq (.rg [⟨(some 3), none, .mv (.t 0)⟩,
    ⟨(some 4), none, .ib .geq (.t 3) (.c (.int .i64 4294967295))⟩])
  (.cd (.t 4)
  (.sq (.rg [⟨(some 2), none, .mv (.c (.int .i64 0))⟩])
  .rt)
  .sk))
  (.sq (.rg [⟨(some 5), none, .mv (.t 0)⟩,
    ⟨(some 6), none, .ib .add (.t 5) (.c (.int .i64 1))⟩,
    ⟨(some 2), none, .mv (.t 6)⟩])
  .rt)))⟩
theorem k169 : cF Tryz.prog Tryz.f169 = some c169 := by kernel_rfl
/-- rundale/bits.Get -/
def c170 : Fu := ⟨17, [.t 6],
  (.sq (.rg [⟨(some 6), none, .mv (.c (.int .u64 0))⟩])
  (.sq (.sq (.rg [⟨(some 7), none, .mv (.t 1)⟩,
    ⟨(some 8), none, .mv (.t 2)⟩,
    ⟨(some 9), none, .ca 225 [(.t 7), (.t 8)]⟩,
    ⟨(some 10), none, .nt (.t 9)⟩])
  (.cd (.t 10)
  (.sq (.rg [⟨(some 6), none, .mv (.c (.int .u64 0))⟩])
  .rt)
  .sk))
  (.sq (.rd [⟨0, 0, [0], ⟨(some 11), none, .mv (.t 0)⟩⟩,
    ⟨1, 0, [1], ⟨(some 12), none, .mv (.t 1)⟩⟩,
    ⟨2, 3, [11, 12], ⟨(some 13), none, .ib .shr (.t 11) (.t 12)⟩⟩,
    ⟨3, 0, [2], ⟨(some 14), none, .mv (.t 2)⟩⟩,
    ⟨4, 8, [14], ⟨(some 15), none, .ca 226 [(.t 14)]⟩⟩,
    ⟨5, 31, [13, 15], ⟨(some 16), none, .ib .and (.t 13) (.t 15)⟩⟩,
    ⟨6, 63, [16], ⟨(some 6), none, .mv (.t 16)⟩⟩])
  .rt)))⟩
theorem k170 : cF Tryz.prog Tryz.f170 = some c170 := by kernel_rfl
/-- rundale/word.GetHead -/
def c171 : Fu := ⟨11, [.c 2 2 true],
  (.sq (.rg [⟨(some 2), none, .al 238 [(.int .i64 0), (.int .i64 0)]⟩])
  (.sq (.rg [⟨(some 3), none, .mv (.t 0)⟩,
    ⟨(some 4), none, .ca 170 [(.t 3), (.c (.int .i64 0)), (.c (.int .i64 32))]⟩,
    ⟨(some 5), none, .cv .i64 (.t 4)⟩,
    ⟨(some 6), none, .ib .sub (.t 5) (.c (.int .i64 1))⟩,
    ⟨(some 7), none, .mv (.t 0)⟩,
    ⟨(some 8), none, .ca 170 [(.t 7), (.c (.int .i64 32)), (.c (.int .i64 32))]⟩,
    ⟨(some 9), none, .cv .i64 (.t 8)⟩,
    ⟨(some 10), none, .bd [(.int .i64 0), (.int .i64 0)] [(0, 1, (.t 6)), (1, 1, (.t 9))]⟩,
    ⟨none, none, .st (.t 2) (.t 10) 2⟩])
  .rt))⟩
theorem k171 : cF Tryz.prog Tryz.f171 = some c171 := by kernel_rfl
/-- rundale/rundaleref1.at -/
def c172 : Fu := ⟨24, [.t 8],
  (.sq (.rg [⟨(some 4), none, .bx 24 (.t 0)⟩,
    ⟨(some 8), none, .mv (.c (.int .i64 0))⟩])
  (.sq (.sq (.rg [⟨(some 9), none, .ld (.t 4) 6 true⟩,
    ⟨(some 10), none, .ca 185 [(.t 9)]⟩,
    ⟨(some 11), none, .nt (.t 10)⟩,
    ⟨(some 12), none, .mv (.t 11)⟩,
    ⟨(some 13), (some (12, false)), .mv (.t 3)⟩,
    ⟨(some 14), (some (12, false)), .ib .lss (.t 13) (.c (.int .i64 0))⟩,
    ⟨(some 15), none, .pk (.t 12) (.c (.bool true)) (.t 14)⟩,
    ⟨(some 16), none, .mv (.t 15)⟩,
    ⟨(some 17), (some (16, false)), .mv (.t 3)⟩,
    ⟨(some 18), (some (16, false)), .mv (.t 2)⟩,
    ⟨(some 19), (some (16, false)), .ib .geq (.t 17) (.t 18)⟩,
    ⟨(some 20), none, .pk (.t 16) (.c (.bool true)) (.t 19)⟩])
  (.cd (.t 20)
  (.sq (.rg [⟨(some 8), none, .mv (.c (.int .i64 (-1)))⟩])
  .rt)
  .sk))
  (.sq (.rg [⟨(some 21), none, .mv (.t 1)⟩,
    ⟨(some 22), none, .mv (.t 3)⟩,
    ⟨(some 23), none, .ib .add (.t 21) (.t 22)⟩,
    ⟨(some 8), none, .mv (.t 23)⟩])
  .rt)))⟩
theorem k172 : cF Tryz.prog Tryz.f172 = some c172 := by kernel_rfl
/-- rundale/rundaleref1.in -/
def c173 : Fu := ⟨15, [.t 6],
  (.sq (.rg [⟨(some 6), none, .mv (.c (.bool false))⟩])
  (.sq (.rg [⟨(some 7), none, .mv (.t 0)⟩,
    ⟨(some 8), none, .mv (.t 1)⟩,
    ⟨(some 9), none, .ib .geq (.t 7) (.t 8)⟩,
    ⟨(some 10), none, .mv (.t 9)⟩,
    ⟨(some 11), (some (10, true)), .mv (.t 0)⟩,
    ⟨(some 12), (some (10, true)), .mv (.t 2)⟩,
    ⟨(some 13), (some (10, true)), .ib .leq (.t 11) (.t 12)⟩,
    ⟨(some 14), none, .pk (.t 10) (.t 13) (.c (.bool false))⟩,
    ⟨(some 6), none, .mv (.t 14)⟩])
  .rt))⟩
theorem k173 : cF Tryz.prog Tryz.f173 = some c173 := by kernel_rfl
/-- (*rundale/roots.Roots).load -/
def c174 : Fu := ⟨25, [.t 4, .c 5 4 true],
  (.sq (.rg [⟨(some 4), none, .mv (.c (.int .u64 0))⟩,
    ⟨(some 5), none, .al 68 [(.int .i64 0), (.int .i64 0), (.int .i64 0), (.int .i64 0)]⟩])
  (.sq (.rd [⟨0, 0, [0], ⟨(some 9), none, .mv (.t 0)⟩⟩,
    ⟨1, 1, [9], ⟨(some 10), none, .nc (.t 9)⟩⟩,
    ⟨2, 3, [10], ⟨(some 11), none, .fa (.t 10) 0⟩⟩,
    ⟨3, 7, [11], ⟨(some 12), none, .ld (.t 11) 1 false⟩⟩,
    ⟨4, 0, [0], ⟨(some 13), none, .mv (.t 0)⟩⟩,
    ⟨5, 16, [13], ⟨(some 14), none, .nc (.t 13)⟩⟩,
    ⟨6, 48, [14], ⟨(some 15), none, .fa (.t 14) 1⟩⟩,
    ⟨7, 112, [15], ⟨(some 16), none, .ld (.t 15) 6 true⟩⟩,
    ⟨8, 0, [1], ⟨(some 17), none, .mv (.t 1)⟩⟩,
    ⟨9, 496, [16, 17], ⟨(some 18), none, .ca 94 [(.t 16), (.t 17)]⟩⟩,
    ⟨10, 1023, [12, 18], ⟨(some 19), none, .ca 151 [(.t 12), (.t 18)]⟩⟩,
    ⟨11, 2047, [19], ⟨(some 8), none, .mv (.t 19)⟩⟩,
    ⟨12, 4095, [8], ⟨(some 20), none, .ex (.t 8) 0⟩⟩,
    ⟨13, 4095, [8], ⟨(some 21), none, .ex (.t 8) 1⟩⟩,
    ⟨14, 8191, [20], ⟨(some 6), none, .mv (.t 20)⟩⟩,
    ⟨15, 32767, [21], ⟨(some 7), none, .mv (.t 21)⟩⟩])
  (.sq (.rg [⟨(some 22), none, .mv (.t 6)⟩,
    ⟨(some 23), none, .mv (.t 6)⟩,
    ⟨(some 24), none, .ca 93 [(.t 23)]⟩,
    ⟨(some 4), none, .mv (.t 22)⟩,
    ⟨none, none, .st (.t 5) (.t 24) 4⟩])
  .rt)))⟩
theorem k174 : cF Tryz.prog Tryz.f174 = some c174 := by kernel_rfl
/-- (*rundale/run.Machine).Count -/
def c175 : Fu := ⟨7, [.t 2],
  (.sq (.rg [⟨(some 2), none, .mv (.c (.int .i64 0))⟩])
  (.sq (.rg [⟨(some 3), none, .mv (.t 0)⟩,
    ⟨(some 4), none, .nc (.t 3)⟩,
    ⟨(some 5), none, .fa (.t 4) 4⟩,
    ⟨(some 6), none, .ld (.t 5) 1 false⟩,
    ⟨(some 2), none, .mv (.t 6)⟩])
  .rt))⟩
theorem k175 : cF Tryz.prog Tryz.f175 = some c175 := by kernel_rfl
/-- rundale/rundaleref1.May -/
def c185 : Fu := ⟨37, [.t 2],
  (.sq (.rg [⟨(some 1), none, .bx 24 (.t 0)⟩,
    ⟨(some 2), none, .mv (.c (.bool false))⟩])
  (.sq (.rg [⟨(some 3), none, .fa (.t 1) 0⟩,
    ⟨(some 4), none, .ld (.t 3) 1 false⟩,
    ⟨(some 5), none, .ca 173 [(.t 4), (.c (.int .i64 1)), (.c (.int .i64 64))]⟩,
    ⟨(some 6), none, .mv (.t 5)⟩,
    ⟨(some 7), (some (6, true)), .fa (.t 1) 1⟩,
    ⟨(some 8), (some (6, true)), .ld (.t 7) 1 false⟩,
    ⟨(some 9), (some (6, true)), .ca 173 [(.t 8), (.c (.int .i64 1)), (.c (.int .i64 4096))]⟩,
    ⟨(some 10), none, .pk (.t 6) (.t 9) (.c (.bool false))⟩,
    ⟨(some 11), none, .mv (.t 10)⟩,
    ⟨(some 12), (some (11, true)), .fa (.t 1) 2⟩,
    ⟨(some 13), (some (11, true)), .ld (.t 12) 1 false⟩,
    ⟨(some 14), (some (11, true)), .ca 173 [(.t 13), (.c (.int .i64 8)), (.c (.int .i64 1024))]⟩,
    ⟨(some 15), none, .pk (.t 11) (.t 14) (.c (.bool false))⟩,
    ⟨(some 16), none, .mv (.t 15)⟩,
    ⟨(some 17), (some (16, true)), .fa (.t 1) 2⟩,
    ⟨(some 18), (some (16, true)), .ld (.t 17) 1 false⟩,
    ⟨(some 19), (some (16, true)), .ib .rem (.t 18) (.c (.int .i64 8))⟩,
    ⟨(some 20), (some (16, true)), .ib .eql (.t 19) (.c (.int .i64 0))⟩,
    ⟨(some 21), none, .pk (.t 16) (.t 20) (.c (.bool false))⟩,
    ⟨(some 22), none, .mv (.t 21)⟩,
    ⟨(some 23), (some (22, true)), .fa (.t 1) 3⟩,
    ⟨(some 24), (some (22, true)), .ld (.t 23) 1 false⟩,
    ⟨(some 25), (some (22, true)), .ca 173 [(.t 24), (.c (.int .i64 1)), (.c (.int .i64 4096))]⟩,
    ⟨(some 26), none, .pk (.t 22) (.t 25) (.c (.bool false))⟩,
    ⟨(some 27), none, .mv (.t 26)⟩,
    ⟨(some 28), (some (27, true)), .fa (.t 1) 4⟩,
    ⟨(some 29), (some (27, true)), .ld (.t 28) 1 false⟩,
    ⟨(some 30), (some (27, true)), .ca 173 [(.t 29), (.c (.int .i64 0)), (.c (.int .i64 64))]⟩,
    ⟨(some 31), none, .pk (.t 27) (.t 30) (.c (.bool false))⟩,
    ⟨(some 32), none, .mv (.t 31)⟩,
    ⟨(some 33), (some (32, true)), .fa (.t 1) 5⟩,
    ⟨(some 34), (some (32, true)), .ld (.t 33) 1 false⟩,
    ⟨(some 35), (some (32, true)), .ca 173 [(.t 34), (.c (.int .i64 1)), (.c (.int .i64 8))]⟩,
    ⟨(some 36), none, .pk (.t 32) (.t 35) (.c (.bool false))⟩,
    ⟨(some 2), none, .mv (.t 36)⟩])
  .rt))⟩
theorem k185 : cF Tryz.prog Tryz.f185 = some c185 := by kernel_rfl
/-- (*rundale/supply.Give).Done -/
def c188 : Fu := ⟨7, [.t 2],
  (.sq (.rg [⟨(some 2), none, .mv (.c (.bool false))⟩])
  (.sq (.rg [⟨(some 3), none, .mv (.t 0)⟩,
    ⟨(some 4), none, .nc (.t 3)⟩,
    ⟨(some 5), none, .fa (.t 4) 0⟩,
    ⟨(some 6), none, .ca 92 [(.t 5)]⟩,
    ⟨(some 2), none, .mv (.t 6)⟩])
  .rt))⟩
theorem k188 : cF Tryz.prog Tryz.f188 = some c188 := by kernel_rfl
/-- slices.Clone[[]int,int] -/
def c189 : Fu := ⟨8, [.t 2],
  (.sq (.rg [⟨(some 2), none, .mv (.c (.slice none 0 0))⟩])
  (.sq (.sq (.rg [⟨(some 3), none, .mv (.t 0)⟩,
    ⟨(some 4), none, .en 1 false (.t 3) (.c (.slice none 0 0))⟩])
  (.cd (.t 4)
  (.sq (.rg [⟨(some 2), none, .mv (.c (.slice none 0 0))⟩])
  .rt)
  .sk))
  (.sq (.rg [⟨(some 5), none, .bs 3 0 [] []⟩,
    ⟨(some 6), none, .mv (.t 0)⟩,
    ⟨(some 7), none, .ap 53 3 1 8 [(.int .i64 0)] (.t 5) (.t 6)⟩,
    ⟨(some 2), none, .mv (.t 7)⟩])
  .rt)))⟩
theorem k189 : cF Tryz.prog Tryz.f189 = some c189 := by kernel_rfl
/-- (*rundale/run.Machine).on -/
def c190 : Fu := ⟨17, [],
  (.sq (.sq (.rg [⟨(some 2), none, .mv (.t 0)⟩,
    ⟨(some 3), none, .nc (.t 2)⟩,
    ⟨(some 4), none, .fa (.t 3) 2⟩,
    ⟨(some 5), none, .ld (.t 4) 1 false⟩,
    ⟨(some 6), none, .cl (.t 5) []⟩])
  (.cd (.t 6)
  (.sq (.rg [⟨(some 7), none, .mv (.t 0)⟩,
    ⟨(some 8), none, .nc (.t 7)⟩,
    ⟨(some 9), none, .fa (.t 8) 3⟩,
    ⟨(some 10), none, .ld (.t 9) 1 false⟩,
    ⟨(some 11), none, .cl (.t 10) []⟩])
  .rt)
  .sk))
  (.rg [⟨(some 12), none, .mv (.t 0)⟩,
    ⟨(some 13), none, .mv (.t 0)⟩,
    ⟨(some 14), none, .mf (.func 232) [(.t 13)] []⟩,
    ⟨(some 15), none, .nc (.t 12)⟩,
    ⟨(some 16), none, .fa (.t 15) 0⟩,
    ⟨none, none, .st (.t 16) (.t 14) 1⟩]))⟩
theorem k190 : cF Tryz.prog Tryz.f190 = some c190 := by kernel_rfl
/-- rundale/rundaleref5.next -/
def c195 : Fu := ⟨16, [.t 4],
  (.sq (.rg [⟨(some 4), none, .mv (.c (.int .u64 0))⟩])
  (.sq (.rg [⟨(some 8), none, .mv (.t 0)⟩,
    ⟨(some 9), none, .ca 200 [(.t 8)]⟩,
    ⟨(some 10), none, .mv (.t 1)⟩,
    ⟨(some 11), none, .ca 242 [(.t 9), (.t 10)]⟩,
    ⟨(some 12), none, .ca 204 [(.t 11)]⟩,
    ⟨(some 7), none, .mv (.t 12)⟩,
    ⟨(some 13), none, .ex (.t 7) 0⟩,
    ⟨(some 14), none, .ex (.t 7) 1⟩,
    ⟨(some 5), none, .mv (.t 13)⟩,
    ⟨(some 6), none, .mv (.t 14)⟩])
  (.sq (.rg [⟨(some 15), none, .mv (.t 5)⟩,
    ⟨(some 4), none, .mv (.t 15)⟩])
  .rt)))⟩
theorem k195 : cF Tryz.prog Tryz.f195 = some c195 := by kernel_rfl
/-- rundale/rundaleref1.GetHead -/
def c200 : Fu := ⟨11, [.c 2 2 true],
  (.sq (.rg [⟨(some 2), none, .al 264 [(.int .i64 0), (.int .i64 0)]⟩])
  (.sq (.rg [⟨(some 3), none, .mv (.t 0)⟩,
    ⟨(some 4), none, .ib .rem (.t 3) (.c (.int .u64 4294967296))⟩,
    ⟨(some 5), none, .cv .i64 (.t 4)⟩,
    ⟨(some 6), none, .ib .sub (.t 5) (.c (.int .i64 1))⟩,
    ⟨(some 7), none, .mv (.t 0)⟩,
    ⟨(some 8), none, .ib .quo (.t 7) (.c (.int .u64 4294967296))⟩,
    ⟨(some 9), none, .cv .i64 (.t 8)⟩,
    ⟨(some 10), none, .bd [(.int .i64 0), (.int .i64 0)] [(0, 1, (.t 6)), (1, 1, (.t 9))]⟩,
    ⟨none, none, .st (.t 2) (.t 10) 2⟩])
  .rt))⟩
theorem k200 : cF Tryz.prog Tryz.f200 = some c200 := by kernel_rfl
/-- (*rundale/limbo.bucket).open -/
def c201 : Fu := ⟨20, [.t 4],
  (.sq (.rg [⟨(some 4), none, .mv (.c (.bool false))⟩])
  (.sq (.rg [⟨(some 5), none, .mv (.t 0)⟩,
    ⟨(some 6), none, .nc (.t 5)⟩,
    ⟨(some 7), none, .fa (.t 6) 1⟩,
    ⟨(some 8), none, .ld (.t 7) 1 false⟩,
    ⟨(some 9), none, .len (.t 8)⟩,
    ⟨(some 10), none, .ib .gtr (.t 9) (.c (.int .i64 0))⟩,
    ⟨(some 11), none, .mv (.t 10)⟩,
    ⟨(some 12), (some (11, true)), .mv (.t 0)⟩,
    ⟨(some 13), (some (11, true)), .nc (.t 12)⟩,
    ⟨(some 14), (some (11, true)), .fa (.t 13) 0⟩,
    ⟨(some 15), (some (11, true)), .ld (.t 14) 1 false⟩,
    ⟨(some 16), (some (11, true)), .mv (.t 1)⟩,
    ⟨(some 17), (some (11, true)), .ib .sub (.t 16) (.c (.int .i64 2))⟩,
    ⟨(some 18), (some (11, true)), .ib .leq (.t 15) (.t 17)⟩,
    ⟨(some 19), none, .pk (.t 11) (.t 18) (.c (.bool false))⟩,
    ⟨(some 4), none, .mv (.t 19)⟩])
  .rt))⟩
theorem k201 : cF Tryz.prog Tryz.f201 = some c201 := by kernel_rfl
/-- rundale/stack.New$1 -/
def c202 : Fu := ⟨12, [.t 3],
  (.sq (.rg [⟨(some 3), none, .mv (.c (.bool false))⟩])
  (.sq (.rg [⟨(some 4), none, .mv (.t 0)⟩,
    ⟨(some 5), none, .ib .geq (.t 4) (.c (.int .i64 0))⟩,
    ⟨(some 6), none, .mv (.t 5)⟩,
    ⟨(some 7), (some (6, true)), .mv (.t 0)⟩,
    ⟨(some 8), (some (6, true)), .ld (.t 1) 1 false⟩,
    ⟨(some 9), (some (6, true)), .ca 137 [(.t 8)]⟩,
    ⟨(some 10), (some (6, true)), .ib .lss (.t 7) (.t 9)⟩,
    ⟨(some 11), none, .pk (.t 6) (.t 10) (.c (.bool false))⟩,
    ⟨(some 3), none, .mv (.t 11)⟩])
  .rt))⟩
theorem k202 : cF Tryz.prog Tryz.f202 = some c202 := by kernel_rfl
/-- rundale/word.PutHead -/
def c203 : Fu := ⟨31, [.t 2, .t 3],
  (.sq (.rg [⟨(some 1), none, .bx 238 (.t 0)⟩,
    ⟨(some 2), none, .mv (.c (.int .u64 0))⟩,
    ⟨(some 3), none, .mv (.c (.bool false))⟩])
  (.sq (.sq (.rg [⟨(some 6), none, .fa (.t 1) 0⟩,
    ⟨(some 7), none, .ld (.t 6) 1 false⟩,
    ⟨(some 8), none, .ca 243 [(.t 7), (.c (.int .i64 (-1))), (.c (.int .i64 4294967294))]⟩,
    ⟨(some 9), none, .nt (.t 8)⟩,
    ⟨(some 10), none, .mv (.t 9)⟩,
    ⟨(some 11), (some (10, false)), .fa (.t 1) 1⟩,
    ⟨(some 12), (some (10, false)), .ld (.t 11) 1 false⟩,
    ⟨(some 13), (some (10, false)), .ca 243 [(.t 12), (.c (.int .i64 0)), (.c (.int .i64 4294967295))]⟩,
    ⟨(some 14), (some (10, false)), .nt (.t 13)⟩,
    ⟨(some 15), none, .pk (.t 10) (.c (.bool true)) (.t 14)⟩])
  (.cd (.t 15)
  (.sq (.rg [⟨(some 2), none, .mv (.c (.int .u64 0))⟩,
    ⟨(some 3), none, .mv (.c (.bool false))⟩])
  .rt)
  .sk))
  (.sq (.rg [⟨(some 17), none, .fa (.t 1) 0⟩,
    ⟨(some 18), none, .ld (.t 17) 1 false⟩,
    ⟨(some 19), none, .ib .add (.t 18) (.c (.int .i64 1))⟩,
    ⟨(some 20), none, .cv .u64 (.t 19)⟩,
    ⟨(some 21), none, .ca 244 [(.c (.int .u64 0)), (.c (.int .i64 0)), (.c (.int .i64 32)), (.t 20)]⟩,
    ⟨(some 16), none, .mv (.t 21)⟩,
    ⟨(some 22), none, .ex (.t 16) 0⟩,
    ⟨(some 23), none, .ex (.t 16) 1⟩,
    ⟨(some 4), none, .mv (.t 22)⟩,
    ⟨(some 5), none, .mv (.t 23)⟩])
  (.sq (.rg [⟨(some 24), none, .mv (.t 4)⟩,
    ⟨(some 25), none, .fa (.t 1) 1⟩,
    ⟨(some 26), none, .ld (.t 25) 1 false⟩,
    ⟨(some 27), none, .cv .u64 (.t 26)⟩,
    ⟨(some 28), none, .ca 244 [(.t 24), (.c (.int .i64 32)), (.c (.int .i64 32)), (.t 27)]⟩,
    ⟨(some 29), none, .ex (.t 28) 0⟩,
    ⟨(some 30), none, .ex (.t 28) 1⟩,
    ⟨(some 2), none, .mv (.t 29)⟩,
    ⟨(some 3), none, .mv (.t 30)⟩])
  .rt))))⟩
theorem k203 : cF Tryz.prog Tryz.f203 = some c203 := by kernel_rfl
/-- rundale/rundaleref1.PutHead -/
def c204 : Fu := ⟨31, [.t 2, .t 3],
  (.sq (.rg [⟨(some 1), none, .bx 264 (.t 0)⟩,
    ⟨(some 2), none, .mv (.c (.int .u64 0))⟩,
    ⟨(some 3), none, .mv (.c (.bool false))⟩])
  (.sq (.sq (.rg [⟨(some 4), none, .fa (.t 1) 0⟩,
    ⟨(some 5), none, .ld (.t 4) 1 false⟩,
    ⟨(some 6), none, .ib .lss (.t 5) (.c (.int .i64 (-1)))⟩,
    ⟨(some 7), none, .mv (.t 6)⟩,
    ⟨(some 8), (some (7, false)), .fa (.t 1) 0⟩,
    ⟨(some 9), (some (7, false)), .ld (.t 8) 1 false⟩,
    ⟨(some 10), (some (7, false)), .ib .geq (.t 9) (.c (.int .i64 4294967295))⟩,
    ⟨(some 11), none, .pk (.t 7) (.c (.bool true)) (.t 10)⟩,
    ⟨(some 12), none, .mv (.t 11)⟩,
    ⟨(some 13), (some (12, false)), .fa (.t 1) 1⟩,
    ⟨(some 14), (some (12, false)), .ld (.t 13) 1 false⟩,
    ⟨(some 15), (some (12, false)), .ib .lss (.t 14) (.c (.int .i64 0))⟩,
    ⟨(some 16), none, .pk (.t 12) (.c (.bool true)) (.t 15)⟩,
    ⟨(some 17), none, .mv (.t 16)⟩,
    ⟨(some 18), (some (17, false)), .fa (.t 1) 1⟩,
    ⟨(some 19), (some (17, false)), .ld (.t 18) 1 false⟩,
    ⟨(some 20), (some (17, false)), .ib .gtr (.t 19) (.c (.int .i64 4294967295))⟩,
    ⟨(some 21), none, .pk (.t 17) (.c (.bool true)) (.t 20)⟩])
  (.cd (.t 21)
  (.sq (.rg [⟨(some 2), none, .mv (.c (.int .u64 0))⟩,
    ⟨(some 3), none, .mv (.c (.bool false))⟩])
  .rt)
  .sk))
  (.sq (.rg [⟨(some 22), none, .fa (.t 1) 1⟩,
    ⟨(some 23), none, .ld (.t 22) 1 false⟩,
    ⟨(some 24), none, .cv .u64 (.t 23)⟩,
    ⟨(some 25), none, .ib .mul (.t 24) (.c (.int .u64 4294967296))⟩,
    ⟨(some 26), none, .fa (.t 1) 0⟩,
    ⟨(some 27), none, .ld (.t 26) 1 false⟩,
    ⟨(some 28), none, .ib .add (.t 27) (.c (.int .i64 1))⟩,
    ⟨(some 29), none, .cv .u64 (.t 28)⟩,
    ⟨(some 30), none, .ib .add (.t 25) (.t 29)⟩,
    ⟨(some 2), none, .mv (.t 30)⟩,
    ⟨(some 3), none, .mv (.c (.bool true))⟩])
  .rt)))⟩
theorem k204 : cF Tryz.prog Tryz.f204 = some c204 := by kernel_rfl
/-- (*rundale/cells.Cells).stroke -/
def c205 : Fu := ⟨43, [.t 10],
  (.sq (.rg [⟨(some 10), none, .mv (.c (.int .u64 0))⟩])
  (.sq (.rg [⟨(some 12), none, .mv (.t 0)⟩,
    ⟨(some 13), none, .nc (.t 12)⟩,
    ⟨(some 14), none, .fa (.t 13) 0⟩,
    ⟨(some 15), none, .ld (.t 14) 1 false⟩,
    ⟨(some 16), none, .mv (.t 2)⟩,
    ⟨(some 17), none, .ia (.t 15) (.t 16) 1⟩,
    ⟨(some 18), none, .ld (.t 17) 1 false⟩,
    ⟨(some 11), none, .mv (.t 18)⟩])
  (.sq (.rg [⟨(some 19), none, .mv (.t 0)⟩,
    ⟨(some 20), none, .nc (.t 19)⟩,
    ⟨(some 21), none, .fa (.t 20) 0⟩,
    ⟨(some 22), none, .ld (.t 21) 1 false⟩,
    ⟨(some 23), none, .mv (.t 2)⟩,
    ⟨(some 24), none, .mv (.t 3)⟩,
    ⟨(some 25), none, .ia (.t 22) (.t 23) 1⟩,
    ⟨none, none, .st (.t 25) (.t 24) 1⟩])
  (.sq (.rg [⟨(some 26), none, .mv (.t 0)⟩,
    ⟨(some 27), none, .nc (.t 26)⟩,
    ⟨(some 28), none, .fa (.t 27) 1⟩,
    ⟨(some 29), none, .ld (.t 28) 1 false⟩,
    ⟨(some 30), none, .ib .add (.t 29) (.c (.int .i64 1))⟩,
    ⟨(some 31), none, .nc (.t 26)⟩,
    ⟨(some 32), none, .fa (.t 31) 1⟩,
    ⟨none, none, .st (.t 32) (.t 30) 1⟩])
  (.sq (.rg [⟨(some 33), none, .mv (.t 0)⟩,
    ⟨(some 34), none, .mv (.t 1)⟩,
    ⟨(some 35), none, .mv (.t 2)⟩,
    ⟨(some 36), none, .mv (.t 11)⟩,
    ⟨(some 37), none, .mv (.t 3)⟩,
    ⟨(some 38), none, .mv (.t 4)⟩,
    ⟨(some 39), none, .bd [(.int .i64 0), (.int .i64 0), (.int .u64 0), (.int .u64 0), (.bool false)] [(0, 1, (.t 34)), (1, 1, (.t 35)), (2, 1, (.t 36)), (3, 1, (.t 37)), (4, 1, (.t 38))]⟩,
    ⟨(some 40), none, .nc (.t 33)⟩,
    ⟨(some 41), none, .fa (.t 40) 2⟩,
    ⟨none, none, .st (.t 41) (.t 39) 5⟩])
  (.sq (.rg [⟨(some 42), none, .mv (.t 11)⟩,
    ⟨(some 10), none, .mv (.t 42)⟩])
  .rt))))))⟩
theorem k205 : cF Tryz.prog Tryz.f205 = some c205 := by kernel_rfl
/-- (*rundale/supply.Supply).Put -/
def c206 : Fu := ⟨10, [],
  (.rg [⟨(some 4), none, .mv (.t 0)⟩,
    ⟨(some 5), none, .nc (.t 4)⟩,
    ⟨(some 6), none, .fa (.t 5) 8⟩,
    ⟨(some 7), none, .ld (.t 6) 1 false⟩,
    ⟨(some 8), none, .mv (.t 1)⟩,
    ⟨(some 9), none, .ca 136 [(.t 7), (.t 8)]⟩])⟩
theorem k206 : cF Tryz.prog Tryz.f206 = some c206 := by kernel_rfl
/-- (*rundale/supply.Supply).Spill -/
def c207 : Fu := ⟨10, [.t 2],
  (.sq (.rg [⟨(some 2), none, .mv (.c (.pointer none))⟩])
  (.sq (.rg [⟨(some 3), none, .mv (.t 0)⟩,
    ⟨(some 4), none, .mv (.t 0)⟩,
    ⟨(some 5), none, .nc (.t 4)⟩,
    ⟨(some 6), none, .fa (.t 5) 8⟩,
    ⟨(some 7), none, .ld (.t 6) 1 false⟩,
    ⟨(some 8), none, .ca 246 [(.t 7)]⟩,
    ⟨(some 9), none, .ca 245 [(.t 3), (.t 8)]⟩,
    ⟨(some 2), none, .mv (.t 9)⟩])
  .rt))⟩
theorem k207 : cF Tryz.prog Tryz.f207 = some c207 := by kernel_rfl
/-- (*rundale/supply.Give).Step -/
def c208 : Fu := ⟨7, [.t 2],
  (.sq (.rg [⟨(some 2), none, .mv (.c (.bool false))⟩])
  (.sq (.rg [⟨(some 3), none, .mv (.t 0)⟩,
    ⟨(some 4), none, .nc (.t 3)⟩,
    ⟨(some 5), none, .fa (.t 4) 0⟩,
    ⟨(some 6), none, .ca 91 [(.t 5)]⟩,
    ⟨(some 2), none, .mv (.t 6)⟩])
  .rt))⟩
theorem k208 : cF Tryz.prog Tryz.f208 = some c208 := by kernel_rfl
/-- (*rundale/grant.Alloc).end -/
def c209 : Fu := ⟨2, [],
  .sk⟩
theorem k209 : cF Tryz.prog Tryz.f209 = some c209 := by kernel_rfl
/-- rundale/size.right -/
def c210 : Fu := ⟨20, [.t 4],
  (.sq (.rg [⟨(some 4), none, .mv (.c (.bool false))⟩])
  (.sq (.rg [⟨(some 5), none, .mv (.t 0)⟩,
    ⟨(some 6), none, .ib .geq (.t 5) (.c (.int .i64 1))⟩,
    ⟨(some 7), none, .mv (.t 6)⟩,
    ⟨(some 8), (some (7, true)), .mv (.t 0)⟩,
    ⟨(some 9), (some (7, true)), .ib .leq (.t 8) (.c (.int .i64 1024))⟩,
    ⟨(some 10), none, .pk (.t 7) (.t 9) (.c (.bool false))⟩,
    ⟨(some 11), none, .mv (.t 10)⟩,
    ⟨(some 12), (some (11, true)), .mv (.t 1)⟩,
    ⟨(some 13), (some (11, true)), .ib .geq (.t 12) (.c (.int .i64 1))⟩,
    ⟨(some 14), none, .pk (.t 11) (.t 13) (.c (.bool false))⟩,
    ⟨(some 15), none, .mv (.t 14)⟩,
    ⟨(some 16), (some (15, true)), .mv (.t 1)⟩,
    ⟨(some 17), (some (15, true)), .mv (.t 0)⟩,
    ⟨(some 18), (some (15, true)), .ib .leq (.t 16) (.t 17)⟩,
    ⟨(some 19), none, .pk (.t 15) (.t 18) (.c (.bool false))⟩,
    ⟨(some 4), none, .mv (.t 19)⟩])
  .rt))⟩
theorem k210 : cF Tryz.prog Tryz.f210 = some c210 := by kernel_rfl
/-- rundale/size.Alone -/
def c211 : Fu := ⟨14, [.t 4],
  (.sq (.rg [⟨(some 4), none, .mv (.c (.bool false))⟩])
  (.sq (.rg [⟨(some 5), none, .mv (.t 0)⟩,
    ⟨(some 6), none, .mv (.t 1)⟩,
    ⟨(some 7), none, .ca 210 [(.t 5), (.t 6)]⟩,
    ⟨(some 8), none, .mv (.t 7)⟩,
    ⟨(some 9), (some (8, true)), .mv (.t 1)⟩,
    ⟨(some 10), (some (8, true)), .ib .mul (.c (.int .i64 2)) (.t 9)⟩,
    ⟨(some 11), (some (8, true)), .mv (.t 0)⟩,
    ⟨(some 12), (some (8, true)), .ib .gtr (.t 10) (.t 11)⟩,
    ⟨(some 13), none, .pk (.t 8) (.t 12) (.c (.bool false))⟩,
    ⟨(some 4), none, .mv (.t 13)⟩])
  .rt))⟩
theorem k211 : cF Tryz.prog Tryz.f211 = some c211 := by kernel_rfl
/-- (*rundale/grant.Alloc).exchange -/
def c212 : Fu := ⟨45, [.t 4],
  (.sq (.rg [⟨(some 3), none, .bx 68 (.t 1)⟩,
    ⟨(some 4), none, .mv (.c (.bool false))⟩])
  (.sq (.rg [⟨(some 10), none, .ld (.t 3) 4 true⟩,
    ⟨(some 11), none, .ca 227 [(.t 10)]⟩,
    ⟨(some 9), none, .mv (.t 11)⟩,
    ⟨(some 12), none, .ex (.t 9) 0⟩,
    ⟨(some 13), none, .ex (.t 9) 1⟩,
    ⟨(some 5), none, .mv (.t 12)⟩,
    ⟨(some 6), none, .mv (.t 13)⟩])
  (.sq (.sq (.rg [⟨(some 14), none, .mv (.t 6)⟩,
    ⟨(some 15), none, .nt (.t 14)⟩])
  (.cd (.t 15)
  (.sq (.rg [⟨(some 4), none, .mv (.c (.bool false))⟩])
  .rt)
  .sk))
  (.sq (.rd [⟨0, 0, [0], ⟨(some 17), none, .mv (.t 0)⟩⟩,
    ⟨1, 1, [17], ⟨(some 18), none, .nc (.t 17)⟩⟩,
    ⟨2, 3, [18], ⟨(some 19), none, .fa (.t 18) 5⟩⟩,
    ⟨3, 7, [19], ⟨(some 20), none, .ld (.t 19) 1 false⟩⟩,
    ⟨4, 15, [20], ⟨(some 21), none, .nc (.t 20)⟩⟩,
    ⟨5, 31, [21], ⟨(some 22), none, .fa (.t 21) 0⟩⟩,
    ⟨6, 63, [22], ⟨(some 23), none, .ld (.t 22) 1 false⟩⟩,
    ⟨7, 0, [0], ⟨(some 24), none, .mv (.t 0)⟩⟩,
    ⟨8, 128, [24], ⟨(some 25), none, .nc (.t 24)⟩⟩,
    ⟨9, 384, [25], ⟨(some 26), none, .fa (.t 25) 5⟩⟩,
    ⟨10, 896, [26], ⟨(some 27), none, .ld (.t 26) 1 false⟩⟩,
    ⟨11, 1920, [27], ⟨(some 28), none, .nc (.t 27)⟩⟩,
    ⟨12, 3968, [28], ⟨(some 29), none, .fa (.t 28) 1⟩⟩,
    ⟨13, 8064, [29], ⟨(some 30), none, .ld (.t 29) 6 true⟩⟩,
    ⟨14, 0, [0], ⟨(some 31), none, .mv (.t 0)⟩⟩,
    ⟨15, 16384, [31], ⟨(some 32), none, .nc (.t 31)⟩⟩,
    ⟨16, 49152, [32], ⟨(some 33), none, .fa (.t 32) 7⟩⟩,
    ⟨17, 114688, [33], ⟨(some 34), none, .ld (.t 33) 1 false⟩⟩,
    ⟨18, 262016, [30, 34], ⟨(some 35), none, .ca 94 [(.t 30), (.t 34)]⟩⟩,
    ⟨19, 0, [0], ⟨(some 36), none, .mv (.t 0)⟩⟩,
    ⟨20, 524288, [36], ⟨(some 37), none, .nc (.t 36)⟩⟩,
    ⟨21, 1572864, [37], ⟨(some 38), none, .fa (.t 37) 16⟩⟩,
    ⟨22, 3670016, [38], ⟨(some 39), none, .ld (.t 38) 1 false⟩⟩,
    ⟨23, 0, [5], ⟨(some 40), none, .mv (.t 5)⟩⟩,
    ⟨24, 16777215, [23, 35, 39, 40], ⟨(some 41), none, .ca 228 [(.t 23), (.t 35), (.t 39), (.t 40)]⟩⟩,
    ⟨25, 33554431, [41], ⟨(some 16), none, .mv (.t 41)⟩⟩,
    ⟨26, 67108863, [16], ⟨(some 42), none, .ex (.t 16) 0⟩⟩,
    ⟨27, 67108863, [16], ⟨(some 43), none, .ex (.t 16) 1⟩⟩,
    ⟨28, 134217727, [42], ⟨(some 7), none, .mv (.t 42)⟩⟩,
    ⟨29, 536870911, [43], ⟨(some 8), none, .mv (.t 43)⟩⟩])
  (.sq (.rg [⟨(some 44), none, .mv (.t 7)⟩,
    ⟨(some 4), none, .mv (.t 44)⟩])
  .rt)))))⟩
theorem k212 : cF Tryz.prog Tryz.f212 = some c212 := by kernel_rfl
/-- rundale/word.Chunk -/
def c213 : Fu := ⟨9, [.t 2],
  (.sq (.rg [⟨(some 1), none, .bx 68 (.t 0)⟩,
    ⟨(some 2), none, .mv (.c (.int .i64 0))⟩])
  (.sq (.sq (.rg [⟨(some 3), none, .fa (.t 1) 1⟩,
    ⟨(some 4), none, .ld (.t 3) 1 false⟩,
    ⟨(some 5), none, .ib .lss (.t 4) (.c (.int .i64 2))⟩])
  (.cd (.t 5)
  (.sq (.rg [⟨(some 2), none, .mv (.c (.int .i64 (-1)))⟩])
  .rt)
  .sk))
  (.sq (.rg [⟨(some 6), none, .fa (.t 1) 1⟩,
    ⟨(some 7), none, .ld (.t 6) 1 false⟩,
    ⟨(some 8), none, .ib .sub (.t 7) (.c (.int .i64 2))⟩,
    ⟨(some 2), none, .mv (.t 8)⟩])
  .rt)))⟩
theorem k213 : cF Tryz.prog Tryz.f213 = some c213 := by kernel_rfl
/-- (*rundale/cells.Cells).Store -/
def c214 : Fu := ⟨15, [.t 6],
  (.sq (.rg [⟨(some 6), none, .mv (.c (.int .i64 0))⟩])
  (.sq (.sq (.rg [⟨(some 7), none, .mv (.t 0)⟩,
    ⟨(some 8), none, .mv (.t 1)⟩,
    ⟨(some 9), none, .ca 81 [(.t 7), (.t 8)]⟩,
    ⟨(some 10), none, .nt (.t 9)⟩])
  (.cd (.t 10)
  (.sq (.rg [⟨(some 6), none, .mv (.c (.int .i64 1))⟩])
  .rt)
  .sk))
  (.sq (.rg [⟨(some 11), none, .mv (.t 0)⟩,
    ⟨(some 12), none, .mv (.t 1)⟩,
    ⟨(some 13), none, .mv (.t 2)⟩,
    ⟨(some 14), none, .ca 205 [(.t 11), (.c (.int .i64 2)), (.t 12), (.t 13), (.c (.bool true))]⟩])
  (.sq (.rg [⟨(some 6), none, .mv (.c (.int .i64 0))⟩])
  .rt))))⟩
theorem k214 : cF Tryz.prog Tryz.f214 = some c214 := by kernel_rfl
/-- (*rundale/grant.Alloc).lead -/
def c215 : Fu := ⟨61, [],
  (.sq (.rg [⟨(some 4), none, .mv (.t 0)⟩,
    ⟨(some 5), none, .nc (.t 4)⟩,
    ⟨(some 6), none, .fa (.t 5) 17⟩,
    ⟨(some 7), none, .ld (.t 6) 4 true⟩,
    ⟨(some 2), none, .al 68 [(.int .i64 0), (.int .i64 0), (.int .i64 0), (.int .i64 0)]⟩,
    ⟨none, none, .st (.t 2) (.t 7) 4⟩])
  (.sq (.rd [⟨0, 0, [0], ⟨(some 8), none, .mv (.t 0)⟩⟩,
    ⟨1, 1, [8], ⟨(some 9), none, .nc (.t 8)⟩⟩,
    ⟨2, 3, [9], ⟨(some 10), none, .fa (.t 9) 10⟩⟩,
    ⟨3, 7, [10], ⟨(some 11), none, .ld (.t 10) 1 false⟩⟩,
    ⟨4, 15, [11], ⟨(some 12), none, .ib .add (.c (.int .i64 2)) (.t 11)⟩⟩,
    ⟨5, 0, [0], ⟨(some 13), none, .mv (.t 0)⟩⟩,
    ⟨6, 32, [13], ⟨(some 14), none, .nc (.t 13)⟩⟩,
    ⟨7, 96, [14], ⟨(some 15), none, .fa (.t 14) 5⟩⟩,
    ⟨8, 224, [15], ⟨(some 16), none, .ld (.t 15) 1 false⟩⟩,
    ⟨9, 480, [16], ⟨(some 17), none, .nc (.t 16)⟩⟩,
    ⟨10, 992, [17], ⟨(some 18), none, .fa (.t 17) 1⟩⟩,
    ⟨11, 2016, [18], ⟨(some 19), none, .fa (.t 18) 2⟩⟩,
    ⟨12, 4064, [19], ⟨(some 20), none, .ld (.t 19) 1 false⟩⟩,
    ⟨13, 0, [0], ⟨(some 21), none, .mv (.t 0)⟩⟩,
    ⟨14, 8192, [21], ⟨(some 22), none, .nc (.t 21)⟩⟩,
    ⟨15, 24576, [22], ⟨(some 23), none, .fa (.t 22) 14⟩⟩,
    ⟨16, 57344, [23], ⟨(some 24), none, .ld (.t 23) 1 false⟩⟩,
    ⟨17, 131040, [20, 24], ⟨(some 25), none, .ca 247 [(.t 20), (.t 24)]⟩⟩,
    ⟨18, 31, [2], ⟨(some 26), none, .fa (.t 2) 1⟩⟩,
    ⟨19, 524287, [26, 12], ⟨none, none, .st (.t 26) (.t 12) 1⟩⟩,
    ⟨20, 1048575, [2], ⟨(some 27), none, .fa (.t 2) 3⟩⟩,
    ⟨21, 2097151, [27, 25], ⟨none, none, .st (.t 27) (.t 25) 1⟩⟩])
  (.sq (.sq (.rg [⟨(some 28), none, .mv (.t 0)⟩,
    ⟨(some 29), none, .ld (.t 2) 4 true⟩,
    ⟨(some 30), none, .ca 212 [(.t 28), (.t 29)]⟩,
    ⟨(some 31), none, .nt (.t 30)⟩])
  (.cd (.t 31)
  (.sq (.rg [⟨(some 32), none, .mv (.t 0)⟩,
    ⟨(some 33), none, .nc (.t 32)⟩,
    ⟨(some 34), none, .fa (.t 33) 0⟩,
    ⟨(some 35), none, .mv (.t 0)⟩,
    ⟨(some 36), none, .mf (.func 80) [(.t 35)] []⟩,
    ⟨(some 37), none, .ca 79 [(.t 34), (.t 36)]⟩])
  .rt)
  .sk))
  (.sq (.rg [⟨(some 38), none, .mv (.t 0)⟩,
    ⟨(some 39), none, .nc (.t 38)⟩,
    ⟨(some 40), none, .fa (.t 39) 10⟩,
    ⟨(some 41), none, .ld (.t 40) 1 false⟩,
    ⟨(some 3), none, .mv (.t 41)⟩])
  (.sq (.rg [⟨(some 42), none, .mv (.t 0)⟩,
    ⟨(some 43), none, .nc (.t 42)⟩,
    ⟨(some 44), none, .fa (.t 43) 10⟩,
    ⟨none, none, .st (.t 44) (.c (.int .i64 (-1))) 1⟩])
  (.rd [⟨0, 0, [0], ⟨(some 45), none, .mv (.t 0)⟩⟩,
    ⟨1, 0, [0], ⟨(some 46), none, .mv (.t 0)⟩⟩,
    ⟨2, 2, [46], ⟨(some 47), none, .nc (.t 46)⟩⟩,
    ⟨3, 6, [47], ⟨(some 48), none, .fa (.t 47) 7⟩⟩,
    ⟨4, 14, [48], ⟨(some 49), none, .ld (.t 48) 1 false⟩⟩,
    ⟨5, 0, [0], ⟨(some 50), none, .mv (.t 0)⟩⟩,
    ⟨6, 32, [50], ⟨(some 51), none, .nc (.t 50)⟩⟩,
    ⟨7, 96, [51], ⟨(some 52), none, .fa (.t 51) 8⟩⟩,
    ⟨8, 224, [52], ⟨(some 53), none, .ld (.t 52) 1 false⟩⟩,
    ⟨9, 0, [3], ⟨(some 54), none, .mv (.t 3)⟩⟩,
    ⟨10, 0, [0], ⟨(some 55), none, .mv (.t 0)⟩⟩,
    ⟨11, 1024, [55], ⟨(some 56), none, .nc (.t 55)⟩⟩,
    ⟨12, 3072, [56], ⟨(some 57), none, .fa (.t 56) 9⟩⟩,
    ⟨13, 7168, [57], ⟨(some 58), none, .ld (.t 57) 1 false⟩⟩,
    ⟨14, 16382, [49, 53, 54, 58], ⟨(some 59), none, .bd [(.int .i64 0), (.int .i64 0), (.int .i64 0), (.int .i64 0), (.int .i64 0)] [(0, 1, (.t 49)), (1, 1, (.t 53)), (2, 1, (.t 54)), (4, 1, (.t 58))]⟩⟩,
    ⟨15, 32767, [45, 59], ⟨(some 60), none, .ca 153 [(.t 45), (.c (.int .i64 0)), (.t 59)]⟩⟩]))))))⟩
theorem k215 : cF Tryz.prog Tryz.f215 = some c215 := by kernel_rfl
/-- (*rundale/supply.Take).kept -/
def c216 : Fu := ⟨24, [.t 2],
  (.sq (.rg [⟨(some 2), none, .mv (.c (.bool false))⟩])
  (.sq (.rg [⟨(some 4), none, .mv (.t 0)⟩,
    ⟨(some 5), none, .mv (.t 0)⟩,
    ⟨(some 6), none, .mv (.t 0)⟩,
    ⟨(some 7), none, .nc (.t 6)⟩,
    ⟨(some 8), none, .fa (.t 7) 5⟩,
    ⟨(some 9), none, .ld (.t 8) 1 false⟩,
    ⟨(some 10), none, .nc (.t 9)⟩,
    ⟨(some 11), none, .fa (.t 10) 8⟩,
    ⟨(some 12), none, .ld (.t 11) 1 false⟩,
    ⟨(some 13), none, .ca 248 [(.t 12)]⟩,
    ⟨(some 3), none, .mv (.t 13)⟩,
    ⟨(some 14), none, .ex (.t 3) 0⟩,
    ⟨(some 15), none, .ex (.t 3) 1⟩,
    ⟨(some 16), none, .nc (.t 4)⟩,
    ⟨(some 17), none, .fa (.t 16) 7⟩,
    ⟨none, none, .st (.t 17) (.t 14) 1⟩,
    ⟨(some 18), none, .nc (.t 5)⟩,
    ⟨(some 19), none, .fa (.t 18) 9⟩,
    ⟨none, none, .st (.t 19) (.t 15) 1⟩])
  (.sq (.rg [⟨(some 20), none, .mv (.t 0)⟩,
    ⟨(some 21), none, .nc (.t 20)⟩,
    ⟨(some 22), none, .fa (.t 21) 9⟩,
    ⟨(some 23), none, .ld (.t 22) 1 false⟩,
    ⟨(some 2), none, .mv (.t 23)⟩])
  .rt)))⟩
theorem k216 : cF Tryz.prog Tryz.f216 = some c216 := by kernel_rfl
/-- (*rundale/limbo.Limbo).Len -/
def c217 : Fu := ⟨20, [.t 2],
  (.sq (.rg [⟨(some 2), none, .mv (.c (.int .i64 0))⟩])
  (.sq (.rg [⟨(some 3), none, .mv (.c (.int .i64 0))⟩])
  (.sq (.sq (.rg [⟨(some 6), none, .mv (.t 0)⟩,
    ⟨(some 7), none, .nc (.t 6)⟩,
    ⟨(some 8), none, .fa (.t 7) 0⟩,
    ⟨(some 9), none, .ld (.t 8) 6 true⟩,
    ⟨(some 10), none, .mv (.c (.int .i64 0))⟩])
  (.bl 0
  (.lp
  (.sq (.rg [⟨(some 11), none, .ib .lss (.t 10) (.c (.int .i64 3))⟩])
  (.sq (.cd (.t 11)
  .sk
  (.ex 0))
  (.sq (.bl 1
  (.sq (.rg [⟨(some 12), none, .iv (.t 9) (.t 10) 3 2 true⟩,
    ⟨(some 5), none, .al 252 [(.int .i64 0), (.slice none 0 0)]⟩,
    ⟨none, none, .st (.t 5) (.t 12) 2⟩])
  (.rg [⟨(some 13), none, .mv (.t 3)⟩,
    ⟨(some 14), none, .fa (.t 5) 1⟩,
    ⟨(some 15), none, .ld (.t 14) 1 false⟩,
    ⟨(some 16), none, .len (.t 15)⟩,
    ⟨(some 17), none, .ib .add (.t 13) (.t 16)⟩,
    ⟨(some 3), none, .mv (.t 17)⟩])))
  (.rg [⟨(some 18), none, .ib .add (.t 10) (.c (.int .i64 1))⟩,
    ⟨(some 10), none, .mv (.t 18)⟩])))))))
  (.sq (.rg [⟨(some 19), none, .mv (.t 3)⟩,
    ⟨(some 2), none, .mv (.t 19)⟩])
  .rt))))⟩
theorem k217 : cF Tryz.prog Tryz.f217 = some c217 := by kernel_rfl
/-- (*rundale/supply.Take).look -/
def c218 : Fu := ⟨34, [],
  (.sq (.rg [⟨(some 5), none, .mv (.t 0)⟩,
    ⟨(some 6), none, .nc (.t 5)⟩,
    ⟨(some 7), none, .fa (.t 6) 5⟩,
    ⟨(some 8), none, .ld (.t 7) 1 false⟩,
    ⟨(some 9), none, .nc (.t 8)⟩,
    ⟨(some 10), none, .fa (.t 9) 0⟩,
    ⟨(some 11), none, .ld (.t 10) 1 false⟩,
    ⟨(some 12), none, .ca 151 [(.t 11), (.c (.int .i64 2))]⟩,
    ⟨(some 4), none, .mv (.t 12)⟩,
    ⟨(some 13), none, .ex (.t 4) 0⟩,
    ⟨(some 14), none, .ex (.t 4) 1⟩,
    ⟨(some 2), none, .mv (.t 13)⟩,
    ⟨(some 3), none, .mv (.t 14)⟩])
  (.sq (.rg [⟨(some 15), none, .mv (.t 0)⟩,
    ⟨(some 16), none, .mv (.t 2)⟩,
    ⟨(some 17), none, .ca 233 [(.t 16)]⟩,
    ⟨(some 18), none, .nc (.t 15)⟩,
    ⟨(some 19), none, .fa (.t 18) 8⟩,
    ⟨none, none, .st (.t 19) (.t 17) 1⟩])
  (.sq (.rd [⟨0, 0, [0], ⟨(some 20), none, .mv (.t 0)⟩⟩,
    ⟨1, 1, [20], ⟨(some 21), none, .nc (.t 20)⟩⟩,
    ⟨2, 3, [21], ⟨(some 22), none, .fa (.t 21) 5⟩⟩,
    ⟨3, 7, [22], ⟨(some 23), none, .ld (.t 22) 1 false⟩⟩,
    ⟨4, 0, [0], ⟨(some 24), none, .mv (.t 0)⟩⟩,
    ⟨5, 16, [24], ⟨(some 25), none, .nc (.t 24)⟩⟩,
    ⟨6, 48, [25], ⟨(some 26), none, .fa (.t 25) 8⟩⟩,
    ⟨7, 112, [26], ⟨(some 27), none, .ld (.t 26) 1 false⟩⟩,
    ⟨8, 255, [23, 27], ⟨(some 28), none, .ca 67 [(.t 23), (.t 27)]⟩⟩])
  (.sq (.rg [⟨(some 29), none, .mv (.t 0)⟩,
    ⟨(some 30), none, .ca 216 [(.t 29)]⟩,
    ⟨(some 31), none, .nt (.t 30)⟩])
  (.cd (.t 31)
  (.rg [⟨(some 32), none, .mv (.t 0)⟩,
    ⟨(some 33), none, .ca 219 [(.t 32)]⟩])
  .sk)))))⟩
theorem k218 : cF Tryz.prog Tryz.f218 = some c218 := by kernel_rfl
/-- (*rundale/supply.Take).ask -/
def c219 : Fu := ⟨37, [],
  (.sq (.rd [⟨0, 0, [0], ⟨(some 2), none, .mv (.t 0)⟩⟩,
    ⟨1, 0, [0], ⟨(some 3), none, .mv (.t 0)⟩⟩,
    ⟨2, 2, [3], ⟨(some 4), none, .nc (.t 3)⟩⟩,
    ⟨3, 6, [4], ⟨(some 5), none, .fa (.t 4) 5⟩⟩,
    ⟨4, 14, [5], ⟨(some 6), none, .ld (.t 5) 1 false⟩⟩,
    ⟨5, 30, [6], ⟨(some 7), none, .nc (.t 6)⟩⟩,
    ⟨6, 62, [7], ⟨(some 8), none, .fa (.t 7) 7⟩⟩,
    ⟨7, 126, [8], ⟨(some 9), none, .ld (.t 8) 1 false⟩⟩,
    ⟨8, 0, [0], ⟨(some 10), none, .mv (.t 0)⟩⟩,
    ⟨9, 256, [10], ⟨(some 11), none, .nc (.t 10)⟩⟩,
    ⟨10, 768, [11], ⟨(some 12), none, .fa (.t 11) 5⟩⟩,
    ⟨11, 1792, [12], ⟨(some 13), none, .ld (.t 12) 1 false⟩⟩,
    ⟨12, 3840, [13], ⟨(some 14), none, .nc (.t 13)⟩⟩,
    ⟨13, 7936, [14], ⟨(some 15), none, .fa (.t 14) 1⟩⟩,
    ⟨14, 16128, [15], ⟨(some 16), none, .fa (.t 15) 5⟩⟩,
    ⟨15, 32512, [16], ⟨(some 17), none, .ld (.t 16) 1 false⟩⟩,
    ⟨16, 65534, [9, 17], ⟨(some 18), none, .ca 162 [(.t 9), (.t 17)]⟩⟩,
    ⟨17, 131071, [2], ⟨(some 19), none, .nc (.t 2)⟩⟩,
    ⟨18, 262143, [19], ⟨(some 20), none, .fa (.t 19) 6⟩⟩,
    ⟨19, 524287, [20, 18], ⟨none, none, .st (.t 20) (.t 18) 1⟩⟩])
  (.rd [⟨0, 0, [0], ⟨(some 21), none, .mv (.t 0)⟩⟩,
    ⟨1, 1, [21], ⟨(some 22), none, .nc (.t 21)⟩⟩,
    ⟨2, 3, [22], ⟨(some 23), none, .fa (.t 22) 0⟩⟩,
    ⟨3, 0, [0], ⟨(some 24), none, .mv (.t 0)⟩⟩,
    ⟨4, 8, [24], ⟨(some 25), none, .nc (.t 24)⟩⟩,
    ⟨5, 24, [25], ⟨(some 26), none, .fa (.t 25) 6⟩⟩,
    ⟨6, 56, [26], ⟨(some 27), none, .ld (.t 26) 1 false⟩⟩,
    ⟨7, 120, [27], ⟨(some 28), none, .mf (.func 163) [(.t 27)] []⟩⟩,
    ⟨8, 0, [0], ⟨(some 29), none, .mv (.t 0)⟩⟩,
    ⟨9, 256, [29], ⟨(some 30), none, .nc (.t 29)⟩⟩,
    ⟨10, 768, [30], ⟨(some 31), none, .fa (.t 30) 6⟩⟩,
    ⟨11, 1792, [31], ⟨(some 32), none, .ld (.t 31) 1 false⟩⟩,
    ⟨12, 3840, [32], ⟨(some 33), none, .mf (.func 164) [(.t 32)] []⟩⟩,
    ⟨13, 0, [0], ⟨(some 34), none, .mv (.t 0)⟩⟩,
    ⟨14, 8192, [34], ⟨(some 35), none, .mf (.func 249) [(.t 34)] []⟩⟩,
    ⟨15, 32767, [23, 28, 33, 35], ⟨(some 36), none, .ca 119 [(.t 23), (.t 28), (.t 33), (.t 35)]⟩⟩]))⟩
theorem k219 : cF Tryz.prog Tryz.f219 = some c219 := by kernel_rfl
/-- (*rundale/supply.Take).Chunk -/
def c220 : Fu := ⟨15, [.t 2, .t 3],
  (.sq (.rg [⟨(some 2), none, .mv (.c (.int .i64 0))⟩,
    ⟨(some 3), none, .mv (.c (.bool false))⟩])
  (.sq (.sq (.rg [⟨(some 4), none, .mv (.t 0)⟩,
    ⟨(some 5), none, .ca 160 [(.t 4)]⟩,
    ⟨(some 6), none, .nt (.t 5)⟩])
  (.cd (.t 6)
  (.sq (.rg [⟨(some 2), none, .mv (.c (.int .i64 0))⟩,
    ⟨(some 3), none, .mv (.c (.bool false))⟩])
  .rt)
  .sk))
  (.sq (.rd [⟨0, 0, [0], ⟨(some 7), none, .mv (.t 0)⟩⟩,
    ⟨1, 1, [7], ⟨(some 8), none, .nc (.t 7)⟩⟩,
    ⟨2, 3, [8], ⟨(some 9), none, .fa (.t 8) 7⟩⟩,
    ⟨3, 7, [9], ⟨(some 10), none, .ld (.t 9) 1 false⟩⟩,
    ⟨4, 0, [0], ⟨(some 11), none, .mv (.t 0)⟩⟩,
    ⟨5, 16, [11], ⟨(some 12), none, .nc (.t 11)⟩⟩,
    ⟨6, 48, [12], ⟨(some 13), none, .fa (.t 12) 9⟩⟩,
    ⟨7, 112, [13], ⟨(some 14), none, .ld (.t 13) 1 false⟩⟩,
    ⟨8, 15, [10], ⟨(some 2), none, .mv (.t 10)⟩⟩,
    ⟨9, 511, [14], ⟨(some 3), none, .mv (.t 14)⟩⟩])
  .rt)))⟩
theorem k220 : cF Tryz.prog Tryz.f220 = some c220 := by kernel_rfl
/-- (*rundale/grant.Alloc).clear -/
def c221 : Fu := ⟨58, [],
  (.sq (.rd [⟨0, 0, [0], ⟨(some 2), none, .mv (.t 0)⟩⟩,
    ⟨1, 1, [2], ⟨(some 3), none, .nc (.t 2)⟩⟩,
    ⟨2, 3, [3], ⟨(some 4), none, .fa (.t 3) 5⟩⟩,
    ⟨3, 7, [4], ⟨(some 5), none, .ld (.t 4) 1 false⟩⟩,
    ⟨4, 15, [5], ⟨(some 6), none, .nc (.t 5)⟩⟩,
    ⟨5, 31, [6], ⟨(some 7), none, .fa (.t 6) 0⟩⟩,
    ⟨6, 63, [7], ⟨(some 8), none, .ld (.t 7) 1 false⟩⟩,
    ⟨7, 0, [0], ⟨(some 9), none, .mv (.t 0)⟩⟩,
    ⟨8, 128, [9], ⟨(some 10), none, .nc (.t 9)⟩⟩,
    ⟨9, 384, [10], ⟨(some 11), none, .fa (.t 10) 5⟩⟩,
    ⟨10, 896, [11], ⟨(some 12), none, .ld (.t 11) 1 false⟩⟩,
    ⟨11, 1920, [12], ⟨(some 13), none, .nc (.t 12)⟩⟩,
    ⟨12, 3968, [13], ⟨(some 14), none, .fa (.t 13) 1⟩⟩,
    ⟨13, 8064, [14], ⟨(some 15), none, .ld (.t 14) 6 true⟩⟩,
    ⟨14, 0, [0], ⟨(some 16), none, .mv (.t 0)⟩⟩,
    ⟨15, 16384, [16], ⟨(some 17), none, .nc (.t 16)⟩⟩,
    ⟨16, 49152, [17], ⟨(some 18), none, .fa (.t 17) 10⟩⟩,
    ⟨17, 114688, [18], ⟨(some 19), none, .ld (.t 18) 1 false⟩⟩,
    ⟨18, 0, [0], ⟨(some 20), none, .mv (.t 0)⟩⟩,
    ⟨19, 262144, [20], ⟨(some 21), none, .nc (.t 20)⟩⟩,
    ⟨20, 786432, [21], ⟨(some 22), none, .fa (.t 21) 11⟩⟩,
    ⟨21, 1835008, [22], ⟨(some 23), none, .ld (.t 22) 1 false⟩⟩,
    ⟨22, 4194176, [15, 19, 23], ⟨(some 24), none, .ca 24 [(.t 15), (.t 19), (.t 23)]⟩⟩,
    ⟨23, 8388607, [8, 24], ⟨(some 25), none, .ca 214 [(.t 8), (.t 24), (.c (.int .u64 0))]⟩⟩])
  (.sq (.rg [⟨(some 26), none, .mv (.t 0)⟩,
    ⟨(some 27), none, .nc (.t 26)⟩,
    ⟨(some 28), none, .fa (.t 27) 11⟩,
    ⟨(some 29), none, .ld (.t 28) 1 false⟩,
    ⟨(some 30), none, .ib .add (.t 29) (.c (.int .i64 1))⟩,
    ⟨(some 31), none, .nc (.t 26)⟩,
    ⟨(some 32), none, .fa (.t 31) 11⟩,
    ⟨none, none, .st (.t 32) (.t 30) 1⟩])
  (.sq (.rd [⟨0, 0, [0], ⟨(some 33), none, .mv (.t 0)⟩⟩,
    ⟨1, 1, [33], ⟨(some 34), none, .nc (.t 33)⟩⟩,
    ⟨2, 3, [34], ⟨(some 35), none, .fa (.t 34) 11⟩⟩,
    ⟨3, 7, [35], ⟨(some 36), none, .ld (.t 35) 1 false⟩⟩,
    ⟨4, 0, [0], ⟨(some 37), none, .mv (.t 0)⟩⟩,
    ⟨5, 16, [37], ⟨(some 38), none, .nc (.t 37)⟩⟩,
    ⟨6, 48, [38], ⟨(some 39), none, .fa (.t 38) 5⟩⟩,
    ⟨7, 112, [39], ⟨(some 40), none, .ld (.t 39) 1 false⟩⟩,
    ⟨8, 240, [40], ⟨(some 41), none, .nc (.t 40)⟩⟩,
    ⟨9, 496, [41], ⟨(some 42), none, .fa (.t 41) 1⟩⟩,
    ⟨10, 1008, [42], ⟨(some 43), none, .fa (.t 42) 2⟩⟩,
    ⟨11, 2032, [43], ⟨(some 44), none, .ld (.t 43) 1 false⟩⟩,
    ⟨12, 4095, [36, 44], ⟨(some 45), none, .ib .lss (.t 36) (.t 44)⟩⟩])
  (.cd (.t 45)
  (.rg [⟨(some 46), none, .mv (.t 0)⟩,
    ⟨(some 47), none, .nc (.t 46)⟩,
    ⟨(some 48), none, .fa (.t 47) 0⟩,
    ⟨(some 49), none, .mv (.t 0)⟩,
    ⟨(some 50), none, .mf (.func 221) [(.t 49)] []⟩,
    ⟨(some 51), none, .ca 79 [(.t 48), (.t 50)]⟩])
  (.rg [⟨(some 52), none, .mv (.t 0)⟩,
    ⟨(some 53), none, .nc (.t 52)⟩,
    ⟨(some 54), none, .fa (.t 53) 0⟩,
    ⟨(some 55), none, .mv (.t 0)⟩,
    ⟨(some 56), none, .mf (.func 157) [(.t 55)] []⟩,
    ⟨(some 57), none, .ca 79 [(.t 54), (.t 56)]⟩])))))⟩
theorem k221 : cF Tryz.prog Tryz.f221 = some c221 := by kernel_rfl
/-- (*rundale/stack.Pop).load -/
def c222 : Fu := ⟨54, [],
  (.sq (.rd [⟨0, 0, [0], ⟨(some 4), none, .mv (.t 0)⟩⟩,
    ⟨1, 0, [0], ⟨(some 5), none, .mv (.t 0)⟩⟩,
    ⟨2, 2, [5], ⟨(some 6), none, .nc (.t 5)⟩⟩,
    ⟨3, 6, [6], ⟨(some 7), none, .fa (.t 6) 5⟩⟩,
    ⟨4, 14, [7], ⟨(some 8), none, .ld (.t 7) 1 false⟩⟩,
    ⟨5, 30, [8], ⟨(some 9), none, .nc (.t 8)⟩⟩,
    ⟨6, 62, [9], ⟨(some 10), none, .fa (.t 9) 0⟩⟩,
    ⟨7, 126, [10], ⟨(some 11), none, .ld (.t 10) 1 false⟩⟩,
    ⟨8, 0, [0], ⟨(some 12), none, .mv (.t 0)⟩⟩,
    ⟨9, 256, [12], ⟨(some 13), none, .nc (.t 12)⟩⟩,
    ⟨10, 768, [13], ⟨(some 14), none, .fa (.t 13) 5⟩⟩,
    ⟨11, 1792, [14], ⟨(some 15), none, .ld (.t 14) 1 false⟩⟩,
    ⟨12, 3840, [15], ⟨(some 16), none, .nc (.t 15)⟩⟩,
    ⟨13, 7936, [16], ⟨(some 17), none, .fa (.t 16) 1⟩⟩,
    ⟨14, 16128, [17], ⟨(some 18), none, .ld (.t 17) 1 false⟩⟩,
    ⟨15, 32766, [11, 18], ⟨(some 19), none, .ca 151 [(.t 11), (.t 18)]⟩⟩,
    ⟨16, 65534, [19], ⟨(some 3), none, .mv (.t 19)⟩⟩,
    ⟨17, 131070, [3], ⟨(some 20), none, .ex (.t 3) 0⟩⟩,
    ⟨18, 131070, [3], ⟨(some 21), none, .ex (.t 3) 1⟩⟩,
    ⟨19, 262143, [4], ⟨(some 22), none, .nc (.t 4)⟩⟩,
    ⟨20, 786431, [22], ⟨(some 23), none, .fa (.t 22) 8⟩⟩,
    ⟨21, 1835007, [23, 20], ⟨none, none, .st (.t 23) (.t 20) 1⟩⟩])
  (.sq (.rg [⟨(some 24), none, .mv (.t 0)⟩,
    ⟨(some 25), none, .nc (.t 24)⟩,
    ⟨(some 26), none, .fa (.t 25) 9⟩,
    ⟨none, none, .st (.t 26) (.c (.slice none 0 0)) 1⟩])
  (.sq (.rd [⟨0, 0, [0], ⟨(some 27), none, .mv (.t 0)⟩⟩,
    ⟨1, 1, [27], ⟨(some 28), none, .nc (.t 27)⟩⟩,
    ⟨2, 3, [28], ⟨(some 29), none, .fa (.t 28) 5⟩⟩,
    ⟨3, 7, [29], ⟨(some 30), none, .ld (.t 29) 1 false⟩⟩,
    ⟨4, 0, [0], ⟨(some 31), none, .mv (.t 0)⟩⟩,
    ⟨5, 16, [31], ⟨(some 32), none, .nc (.t 31)⟩⟩,
    ⟨6, 48, [32], ⟨(some 33), none, .fa (.t 32) 8⟩⟩,
    ⟨7, 112, [33], ⟨(some 34), none, .ld (.t 33) 1 false⟩⟩,
    ⟨8, 255, [30, 34], ⟨(some 35), none, .ca 95 [(.t 30), (.t 34)]⟩⟩,
    ⟨9, 511, [35], ⟨(some 2), none, .mv (.t 35)⟩⟩])
  (.sq (.rg [⟨(some 36), none, .mv (.t 2)⟩,
    ⟨(some 37), none, .ib .geq (.t 36) (.c (.int .i64 0))⟩])
  (.cd (.t 37)
  (.sq (.rg [⟨(some 38), none, .mv (.t 0)⟩,
    ⟨(some 39), none, .mv (.t 0)⟩,
    ⟨(some 40), none, .nc (.t 39)⟩,
    ⟨(some 41), none, .fa (.t 40) 9⟩,
    ⟨(some 42), none, .ld (.t 41) 1 false⟩,
    ⟨(some 43), none, .mv (.t 2)⟩,
    ⟨(some 44), none, .bs 3 1 [(.int .i64 0)] [(0, 1, (.t 43))]⟩,
    ⟨(some 45), none, .ap 53 3 1 8 [(.int .i64 0)] (.t 42) (.t 44)⟩,
    ⟨(some 46), none, .nc (.t 38)⟩,
    ⟨(some 47), none, .fa (.t 46) 9⟩,
    ⟨none, none, .st (.t 47) (.t 45) 1⟩])
  (.rg [⟨(some 48), none, .mv (.t 0)⟩,
    ⟨(some 49), none, .nc (.t 48)⟩,
    ⟨(some 50), none, .fa (.t 49) 0⟩,
    ⟨(some 51), none, .mv (.t 0)⟩,
    ⟨(some 52), none, .mf (.func 250) [(.t 51)] []⟩,
    ⟨(some 53), none, .ca 79 [(.t 50), (.t 52)]⟩]))
  .sk)))))⟩
theorem k222 : cF Tryz.prog Tryz.f222 = some c222 := by kernel_rfl
/-- (*rundale/stack.Pop).Got -/
def c223 : Fu := ⟨11, [.t 2],
  (.sq (.rg [⟨(some 2), none, .mv (.c (.slice none 0 0))⟩])
  (.sq (.sq (.rg [⟨(some 3), none, .mv (.t 0)⟩,
    ⟨(some 4), none, .ca 164 [(.t 3)]⟩,
    ⟨(some 5), none, .nt (.t 4)⟩])
  (.cd (.t 5)
  (.sq (.rg [⟨(some 2), none, .mv (.c (.slice none 0 0))⟩])
  .rt)
  .sk))
  (.sq (.rg [⟨(some 6), none, .mv (.t 0)⟩,
    ⟨(some 7), none, .nc (.t 6)⟩,
    ⟨(some 8), none, .fa (.t 7) 9⟩,
    ⟨(some 9), none, .ld (.t 8) 1 false⟩,
    ⟨(some 10), none, .ca 189 [(.t 9)]⟩,
    ⟨(some 2), none, .mv (.t 10)⟩])
  .rt)))⟩
theorem k223 : cF Tryz.prog Tryz.f223 = some c223 := by kernel_rfl
/-- (*rundale/roots.Create).load -/
def c224 : Fu := ⟨28, [],
  (.sq (.rd [⟨0, 0, [0], ⟨(some 5), none, .mv (.t 0)⟩⟩,
    ⟨1, 1, [5], ⟨(some 6), none, .nc (.t 5)⟩⟩,
    ⟨2, 3, [6], ⟨(some 7), none, .fa (.t 6) 5⟩⟩,
    ⟨3, 7, [7], ⟨(some 8), none, .ld (.t 7) 1 false⟩⟩,
    ⟨4, 0, [0], ⟨(some 9), none, .mv (.t 0)⟩⟩,
    ⟨5, 16, [9], ⟨(some 10), none, .nc (.t 9)⟩⟩,
    ⟨6, 48, [10], ⟨(some 11), none, .fa (.t 10) 8⟩⟩,
    ⟨7, 112, [11], ⟨(some 12), none, .ld (.t 11) 1 false⟩⟩,
    ⟨8, 255, [8, 12], ⟨(some 13), none, .ca 174 [(.t 8), (.t 12)]⟩⟩,
    ⟨9, 511, [13], ⟨(some 4), none, .mv (.t 13)⟩⟩,
    ⟨10, 1023, [4], ⟨(some 14), none, .ex (.t 4) 0⟩⟩,
    ⟨11, 1023, [4], ⟨(some 15), none, .ex (.t 4) 1⟩⟩,
    ⟨12, 0, [], ⟨(some 3), none, .al 68 [(.int .i64 0), (.int .i64 0), (.int .i64 0), (.int .i64 0)]⟩⟩,
    ⟨13, 6143, [14], ⟨(some 2), none, .mv (.t 14)⟩⟩,
    ⟨14, 16383, [3, 15], ⟨none, none, .st (.t 3) (.t 15) 4⟩⟩])
  (.sq (.rg [⟨(some 16), none, .mv (.t 0)⟩,
    ⟨(some 17), none, .mv (.t 0)⟩,
    ⟨(some 18), none, .ld (.t 3) 4 true⟩,
    ⟨(some 19), none, .ca 251 [(.t 17), (.t 18)]⟩,
    ⟨(some 20), none, .nc (.t 16)⟩,
    ⟨(some 21), none, .fa (.t 20) 10⟩,
    ⟨none, none, .st (.t 21) (.t 19) 4⟩])
  (.rg [⟨(some 22), none, .mv (.t 0)⟩,
    ⟨(some 23), none, .nc (.t 22)⟩,
    ⟨(some 24), none, .fa (.t 23) 0⟩,
    ⟨(some 25), none, .mv (.t 0)⟩,
    ⟨(some 26), none, .mf (.func 252) [(.t 25)] []⟩,
    ⟨(some 27), none, .ca 79 [(.t 24), (.t 26)]⟩])))⟩
theorem k224 : cF Tryz.prog Tryz.f224 = some c224 := by kernel_rfl
/-- rundale/bits.field -/
def c225 : Fu := ⟨21, [.t 4],
  (.sq (.rg [⟨(some 4), none, .mv (.c (.bool false))⟩])
  (.sq (.rg [⟨(some 5), none, .mv (.t 1)⟩,
    ⟨(some 6), none, .ib .geq (.t 5) (.c (.int .i64 0))⟩,
    ⟨(some 7), none, .mv (.t 6)⟩,
    ⟨(some 8), (some (7, true)), .mv (.t 1)⟩,
    ⟨(some 9), (some (7, true)), .ib .leq (.t 8) (.c (.int .i64 64))⟩,
    ⟨(some 10), none, .pk (.t 7) (.t 9) (.c (.bool false))⟩,
    ⟨(some 11), none, .mv (.t 10)⟩,
    ⟨(some 12), (some (11, true)), .mv (.t 0)⟩,
    ⟨(some 13), (some (11, true)), .ib .geq (.t 12) (.c (.int .i64 0))⟩,
    ⟨(some 14), none, .pk (.t 11) (.t 13) (.c (.bool false))⟩,
    ⟨(some 15), none, .mv (.t 14)⟩,
    ⟨(some 16), (some (15, true)), .mv (.t 0)⟩,
    ⟨(some 17), (some (15, true)), .mv (.t 1)⟩,
    ⟨(some 18), (some (15, true)), .ib .sub (.c (.int .i64 64)) (.t 17)⟩,
    ⟨(some 19), (some (15, true)), .ib .leq (.t 16) (.t 18)⟩,
    ⟨(some 20), none, .pk (.t 15) (.t 19) (.c (.bool false))⟩,
    ⟨(some 4), none, .mv (.t 20)⟩])
  .rt))⟩
theorem k225 : cF Tryz.prog Tryz.f225 = some c225 := by kernel_rfl
/-- rundale/bits.Mask -/
def c226 : Fu := ⟨8, [.t 2],
  (.sq (.rg [⟨(some 2), none, .mv (.c (.int .u64 0))⟩])
  (.sq (.rg [⟨(some 3), none, .mv (.t 0)⟩,
    ⟨(some 4), none, .mm true (.t 3) (.c (.int .i64 0))⟩,
    ⟨(some 5), none, .mm false (.t 4) (.c (.int .i64 64))⟩,
    ⟨(some 6), none, .ib .shl (.c (.int .u64 1)) (.t 5)⟩,
    ⟨(some 7), none, .ib .sub (.t 6) (.c (.int .u64 1))⟩,
    ⟨(some 2), none, .mv (.t 7)⟩])
  .rt))⟩
theorem k226 : cF Tryz.prog Tryz.f226 = some c226 := by kernel_rfl
/-- rundale/word.PutRoot -/
def c227 : Fu := ⟨58, [.t 2, .t 3],
  (.sq (.rg [⟨(some 1), none, .bx 68 (.t 0)⟩,
    ⟨(some 2), none, .mv (.c (.int .u64 0))⟩,
    ⟨(some 3), none, .mv (.c (.bool false))⟩])
  (.sq (.sq (.rg [⟨(some 6), none, .fa (.t 1) 0⟩,
    ⟨(some 7), none, .ld (.t 6) 1 false⟩,
    ⟨(some 8), none, .ca 243 [(.t 7), (.c (.int .i64 0)), (.c (.int .i64 4294967295))]⟩,
    ⟨(some 9), none, .nt (.t 8)⟩,
    ⟨(some 10), none, .mv (.t 9)⟩,
    ⟨(some 11), (some (10, false)), .fa (.t 1) 1⟩,
    ⟨(some 12), (some (10, false)), .ld (.t 11) 1 false⟩,
    ⟨(some 13), (some (10, false)), .ca 243 [(.t 12), (.c (.int .i64 0)), (.c (.int .i64 4097))]⟩,
    ⟨(some 14), (some (10, false)), .nt (.t 13)⟩,
    ⟨(some 15), none, .pk (.t 10) (.c (.bool true)) (.t 14)⟩,
    ⟨(some 16), none, .mv (.t 15)⟩,
    ⟨(some 17), (some (16, false)), .fa (.t 1) 2⟩,
    ⟨(some 18), (some (16, false)), .ld (.t 17) 1 false⟩,
    ⟨(some 19), (some (16, false)), .ca 243 [(.t 18), (.c (.int .i64 0)), (.c (.int .i64 3))]⟩,
    ⟨(some 20), (some (16, false)), .nt (.t 19)⟩,
    ⟨(some 21), none, .pk (.t 16) (.c (.bool true)) (.t 20)⟩,
    ⟨(some 22), none, .mv (.t 21)⟩,
    ⟨(some 23), (some (22, false)), .fa (.t 1) 3⟩,
    ⟨(some 24), (some (22, false)), .ld (.t 23) 1 false⟩,
    ⟨(some 25), (some (22, false)), .ca 243 [(.t 24), (.c (.int .i64 0)), (.c (.int .i64 1024))]⟩,
    ⟨(some 26), (some (22, false)), .nt (.t 25)⟩,
    ⟨(some 27), none, .pk (.t 22) (.c (.bool true)) (.t 26)⟩])
  (.cd (.t 27)
  (.sq (.rg [⟨(some 2), none, .mv (.c (.int .u64 0))⟩,
    ⟨(some 3), none, .mv (.c (.bool false))⟩])
  .rt)
  .sk))
  (.sq (.rg [⟨(some 29), none, .fa (.t 1) 3⟩,
    ⟨(some 30), none, .ld (.t 29) 1 false⟩,
    ⟨(some 31), none, .cv .u64 (.t 30)⟩,
    ⟨(some 32), none, .ca 244 [(.c (.int .u64 0)), (.c (.int .i64 0)), (.c (.int .i64 12)), (.t 31)]⟩,
    ⟨(some 28), none, .mv (.t 32)⟩,
    ⟨(some 33), none, .ex (.t 28) 0⟩,
    ⟨(some 34), none, .ex (.t 28) 1⟩,
    ⟨(some 4), none, .mv (.t 33)⟩,
    ⟨(some 5), none, .mv (.t 34)⟩])
  (.sq (.rg [⟨(some 36), none, .mv (.t 4)⟩,
    ⟨(some 37), none, .fa (.t 1) 2⟩,
    ⟨(some 38), none, .ld (.t 37) 1 false⟩,
    ⟨(some 39), none, .cv .u64 (.t 38)⟩,
    ⟨(some 40), none, .ca 244 [(.t 36), (.c (.int .i64 12)), (.c (.int .i64 4)), (.t 39)]⟩,
    ⟨(some 35), none, .mv (.t 40)⟩,
    ⟨(some 41), none, .ex (.t 35) 0⟩,
    ⟨(some 42), none, .ex (.t 35) 1⟩,
    ⟨(some 4), none, .mv (.t 41)⟩])
  (.sq (.rg [⟨(some 44), none, .mv (.t 4)⟩,
    ⟨(some 45), none, .fa (.t 1) 1⟩,
    ⟨(some 46), none, .ld (.t 45) 1 false⟩,
    ⟨(some 47), none, .cv .u64 (.t 46)⟩,
    ⟨(some 48), none, .ca 244 [(.t 44), (.c (.int .i64 16)), (.c (.int .i64 16)), (.t 47)]⟩,
    ⟨(some 43), none, .mv (.t 48)⟩,
    ⟨(some 49), none, .ex (.t 43) 0⟩,
    ⟨(some 50), none, .ex (.t 43) 1⟩,
    ⟨(some 4), none, .mv (.t 49)⟩])
  (.sq (.rg [⟨(some 51), none, .mv (.t 4)⟩,
    ⟨(some 52), none, .fa (.t 1) 0⟩,
    ⟨(some 53), none, .ld (.t 52) 1 false⟩,
    ⟨(some 54), none, .cv .u64 (.t 53)⟩,
    ⟨(some 55), none, .ca 244 [(.t 51), (.c (.int .i64 32)), (.c (.int .i64 32)), (.t 54)]⟩,
    ⟨(some 56), none, .ex (.t 55) 0⟩,
    ⟨(some 57), none, .ex (.t 55) 1⟩,
    ⟨(some 2), none, .mv (.t 56)⟩,
    ⟨(some 3), none, .mv (.t 57)⟩])
  .rt))))))⟩
theorem k227 : cF Tryz.prog Tryz.f227 = some c227 := by kernel_rfl
/-- (*rundale/cells.Cells).Cas -/
def c228 : Fu := ⟨37, [.t 8, .t 9],
  (.sq (.rg [⟨(some 8), none, .mv (.c (.bool false))⟩,
    ⟨(some 9), none, .mv (.c (.int .i64 0))⟩])
  (.sq (.sq (.rg [⟨(some 10), none, .mv (.t 0)⟩,
    ⟨(some 11), none, .mv (.t 1)⟩,
    ⟨(some 12), none, .ca 81 [(.t 10), (.t 11)]⟩,
    ⟨(some 13), none, .nt (.t 12)⟩])
  (.cd (.t 13)
  (.sq (.rg [⟨(some 8), none, .mv (.c (.bool false))⟩,
    ⟨(some 9), none, .mv (.c (.int .i64 1))⟩])
  .rt)
  .sk))
  (.sq (.sq (.rg [⟨(some 14), none, .mv (.t 0)⟩,
    ⟨(some 15), none, .nc (.t 14)⟩,
    ⟨(some 16), none, .fa (.t 15) 0⟩,
    ⟨(some 17), none, .ld (.t 16) 1 false⟩,
    ⟨(some 18), none, .mv (.t 1)⟩,
    ⟨(some 19), none, .ia (.t 17) (.t 18) 1⟩,
    ⟨(some 20), none, .ld (.t 19) 1 false⟩,
    ⟨(some 21), none, .mv (.t 2)⟩,
    ⟨(some 22), none, .ib .neq (.t 20) (.t 21)⟩])
  (.cd (.t 22)
  (.sq (.rg [⟨(some 23), none, .mv (.t 0)⟩,
    ⟨(some 24), none, .mv (.t 1)⟩,
    ⟨(some 25), none, .mv (.t 0)⟩,
    ⟨(some 26), none, .nc (.t 25)⟩,
    ⟨(some 27), none, .fa (.t 26) 0⟩,
    ⟨(some 28), none, .ld (.t 27) 1 false⟩,
    ⟨(some 29), none, .mv (.t 1)⟩,
    ⟨(some 30), none, .ia (.t 28) (.t 29) 1⟩,
    ⟨(some 31), none, .ld (.t 30) 1 false⟩,
    ⟨(some 32), none, .ca 205 [(.t 23), (.c (.int .i64 3)), (.t 24), (.t 31), (.c (.bool false))]⟩])
  (.sq (.rg [⟨(some 8), none, .mv (.c (.bool false))⟩,
    ⟨(some 9), none, .mv (.c (.int .i64 0))⟩])
  .rt))
  .sk))
  (.sq (.rg [⟨(some 33), none, .mv (.t 0)⟩,
    ⟨(some 34), none, .mv (.t 1)⟩,
    ⟨(some 35), none, .mv (.t 3)⟩,
    ⟨(some 36), none, .ca 205 [(.t 33), (.c (.int .i64 3)), (.t 34), (.t 35), (.c (.bool true))]⟩])
  (.sq (.rg [⟨(some 8), none, .mv (.c (.bool true))⟩,
    ⟨(some 9), none, .mv (.c (.int .i64 0))⟩])
  .rt)))))⟩
theorem k228 : cF Tryz.prog Tryz.f228 = some c228 := by kernel_rfl
/-- (*rundale/run.Machine).through -/
def c232 : Fu := ⟨9, [],
  (.sq (.rg [⟨(some 2), none, .mv (.t 0)⟩,
    ⟨(some 3), none, .nc (.t 2)⟩,
    ⟨(some 4), none, .fa (.t 3) 1⟩,
    ⟨(some 5), none, .ld (.t 4) 1 false⟩,
    ⟨(some 6), none, .cl (.t 5) []⟩])
  (.rg [⟨(some 7), none, .mv (.t 0)⟩,
    ⟨(some 8), none, .ca 190 [(.t 7)]⟩]))⟩
theorem k232 : cF Tryz.prog Tryz.f232 = some c232 := by kernel_rfl
/-- rundale/epoch.Cut -/
def c233 : Fu := ⟨6, [.t 2],
  (.sq (.rg [⟨(some 2), none, .mv (.c (.int .i64 0))⟩])
  (.sq (.rg [⟨(some 3), none, .mv (.t 0)⟩,
    ⟨(some 4), none, .mm false (.t 3) (.c (.int .u64 4611686018427387903))⟩,
    ⟨(some 5), none, .cv .i64 (.t 4)⟩,
    ⟨(some 2), none, .mv (.t 5)⟩])
  .rt))⟩
theorem k233 : cF Tryz.prog Tryz.f233 = some c233 := by kernel_rfl
/-- (*rundale/stack.Push).Step -/
def c239 : Fu := ⟨7, [.t 2],
  (.sq (.rg [⟨(some 2), none, .mv (.c (.bool false))⟩])
  (.sq (.rg [⟨(some 3), none, .mv (.t 0)⟩,
    ⟨(some 4), none, .nc (.t 3)⟩,
    ⟨(some 5), none, .fa (.t 4) 0⟩,
    ⟨(some 6), none, .ca 91 [(.t 5)]⟩,
    ⟨(some 2), none, .mv (.t 6)⟩])
  .rt))⟩
theorem k239 : cF Tryz.prog Tryz.f239 = some c239 := by kernel_rfl
/-- (*rundale/stack.Push).Done -/
def c240 : Fu := ⟨7, [.t 2],
  (.sq (.rg [⟨(some 2), none, .mv (.c (.bool false))⟩])
  (.sq (.rg [⟨(some 3), none, .mv (.t 0)⟩,
    ⟨(some 4), none, .nc (.t 3)⟩,
    ⟨(some 5), none, .fa (.t 4) 0⟩,
    ⟨(some 6), none, .ca 92 [(.t 5)]⟩,
    ⟨(some 2), none, .mv (.t 6)⟩])
  .rt))⟩
theorem k240 : cF Tryz.prog Tryz.f240 = some c240 := by kernel_rfl
/-- rundale/rundaleref1.Next -/
def c242 : Fu := ⟨20, [.c 4 2 true],
  (.sq (.rg [⟨(some 2), none, .bx 264 (.t 0)⟩,
    ⟨(some 4), none, .al 264 [(.int .i64 0), (.int .i64 0)]⟩])
  (.sq (.sq (.rg [⟨(some 5), none, .fa (.t 2) 1⟩,
    ⟨(some 6), none, .ld (.t 5) 1 false⟩,
    ⟨(some 7), none, .ib .lss (.t 6) (.c (.int .i64 0))⟩,
    ⟨(some 8), none, .mv (.t 7)⟩,
    ⟨(some 9), (some (8, false)), .fa (.t 2) 1⟩,
    ⟨(some 10), (some (8, false)), .ld (.t 9) 1 false⟩,
    ⟨(some 11), (some (8, false)), .ib .geq (.t 10) (.c (.int .i64 4294967295))⟩,
    ⟨(some 12), none, .pk (.t 8) (.c (.bool true)) (.t 11)⟩])
  (.cd (.t 12)
  (.sq (.rg [⟨(some 13), none, .mv (.t 1)⟩,
    ⟨(some 14), none, .bd [(.int .i64 0), (.int .i64 0)] [(0, 1, (.t 13)), (1, 1, (.c (.int .i64 0)))]⟩,
    ⟨none, none, .st (.t 4) (.t 14) 2⟩])
  .rt)
  .sk))
  (.sq (.rg [⟨(some 15), none, .mv (.t 1)⟩,
    ⟨(some 16), none, .fa (.t 2) 1⟩,
    ⟨(some 17), none, .ld (.t 16) 1 false⟩,
    ⟨(some 18), none, .ib .add (.t 17) (.c (.int .i64 1))⟩,
    ⟨(some 19), none, .bd [(.int .i64 0), (.int .i64 0)] [(0, 1, (.t 15)), (1, 1, (.t 18))]⟩,
    ⟨none, none, .st (.t 4) (.t 19) 2⟩])
  .rt)))⟩
theorem k242 : cF Tryz.prog Tryz.f242 = some c242 := by kernel_rfl
/-- rundale/word.within -/
def c243 : Fu := ⟨15, [.t 6],
  (.sq (.rg [⟨(some 6), none, .mv (.c (.bool false))⟩])
  (.sq (.rg [⟨(some 7), none, .mv (.t 0)⟩,
    ⟨(some 8), none, .mv (.t 1)⟩,
    ⟨(some 9), none, .ib .geq (.t 7) (.t 8)⟩,
    ⟨(some 10), none, .mv (.t 9)⟩,
    ⟨(some 11), (some (10, true)), .mv (.t 0)⟩,
    ⟨(some 12), (some (10, true)), .mv (.t 2)⟩,
    ⟨(some 13), (some (10, true)), .ib .leq (.t 11) (.t 12)⟩,
    ⟨(some 14), none, .pk (.t 10) (.t 13) (.c (.bool false))⟩,
    ⟨(some 6), none, .mv (.t 14)⟩])
  .rt))⟩
theorem k243 : cF Tryz.prog Tryz.f243 = some c243 := by kernel_rfl
/-- rundale/bits.Put -/
def c244 : Fu := ⟨30, [.t 8, .t 9],
  (.sq (.rg [⟨(some 8), none, .mv (.c (.int .u64 0))⟩,
    ⟨(some 9), none, .mv (.c (.bool false))⟩])
  (.sq (.sq (.rg [⟨(some 10), none, .mv (.t 1)⟩,
    ⟨(some 11), none, .mv (.t 2)⟩,
    ⟨(some 12), none, .ca 225 [(.t 10), (.t 11)]⟩,
    ⟨(some 13), none, .nt (.t 12)⟩,
    ⟨(some 14), none, .mv (.t 13)⟩,
    ⟨(some 15), (some (14, false)), .mv (.t 3)⟩,
    ⟨(some 16), (some (14, false)), .mv (.t 2)⟩,
    ⟨(some 17), (some (14, false)), .ca 260 [(.t 15), (.t 16)]⟩,
    ⟨(some 18), (some (14, false)), .nt (.t 17)⟩,
    ⟨(some 19), none, .pk (.t 14) (.c (.bool true)) (.t 18)⟩])
  (.cd (.t 19)
  (.sq (.rg [⟨(some 8), none, .mv (.c (.int .u64 0))⟩,
    ⟨(some 9), none, .mv (.c (.bool false))⟩])
  .rt)
  .sk))
  (.sq (.rd [⟨0, 0, [0], ⟨(some 20), none, .mv (.t 0)⟩⟩,
    ⟨1, 0, [2], ⟨(some 21), none, .mv (.t 2)⟩⟩,
    ⟨2, 2, [21], ⟨(some 22), none, .ca 226 [(.t 21)]⟩⟩,
    ⟨3, 0, [1], ⟨(some 23), none, .mv (.t 1)⟩⟩,
    ⟨4, 14, [22, 23], ⟨(some 24), none, .ib .shl (.t 22) (.t 23)⟩⟩,
    ⟨5, 31, [20, 24], ⟨(some 25), none, .ib .andNot (.t 20) (.t 24)⟩⟩,
    ⟨6, 0, [3], ⟨(some 26), none, .mv (.t 3)⟩⟩,
    ⟨7, 0, [1], ⟨(some 27), none, .mv (.t 1)⟩⟩,
    ⟨8, 192, [26, 27], ⟨(some 28), none, .ib .shl (.t 26) (.t 27)⟩⟩,
    ⟨9, 511, [25, 28], ⟨(some 29), none, .ib .or (.t 25) (.t 28)⟩⟩,
    ⟨10, 1023, [29], ⟨(some 8), none, .mv (.t 29)⟩⟩,
    ⟨11, 2047, [], ⟨(some 9), none, .mv (.c (.bool true))⟩⟩])
  .rt)))⟩
theorem k244 : cF Tryz.prog Tryz.f244 = some c244 := by kernel_rfl
end Go.Proofs.YtflalhdofhobmaaGreat

/-
  The functions' small code, as a program printed it off the translation; each held against the model's own code by the kernel.
-/
namespace Go.Proofs.YtflalhdofhobmaaGreat
open Go
set_option maxRecDepth 100000
/-- (*rundale/supply.Supply).give -/
def c245 : Fu := ⟨33, [.t 4],
  (.sq (.rg [⟨(some 4), none, .mv (.c (.pointer none))⟩])
  (.sq (.rg [⟨(some 8), none, .mv (.t 1)⟩,
    ⟨(some 9), none, .bd [.nilFunc, .nilFunc, .nilFunc, .nilFunc, (.int .i64 0), (.slice none 0 0)] [(5, 1, (.t 8))]⟩,
    ⟨(some 10), none, .bx 248 (.t 9)⟩,
    ⟨(some 5), none, .mv (.t 10)⟩])
  (.sq (.sq (.rg [⟨(some 12), none, .mv (.t 0)⟩,
    ⟨(some 13), none, .nc (.t 12)⟩,
    ⟨(some 14), none, .fa (.t 13) 7⟩,
    ⟨(some 15), none, .ld (.t 14) 1 false⟩,
    ⟨(some 16), none, .mv (.t 1)⟩,
    ⟨(some 17), none, .ca 258 [(.t 15), (.t 16)]⟩,
    ⟨(some 11), none, .mv (.t 17)⟩,
    ⟨(some 18), none, .ex (.t 11) 0⟩,
    ⟨(some 19), none, .ex (.t 11) 1⟩,
    ⟨(some 6), none, .mv (.t 18)⟩,
    ⟨(some 7), none, .mv (.t 19)⟩])
  (.sq (.rg [⟨(some 20), none, .mv (.t 7)⟩,
    ⟨(some 21), none, .ib .eql (.t 20) (.c (.int .i64 0))⟩])
  (.cd (.t 21)
  (.rg [⟨(some 22), none, .mv (.t 5)⟩,
    ⟨(some 23), none, .nc (.t 22)⟩,
    ⟨(some 24), none, .fa (.t 23) 0⟩,
    ⟨(some 25), none, .mv (.t 6)⟩,
    ⟨(some 26), none, .mf (.func 239) [(.t 25)] []⟩,
    ⟨(some 27), none, .mv (.t 6)⟩,
    ⟨(some 28), none, .mf (.func 240) [(.t 27)] []⟩,
    ⟨(some 29), none, .mv (.t 5)⟩,
    ⟨(some 30), none, .mf (.func 261) [(.t 29)] []⟩,
    ⟨(some 31), none, .ca 119 [(.t 24), (.t 26), (.t 28), (.t 30)]⟩])
  .sk)))
  (.sq (.rg [⟨(some 32), none, .mv (.t 5)⟩,
    ⟨(some 4), none, .mv (.t 32)⟩])
  .rt))))⟩
theorem k245 : cF Tryz.prog Tryz.f245 = some c245 := by kernel_rfl
/-- (*rundale/stash.Stash).Over -/
def c246 : Fu := ⟨16, [.t 2],
  (.sq (.rg [⟨(some 2), none, .mv (.c (.slice none 0 0))⟩])
  (.sq (.rd [⟨0, 0, [0], ⟨(some 3), none, .mv (.t 0)⟩⟩,
    ⟨1, 0, [0], ⟨(some 4), none, .mv (.t 0)⟩⟩,
    ⟨2, 2, [4], ⟨(some 5), none, .nc (.t 4)⟩⟩,
    ⟨3, 6, [5], ⟨(some 6), none, .fa (.t 5) 1⟩⟩,
    ⟨4, 14, [6], ⟨(some 7), none, .ld (.t 6) 1 false⟩⟩,
    ⟨5, 30, [7], ⟨(some 8), none, .len (.t 7)⟩⟩,
    ⟨6, 0, [0], ⟨(some 9), none, .mv (.t 0)⟩⟩,
    ⟨7, 64, [9], ⟨(some 10), none, .nc (.t 9)⟩⟩,
    ⟨8, 192, [10], ⟨(some 11), none, .fa (.t 10) 0⟩⟩,
    ⟨9, 448, [11], ⟨(some 12), none, .ld (.t 11) 1 false⟩⟩,
    ⟨10, 1022, [8, 12], ⟨(some 13), none, .ib .sub (.t 8) (.t 12)⟩⟩,
    ⟨11, 2046, [13], ⟨(some 14), none, .mm true (.t 13) (.c (.int .i64 0))⟩⟩,
    ⟨12, 4095, [3, 14], ⟨(some 15), none, .ca 262 [(.t 3), (.t 14)]⟩⟩,
    ⟨13, 8191, [15], ⟨(some 2), none, .mv (.t 15)⟩⟩])
  .rt))⟩
theorem k246 : cF Tryz.prog Tryz.f246 = some c246 := by kernel_rfl
/-- rundale/size.After -/
def c247 : Fu := ⟨16, [.t 4],
  (.sq (.rg [⟨(some 4), none, .mv (.c (.int .i64 0))⟩])
  (.sq (.bl 0
  (.sq (.rg [⟨(some 6), none, .mv (.t 0)⟩,
    ⟨(some 7), none, .mv (.t 1)⟩,
    ⟨(some 8), none, .ca 210 [(.t 6), (.t 7)]⟩,
    ⟨(some 9), none, .nt (.t 8)⟩,
    ⟨(some 5), none, .mv (.t 9)⟩])
  (.cd (.t 5)
  (.sq (.rg [⟨(some 4), none, .mv (.c (.int .i64 0))⟩])
  .rt)
  (.sq (.rg [⟨(some 11), none, .mv (.t 0)⟩,
    ⟨(some 12), none, .mv (.t 1)⟩,
    ⟨(some 13), none, .ca 211 [(.t 11), (.t 12)]⟩,
    ⟨(some 10), none, .mv (.t 13)⟩])
  (.cd (.t 10)
  (.sq (.rg [⟨(some 14), none, .mv (.t 0)⟩,
    ⟨(some 4), none, .mv (.t 14)⟩])
  .rt)
  .sk)))))
  (.sq (.rg [⟨(some 15), none, .mv (.t 1)⟩,
    ⟨(some 4), none, .mv (.t 15)⟩])
  .rt)))⟩
theorem k247 : cF Tryz.prog Tryz.f247 = some c247 := by kernel_rfl
/-- (*rundale/stash.Stash).Take -/
def c248 : Fu := ⟨35, [.t 2, .t 3],
  (.sq (.rg [⟨(some 2), none, .mv (.c (.int .i64 0))⟩,
    ⟨(some 3), none, .mv (.c (.bool false))⟩])
  (.sq (.sq (.rg [⟨(some 6), none, .mv (.t 0)⟩,
    ⟨(some 7), none, .nc (.t 6)⟩,
    ⟨(some 8), none, .fa (.t 7) 1⟩,
    ⟨(some 9), none, .ld (.t 8) 1 false⟩,
    ⟨(some 10), none, .len (.t 9)⟩,
    ⟨(some 11), none, .ib .eql (.t 10) (.c (.int .i64 0))⟩])
  (.cd (.t 11)
  (.sq (.rg [⟨(some 2), none, .mv (.c (.int .i64 0))⟩,
    ⟨(some 3), none, .mv (.c (.bool false))⟩])
  .rt)
  .sk))
  (.sq (.rg [⟨(some 12), none, .mv (.t 0)⟩,
    ⟨(some 13), none, .nc (.t 12)⟩,
    ⟨(some 14), none, .fa (.t 13) 1⟩,
    ⟨(some 15), none, .ld (.t 14) 1 false⟩,
    ⟨(some 16), none, .len (.t 15)⟩,
    ⟨(some 17), none, .ib .sub (.t 16) (.c (.int .i64 1))⟩,
    ⟨(some 4), none, .mv (.t 17)⟩])
  (.sq (.rg [⟨(some 18), none, .mv (.t 0)⟩,
    ⟨(some 19), none, .nc (.t 18)⟩,
    ⟨(some 20), none, .fa (.t 19) 1⟩,
    ⟨(some 21), none, .ld (.t 20) 1 false⟩,
    ⟨(some 22), none, .mv (.t 4)⟩,
    ⟨(some 23), none, .ia (.t 21) (.t 22) 1⟩,
    ⟨(some 24), none, .ld (.t 23) 1 false⟩,
    ⟨(some 5), none, .mv (.t 24)⟩])
  (.sq (.rg [⟨(some 25), none, .mv (.t 0)⟩,
    ⟨(some 26), none, .mv (.t 0)⟩,
    ⟨(some 27), none, .nc (.t 26)⟩,
    ⟨(some 28), none, .fa (.t 27) 1⟩,
    ⟨(some 29), none, .ld (.t 28) 1 false⟩,
    ⟨(some 30), none, .mv (.t 4)⟩,
    ⟨(some 31), none, .sl 1 (.t 29) none (some (.t 30)) none⟩,
    ⟨(some 32), none, .nc (.t 25)⟩,
    ⟨(some 33), none, .fa (.t 32) 1⟩,
    ⟨none, none, .st (.t 33) (.t 31) 1⟩])
  (.sq (.rg [⟨(some 34), none, .mv (.t 5)⟩,
    ⟨(some 2), none, .mv (.t 34)⟩,
    ⟨(some 3), none, .mv (.c (.bool true))⟩])
  .rt))))))⟩
theorem k248 : cF Tryz.prog Tryz.f248 = some c248 := by kernel_rfl
/-- (*rundale/supply.Take).popped -/
def c249 : Fu := ⟨27, [],
  (.sq (.rg [⟨(some 3), none, .mv (.t 0)⟩,
    ⟨(some 4), none, .nc (.t 3)⟩,
    ⟨(some 5), none, .fa (.t 4) 6⟩,
    ⟨(some 6), none, .ld (.t 5) 1 false⟩,
    ⟨(some 7), none, .ca 223 [(.t 6)]⟩,
    ⟨(some 2), none, .mv (.t 7)⟩])
  (.sq (.rg [⟨(some 8), none, .mv (.t 2)⟩,
    ⟨(some 9), none, .len (.t 8)⟩,
    ⟨(some 10), none, .ib .gtr (.t 9) (.c (.int .i64 0))⟩])
  (.cd (.t 10)
  (.sq (.rg [⟨(some 11), none, .mv (.t 0)⟩,
    ⟨(some 12), none, .mv (.t 0)⟩,
    ⟨(some 13), none, .mv (.t 2)⟩,
    ⟨(some 14), none, .ia (.t 13) (.c (.int .i64 0)) 1⟩,
    ⟨(some 15), none, .ld (.t 14) 1 false⟩,
    ⟨(some 16), none, .nc (.t 11)⟩,
    ⟨(some 17), none, .fa (.t 16) 7⟩,
    ⟨none, none, .st (.t 17) (.t 15) 1⟩,
    ⟨(some 18), none, .nc (.t 12)⟩,
    ⟨(some 19), none, .fa (.t 18) 9⟩,
    ⟨none, none, .st (.t 19) (.c (.bool true)) 1⟩])
  (.rd [⟨0, 0, [0], ⟨(some 20), none, .mv (.t 0)⟩⟩,
    ⟨1, 1, [20], ⟨(some 21), none, .nc (.t 20)⟩⟩,
    ⟨2, 3, [21], ⟨(some 22), none, .fa (.t 21) 5⟩⟩,
    ⟨3, 7, [22], ⟨(some 23), none, .ld (.t 22) 1 false⟩⟩,
    ⟨4, 0, [2], ⟨(some 24), none, .mv (.t 2)⟩⟩,
    ⟨5, 16, [24], ⟨(some 25), none, .sl 1 (.t 24) (some (.c (.int .i64 1))) none none⟩⟩,
    ⟨6, 63, [23, 25], ⟨(some 26), none, .ca 206 [(.t 23), (.t 25)]⟩⟩]))
  .sk)))⟩
theorem k249 : cF Tryz.prog Tryz.f249 = some c249 := by kernel_rfl
/-- (*rundale/stack.Pop).link -/
def c250 : Fu := ⟨86, [],
  (.sq (.rd [⟨0, 0, [0], ⟨(some 5), none, .mv (.t 0)⟩⟩,
    ⟨1, 1, [5], ⟨(some 6), none, .nc (.t 5)⟩⟩,
    ⟨2, 3, [6], ⟨(some 7), none, .fa (.t 6) 5⟩⟩,
    ⟨3, 7, [7], ⟨(some 8), none, .ld (.t 7) 1 false⟩⟩,
    ⟨4, 15, [8], ⟨(some 9), none, .nc (.t 8)⟩⟩,
    ⟨5, 31, [9], ⟨(some 10), none, .fa (.t 9) 0⟩⟩,
    ⟨6, 63, [10], ⟨(some 11), none, .ld (.t 10) 1 false⟩⟩,
    ⟨7, 0, [0], ⟨(some 12), none, .mv (.t 0)⟩⟩,
    ⟨8, 128, [12], ⟨(some 13), none, .nc (.t 12)⟩⟩,
    ⟨9, 384, [13], ⟨(some 14), none, .fa (.t 13) 5⟩⟩,
    ⟨10, 896, [14], ⟨(some 15), none, .ld (.t 14) 1 false⟩⟩,
    ⟨11, 1920, [15], ⟨(some 16), none, .nc (.t 15)⟩⟩,
    ⟨12, 3968, [16], ⟨(some 17), none, .fa (.t 16) 2⟩⟩,
    ⟨13, 8064, [17], ⟨(some 18), none, .ld (.t 17) 1 false⟩⟩,
    ⟨14, 0, [0], ⟨(some 19), none, .mv (.t 0)⟩⟩,
    ⟨15, 16384, [19], ⟨(some 20), none, .nc (.t 19)⟩⟩,
    ⟨16, 49152, [20], ⟨(some 21), none, .fa (.t 20) 9⟩⟩,
    ⟨17, 114688, [21], ⟨(some 22), none, .ld (.t 21) 1 false⟩⟩,
    ⟨18, 0, [0], ⟨(some 23), none, .mv (.t 0)⟩⟩,
    ⟨19, 262144, [23], ⟨(some 24), none, .nc (.t 23)⟩⟩,
    ⟨20, 786432, [24], ⟨(some 25), none, .fa (.t 24) 9⟩⟩,
    ⟨21, 1835008, [25], ⟨(some 26), none, .ld (.t 25) 1 false⟩⟩,
    ⟨22, 3932160, [26], ⟨(some 27), none, .len (.t 26)⟩⟩,
    ⟨23, 8126464, [27], ⟨(some 28), none, .ib .sub (.t 27) (.c (.int .i64 1))⟩⟩,
    ⟨24, 16760832, [22, 28], ⟨(some 29), none, .ia (.t 22) (.t 28) 1⟩⟩,
    ⟨25, 33538048, [29], ⟨(some 30), none, .ld (.t 29) 1 false⟩⟩,
    ⟨26, 67108736, [18, 30], ⟨(some 31), none, .ib .add (.t 18) (.t 30)⟩⟩,
    ⟨27, 134217727, [11, 31], ⟨(some 32), none, .ca 151 [(.t 11), (.t 31)]⟩⟩,
    ⟨28, 268435455, [32], ⟨(some 4), none, .mv (.t 32)⟩⟩,
    ⟨29, 536870911, [4], ⟨(some 33), none, .ex (.t 4) 0⟩⟩,
    ⟨30, 536870911, [4], ⟨(some 34), none, .ex (.t 4) 1⟩⟩,
    ⟨31, 1073741823, [33], ⟨(some 2), none, .mv (.t 33)⟩⟩,
    ⟨32, 4294967295, [34], ⟨(some 3), none, .mv (.t 34)⟩⟩])
  (.sq (.rg [⟨(some 35), none, .mv (.t 0)⟩,
    ⟨(some 36), none, .mv (.t 0)⟩,
    ⟨(some 37), none, .nc (.t 36)⟩,
    ⟨(some 38), none, .fa (.t 37) 5⟩,
    ⟨(some 39), none, .ld (.t 38) 1 false⟩,
    ⟨(some 40), none, .mv (.t 2)⟩,
    ⟨(some 41), none, .ca 96 [(.t 39), (.t 40)]⟩,
    ⟨(some 42), none, .nc (.t 35)⟩,
    ⟨(some 43), none, .fa (.t 42) 7⟩,
    ⟨none, none, .st (.t 43) (.t 41) 1⟩])
  (.sq (.rd [⟨0, 0, [0], ⟨(some 44), none, .mv (.t 0)⟩⟩,
    ⟨1, 1, [44], ⟨(some 45), none, .nc (.t 44)⟩⟩,
    ⟨2, 3, [45], ⟨(some 46), none, .fa (.t 45) 7⟩⟩,
    ⟨3, 7, [46], ⟨(some 47), none, .ld (.t 46) 1 false⟩⟩,
    ⟨4, 15, [47], ⟨(some 48), none, .ib .geq (.t 47) (.c (.int .i64 0))⟩⟩,
    ⟨5, 31, [48], ⟨(some 49), none, .mv (.t 48)⟩⟩,
    ⟨6, 63, [0, 49], ⟨(some 50), (some (49, true)), .mv (.t 0)⟩⟩,
    ⟨7, 127, [50, 49], ⟨(some 51), (some (49, true)), .nc (.t 50)⟩⟩,
    ⟨8, 255, [51, 49], ⟨(some 52), (some (49, true)), .fa (.t 51) 9⟩⟩,
    ⟨9, 511, [52, 49], ⟨(some 53), (some (49, true)), .ld (.t 52) 1 false⟩⟩,
    ⟨10, 1023, [53, 49], ⟨(some 54), (some (49, true)), .len (.t 53)⟩⟩,
    ⟨11, 63, [0, 49], ⟨(some 55), (some (49, true)), .mv (.t 0)⟩⟩,
    ⟨12, 2111, [55, 49], ⟨(some 56), (some (49, true)), .nc (.t 55)⟩⟩,
    ⟨13, 6207, [56, 49], ⟨(some 57), (some (49, true)), .fa (.t 56) 6⟩⟩,
    ⟨14, 14399, [57, 49], ⟨(some 58), (some (49, true)), .ld (.t 57) 1 false⟩⟩,
    ⟨15, 32767, [54, 58, 49], ⟨(some 59), (some (49, true)), .ib .lss (.t 54) (.t 58)⟩⟩,
    ⟨16, 65535, [49, 59], ⟨(some 60), none, .pk (.t 49) (.t 59) (.c (.bool false))⟩⟩])
  (.cd (.t 60)
  (.sq (.rd [⟨0, 0, [0], ⟨(some 61), none, .mv (.t 0)⟩⟩,
    ⟨1, 0, [0], ⟨(some 62), none, .mv (.t 0)⟩⟩,
    ⟨2, 2, [62], ⟨(some 63), none, .nc (.t 62)⟩⟩,
    ⟨3, 6, [63], ⟨(some 64), none, .fa (.t 63) 9⟩⟩,
    ⟨4, 14, [64], ⟨(some 65), none, .ld (.t 64) 1 false⟩⟩,
    ⟨5, 0, [0], ⟨(some 66), none, .mv (.t 0)⟩⟩,
    ⟨6, 32, [66], ⟨(some 67), none, .nc (.t 66)⟩⟩,
    ⟨7, 96, [67], ⟨(some 68), none, .fa (.t 67) 7⟩⟩,
    ⟨8, 224, [68], ⟨(some 69), none, .ld (.t 68) 1 false⟩⟩,
    ⟨9, 480, [69], ⟨(some 70), none, .bs 3 1 [(.int .i64 0)] [(0, 1, (.t 69))]⟩⟩,
    ⟨10, 1022, [65, 70], ⟨(some 71), none, .ap 53 3 1 8 [(.int .i64 0)] (.t 65) (.t 70)⟩⟩,
    ⟨11, 2047, [61], ⟨(some 72), none, .nc (.t 61)⟩⟩,
    ⟨12, 4095, [72], ⟨(some 73), none, .fa (.t 72) 9⟩⟩,
    ⟨13, 8191, [73, 71], ⟨none, none, .st (.t 73) (.t 71) 1⟩⟩])
  (.rg [⟨(some 74), none, .mv (.t 0)⟩,
    ⟨(some 75), none, .nc (.t 74)⟩,
    ⟨(some 76), none, .fa (.t 75) 0⟩,
    ⟨(some 77), none, .mv (.t 0)⟩,
    ⟨(some 78), none, .mf (.func 250) [(.t 77)] []⟩,
    ⟨(some 79), none, .ca 79 [(.t 76), (.t 78)]⟩]))
  (.rg [⟨(some 80), none, .mv (.t 0)⟩,
    ⟨(some 81), none, .nc (.t 80)⟩,
    ⟨(some 82), none, .fa (.t 81) 0⟩,
    ⟨(some 83), none, .mv (.t 0)⟩,
    ⟨(some 84), none, .mf (.func 263) [(.t 83)] []⟩,
    ⟨(some 85), none, .ca 79 [(.t 82), (.t 84)]⟩])))))⟩
theorem k250 : cF Tryz.prog Tryz.f250 = some c250 := by kernel_rfl
/-- (*rundale/roots.Create).next -/
def c251 : Fu := ⟨18, [.c 4 4 true],
  (.sq (.rg [⟨(some 3), none, .bx 68 (.t 1)⟩,
    ⟨(some 4), none, .al 68 [(.int .i64 0), (.int .i64 0), (.int .i64 0), (.int .i64 0)]⟩])
  (.sq (.rg [⟨(some 5), none, .mv (.c (.int .i64 0))⟩])
  (.sq (.sq (.rg [⟨(some 6), none, .fa (.t 3) 0⟩,
    ⟨(some 7), none, .ld (.t 6) 1 false⟩,
    ⟨(some 8), none, .ib .lss (.t 7) (.c (.int .i64 4294967295))⟩])
  (.cd (.t 8)
  (.rg [⟨(some 9), none, .fa (.t 3) 0⟩,
    ⟨(some 10), none, .ld (.t 9) 1 false⟩,
    ⟨(some 11), none, .ib .add (.t 10) (.c (.int .i64 1))⟩,
    ⟨(some 5), none, .mv (.t 11)⟩])
  .sk))
  (.sq (.rg [⟨(some 12), none, .mv (.t 5)⟩,
    ⟨(some 13), none, .mv (.t 0)⟩,
    ⟨(some 14), none, .nc (.t 13)⟩,
    ⟨(some 15), none, .fa (.t 14) 6⟩,
    ⟨(some 16), none, .ld (.t 15) 1 false⟩,
    ⟨(some 17), none, .bd [(.int .i64 0), (.int .i64 0), (.int .i64 0), (.int .i64 0)] [(0, 1, (.t 12)), (1, 1, (.c (.int .i64 1))), (2, 1, (.t 16))]⟩,
    ⟨none, none, .st (.t 4) (.t 17) 4⟩])
  .rt))))⟩
theorem k251 : cF Tryz.prog Tryz.f251 = some c251 := by kernel_rfl
/-- (*rundale/roots.Create).store -/
def c252 : Fu := ⟨33, [],
  (.sq (.rg [⟨(some 5), none, .mv (.t 0)⟩,
    ⟨(some 6), none, .nc (.t 5)⟩,
    ⟨(some 7), none, .fa (.t 6) 10⟩,
    ⟨(some 8), none, .ld (.t 7) 4 true⟩,
    ⟨(some 9), none, .ca 227 [(.t 8)]⟩,
    ⟨(some 4), none, .mv (.t 9)⟩,
    ⟨(some 10), none, .ex (.t 4) 0⟩,
    ⟨(some 11), none, .ex (.t 4) 1⟩,
    ⟨(some 2), none, .mv (.t 10)⟩,
    ⟨(some 3), none, .mv (.t 11)⟩])
  (.rd [⟨0, 0, [0], ⟨(some 12), none, .mv (.t 0)⟩⟩,
    ⟨1, 1, [12], ⟨(some 13), none, .nc (.t 12)⟩⟩,
    ⟨2, 3, [13], ⟨(some 14), none, .fa (.t 13) 5⟩⟩,
    ⟨3, 7, [14], ⟨(some 15), none, .ld (.t 14) 1 false⟩⟩,
    ⟨4, 15, [15], ⟨(some 16), none, .nc (.t 15)⟩⟩,
    ⟨5, 31, [16], ⟨(some 17), none, .fa (.t 16) 0⟩⟩,
    ⟨6, 63, [17], ⟨(some 18), none, .ld (.t 17) 1 false⟩⟩,
    ⟨7, 0, [0], ⟨(some 19), none, .mv (.t 0)⟩⟩,
    ⟨8, 128, [19], ⟨(some 20), none, .nc (.t 19)⟩⟩,
    ⟨9, 384, [20], ⟨(some 21), none, .fa (.t 20) 5⟩⟩,
    ⟨10, 896, [21], ⟨(some 22), none, .ld (.t 21) 1 false⟩⟩,
    ⟨11, 1920, [22], ⟨(some 23), none, .nc (.t 22)⟩⟩,
    ⟨12, 3968, [23], ⟨(some 24), none, .fa (.t 23) 1⟩⟩,
    ⟨13, 8064, [24], ⟨(some 25), none, .ld (.t 24) 6 true⟩⟩,
    ⟨14, 0, [0], ⟨(some 26), none, .mv (.t 0)⟩⟩,
    ⟨15, 16384, [26], ⟨(some 27), none, .nc (.t 26)⟩⟩,
    ⟨16, 49152, [27], ⟨(some 28), none, .fa (.t 27) 8⟩⟩,
    ⟨17, 114688, [28], ⟨(some 29), none, .ld (.t 28) 1 false⟩⟩,
    ⟨18, 262016, [25, 29], ⟨(some 30), none, .ca 94 [(.t 25), (.t 29)]⟩⟩,
    ⟨19, 0, [2], ⟨(some 31), none, .mv (.t 2)⟩⟩,
    ⟨20, 1048575, [18, 30, 31], ⟨(some 32), none, .ca 214 [(.t 18), (.t 30), (.t 31)]⟩⟩]))⟩
theorem k252 : cF Tryz.prog Tryz.f252 = some c252 := by kernel_rfl
/-- (*rundale/stack.Stack).Push -/
def c258 : Fu := ⟨58, [.t 4, .t 5],
  (.sq (.rg [⟨(some 4), none, .mv (.c (.pointer none))⟩,
    ⟨(some 5), none, .mv (.c (.int .i64 0))⟩])
  (.sq (.sq (.rg [⟨(some 9), none, .mv (.t 1)⟩,
    ⟨(some 10), none, .len (.t 9)⟩,
    ⟨(some 11), none, .mv (.c (.int .i64 0))⟩])
  (.bl 0
  (.lp
  (.sq (.rg [⟨(some 12), none, .ib .lss (.t 11) (.t 10)⟩])
  (.sq (.cd (.t 12)
  .sk
  (.ex 0))
  (.sq (.bl 1
  (.sq (.rg [⟨(some 13), none, .mv (.t 11)⟩,
    ⟨(some 14), none, .ia (.t 9) (.t 11) 1⟩,
    ⟨(some 15), none, .ld (.t 14) 1 false⟩,
    ⟨(some 6), none, .mv (.t 13)⟩,
    ⟨(some 7), none, .mv (.t 15)⟩])
  (.sq (.rg [⟨(some 16), none, .mv (.t 7)⟩,
    ⟨(some 17), none, .ib .lss (.t 16) (.c (.int .i64 0))⟩,
    ⟨(some 18), none, .mv (.t 17)⟩,
    ⟨(some 19), (some (18, false)), .mv (.t 7)⟩,
    ⟨(some 20), (some (18, false)), .mv (.t 0)⟩,
    ⟨(some 21), (some (18, false)), .nc (.t 20)⟩,
    ⟨(some 22), (some (18, false)), .fa (.t 21) 3⟩,
    ⟨(some 23), (some (18, false)), .ld (.t 22) 1 false⟩,
    ⟨(some 24), (some (18, false)), .ib .geq (.t 19) (.t 23)⟩,
    ⟨(some 25), none, .pk (.t 18) (.c (.bool true)) (.t 24)⟩,
    ⟨(some 26), none, .mv (.t 25)⟩,
    ⟨(some 27), (some (26, false)), .mv (.t 1)⟩,
    ⟨(some 28), (some (26, false)), .mv (.t 6)⟩,
    ⟨(some 29), (some (26, false)), .sl 1 (.t 27) none (some (.t 28)) none⟩,
    ⟨(some 30), (some (26, false)), .mv (.t 7)⟩,
    ⟨(some 31), (some (26, false)), .ca 265 [(.t 29), (.t 30)]⟩,
    ⟨(some 32), none, .pk (.t 26) (.c (.bool true)) (.t 31)⟩])
  (.cd (.t 32)
  (.sq (.rg [⟨(some 4), none, .mv (.c (.pointer none))⟩,
    ⟨(some 5), none, .mv (.c (.int .i64 1))⟩])
  .rt)
  .sk))))
  (.rg [⟨(some 33), none, .ib .add (.t 11) (.c (.int .i64 1))⟩,
    ⟨(some 11), none, .mv (.t 33)⟩])))))))
  (.sq (.rg [⟨(some 34), none, .mv (.t 0)⟩,
    ⟨(some 35), none, .mv (.t 1)⟩,
    ⟨(some 36), none, .ca 189 [(.t 35)]⟩,
    ⟨(some 37), none, .bd [.nilFunc, .nilFunc, .nilFunc, .nilFunc, (.int .i64 0), (.pointer none), (.slice none 0 0), (.int .i64 0), (.int .u64 0)] [(5, 1, (.t 34)), (6, 1, (.t 36))]⟩,
    ⟨(some 38), none, .bx 296 (.t 37)⟩,
    ⟨(some 8), none, .mv (.t 38)⟩])
  (.sq (.sq (.rg [⟨(some 39), none, .mv (.t 1)⟩,
    ⟨(some 40), none, .len (.t 39)⟩])
  (.bl 2
  (.sq (.rg [⟨(some 48), none, .ib .eql (.t 40) (.c (.int .i64 0))⟩,
    ⟨(some 47), none, .mv (.t 48)⟩])
  (.cd (.t 47)
  .sk
  (.sq (.rg [⟨(some 50), none, .ib .eql (.t 40) (.c (.int .i64 1))⟩,
    ⟨(some 49), none, .mv (.t 50)⟩])
  (.cd (.t 49)
  (.rg [⟨(some 51), none, .mv (.t 8)⟩,
    ⟨(some 52), none, .nc (.t 51)⟩,
    ⟨(some 53), none, .fa (.t 52) 0⟩,
    ⟨(some 54), none, .mv (.t 8)⟩,
    ⟨(some 55), none, .mf (.func 266) [(.t 54)] []⟩,
    ⟨(some 56), none, .ca 79 [(.t 53), (.t 55)]⟩])
  (.rg [⟨(some 41), none, .mv (.t 8)⟩,
    ⟨(some 42), none, .nc (.t 41)⟩,
    ⟨(some 43), none, .fa (.t 42) 0⟩,
    ⟨(some 44), none, .mv (.t 8)⟩,
    ⟨(some 45), none, .mf (.func 267) [(.t 44)] []⟩,
    ⟨(some 46), none, .ca 79 [(.t 43), (.t 45)]⟩])))))))
  (.sq (.rg [⟨(some 57), none, .mv (.t 8)⟩,
    ⟨(some 4), none, .mv (.t 57)⟩,
    ⟨(some 5), none, .mv (.c (.int .i64 0))⟩])
  .rt)))))⟩
theorem k258 : cF Tryz.prog Tryz.f258 = some c258 := by kernel_rfl
/-- rundale/bits.Fits -/
def c260 : Fu := ⟨10, [.t 4],
  (.sq (.rg [⟨(some 4), none, .mv (.c (.bool false))⟩])
  (.sq (.rg [⟨(some 5), none, .mv (.t 0)⟩,
    ⟨(some 6), none, .mv (.t 1)⟩,
    ⟨(some 7), none, .ca 226 [(.t 6)]⟩,
    ⟨(some 8), none, .ib .andNot (.t 5) (.t 7)⟩,
    ⟨(some 9), none, .ib .eql (.t 8) (.c (.int .u64 0))⟩,
    ⟨(some 4), none, .mv (.t 9)⟩])
  .rt))⟩
theorem k260 : cF Tryz.prog Tryz.f260 = some c260 := by kernel_rfl
/-- (*rundale/supply.Give).end -/
def c261 : Fu := ⟨2, [],
  .sk⟩
theorem k261 : cF Tryz.prog Tryz.f261 = some c261 := by kernel_rfl
/-- (*rundale/stash.Stash).cut -/
def c262 : Fu := ⟨24, [.t 4],
  (.sq (.rg [⟨(some 4), none, .mv (.c (.slice none 0 0))⟩])
  (.sq (.rg [⟨(some 6), none, .mv (.t 0)⟩,
    ⟨(some 7), none, .nc (.t 6)⟩,
    ⟨(some 8), none, .fa (.t 7) 1⟩,
    ⟨(some 9), none, .ld (.t 8) 1 false⟩,
    ⟨(some 10), none, .mv (.t 1)⟩,
    ⟨(some 11), none, .sl 1 (.t 9) none (some (.t 10)) none⟩,
    ⟨(some 12), none, .ca 189 [(.t 11)]⟩,
    ⟨(some 5), none, .mv (.t 12)⟩])
  (.sq (.rg [⟨(some 13), none, .mv (.t 0)⟩,
    ⟨(some 14), none, .mv (.t 0)⟩,
    ⟨(some 15), none, .nc (.t 14)⟩,
    ⟨(some 16), none, .fa (.t 15) 1⟩,
    ⟨(some 17), none, .ld (.t 16) 1 false⟩,
    ⟨(some 18), none, .mv (.t 1)⟩,
    ⟨(some 19), none, .sl 1 (.t 17) (some (.t 18)) none none⟩,
    ⟨(some 20), none, .ca 189 [(.t 19)]⟩,
    ⟨(some 21), none, .nc (.t 13)⟩,
    ⟨(some 22), none, .fa (.t 21) 1⟩,
    ⟨none, none, .st (.t 22) (.t 20) 1⟩])
  (.sq (.rg [⟨(some 23), none, .mv (.t 5)⟩,
    ⟨(some 4), none, .mv (.t 23)⟩])
  .rt))))⟩
theorem k262 : cF Tryz.prog Tryz.f262 = some c262 := by kernel_rfl
/-- (*rundale/stack.Pop).cas -/
def c263 : Fu := ⟨22, [],
  (.sq (.rd [⟨0, 0, [0], ⟨(some 2), none, .mv (.t 0)⟩⟩,
    ⟨1, 1, [2], ⟨(some 3), none, .nc (.t 2)⟩⟩,
    ⟨2, 3, [3], ⟨(some 4), none, .fa (.t 3) 5⟩⟩,
    ⟨3, 7, [4], ⟨(some 5), none, .ld (.t 4) 1 false⟩⟩,
    ⟨4, 0, [0], ⟨(some 6), none, .mv (.t 0)⟩⟩,
    ⟨5, 16, [6], ⟨(some 7), none, .nc (.t 6)⟩⟩,
    ⟨6, 48, [7], ⟨(some 8), none, .fa (.t 7) 8⟩⟩,
    ⟨7, 112, [8], ⟨(some 9), none, .ld (.t 8) 1 false⟩⟩,
    ⟨8, 0, [0], ⟨(some 10), none, .mv (.t 0)⟩⟩,
    ⟨9, 256, [10], ⟨(some 11), none, .nc (.t 10)⟩⟩,
    ⟨10, 768, [11], ⟨(some 12), none, .fa (.t 11) 7⟩⟩,
    ⟨11, 1792, [12], ⟨(some 13), none, .ld (.t 12) 1 false⟩⟩,
    ⟨12, 4095, [5, 9, 13], ⟨(some 14), none, .ca 268 [(.t 5), (.t 9), (.t 13)]⟩⟩,
    ⟨13, 8191, [14], ⟨(some 15), none, .nt (.t 14)⟩⟩])
  (.cd (.t 15)
  (.rg [⟨(some 16), none, .mv (.t 0)⟩,
    ⟨(some 17), none, .nc (.t 16)⟩,
    ⟨(some 18), none, .fa (.t 17) 0⟩,
    ⟨(some 19), none, .mv (.t 0)⟩,
    ⟨(some 20), none, .mf (.func 222) [(.t 19)] []⟩,
    ⟨(some 21), none, .ca 79 [(.t 18), (.t 20)]⟩])
  .sk))⟩
theorem k263 : cF Tryz.prog Tryz.f263 = some c263 := by kernel_rfl
/-- slices.Contains[[]int,int] -/
def c265 : Fu := ⟨9, [.t 4],
  (.sq (.rg [⟨(some 4), none, .mv (.c (.bool false))⟩])
  (.sq (.rg [⟨(some 5), none, .mv (.t 0)⟩,
    ⟨(some 6), none, .mv (.t 1)⟩,
    ⟨(some 7), none, .ca 269 [(.t 5), (.t 6)]⟩,
    ⟨(some 8), none, .ib .geq (.t 7) (.c (.int .i64 0))⟩,
    ⟨(some 4), none, .mv (.t 8)⟩])
  .rt))⟩
theorem k265 : cF Tryz.prog Tryz.f265 = some c265 := by kernel_rfl
/-- (*rundale/stack.Push).load -/
def c266 : Fu := ⟨29, [],
  (.sq (.rd [⟨0, 0, [0], ⟨(some 3), none, .mv (.t 0)⟩⟩,
    ⟨1, 0, [0], ⟨(some 4), none, .mv (.t 0)⟩⟩,
    ⟨2, 2, [4], ⟨(some 5), none, .nc (.t 4)⟩⟩,
    ⟨3, 6, [5], ⟨(some 6), none, .fa (.t 5) 5⟩⟩,
    ⟨4, 14, [6], ⟨(some 7), none, .ld (.t 6) 1 false⟩⟩,
    ⟨5, 30, [7], ⟨(some 8), none, .nc (.t 7)⟩⟩,
    ⟨6, 62, [8], ⟨(some 9), none, .fa (.t 8) 0⟩⟩,
    ⟨7, 126, [9], ⟨(some 10), none, .ld (.t 9) 1 false⟩⟩,
    ⟨8, 0, [0], ⟨(some 11), none, .mv (.t 0)⟩⟩,
    ⟨9, 256, [11], ⟨(some 12), none, .nc (.t 11)⟩⟩,
    ⟨10, 768, [12], ⟨(some 13), none, .fa (.t 12) 5⟩⟩,
    ⟨11, 1792, [13], ⟨(some 14), none, .ld (.t 13) 1 false⟩⟩,
    ⟨12, 3840, [14], ⟨(some 15), none, .nc (.t 14)⟩⟩,
    ⟨13, 7936, [15], ⟨(some 16), none, .fa (.t 15) 1⟩⟩,
    ⟨14, 16128, [16], ⟨(some 17), none, .ld (.t 16) 1 false⟩⟩,
    ⟨15, 32766, [10, 17], ⟨(some 18), none, .ca 151 [(.t 10), (.t 17)]⟩⟩,
    ⟨16, 65534, [18], ⟨(some 2), none, .mv (.t 18)⟩⟩,
    ⟨17, 131070, [2], ⟨(some 19), none, .ex (.t 2) 0⟩⟩,
    ⟨18, 131070, [2], ⟨(some 20), none, .ex (.t 2) 1⟩⟩,
    ⟨19, 262143, [3], ⟨(some 21), none, .nc (.t 3)⟩⟩,
    ⟨20, 786431, [21], ⟨(some 22), none, .fa (.t 21) 8⟩⟩,
    ⟨21, 1835007, [22, 19], ⟨none, none, .st (.t 22) (.t 19) 1⟩⟩])
  (.rg [⟨(some 23), none, .mv (.t 0)⟩,
    ⟨(some 24), none, .nc (.t 23)⟩,
    ⟨(some 25), none, .fa (.t 24) 0⟩,
    ⟨(some 26), none, .mv (.t 0)⟩,
    ⟨(some 27), none, .mf (.func 270) [(.t 26)] []⟩,
    ⟨(some 28), none, .ca 79 [(.t 25), (.t 27)]⟩]))⟩
theorem k266 : cF Tryz.prog Tryz.f266 = some c266 := by kernel_rfl
/-- (*rundale/stack.Push).link -/
def c267 : Fu := ⟨71, [],
  (.sq (.rd [⟨0, 0, [0], ⟨(some 2), none, .mv (.t 0)⟩⟩,
    ⟨1, 1, [2], ⟨(some 3), none, .nc (.t 2)⟩⟩,
    ⟨2, 3, [3], ⟨(some 4), none, .fa (.t 3) 5⟩⟩,
    ⟨3, 7, [4], ⟨(some 5), none, .ld (.t 4) 1 false⟩⟩,
    ⟨4, 15, [5], ⟨(some 6), none, .nc (.t 5)⟩⟩,
    ⟨5, 31, [6], ⟨(some 7), none, .fa (.t 6) 0⟩⟩,
    ⟨6, 63, [7], ⟨(some 8), none, .ld (.t 7) 1 false⟩⟩,
    ⟨7, 0, [0], ⟨(some 9), none, .mv (.t 0)⟩⟩,
    ⟨8, 128, [9], ⟨(some 10), none, .nc (.t 9)⟩⟩,
    ⟨9, 384, [10], ⟨(some 11), none, .fa (.t 10) 5⟩⟩,
    ⟨10, 896, [11], ⟨(some 12), none, .ld (.t 11) 1 false⟩⟩,
    ⟨11, 1920, [12], ⟨(some 13), none, .nc (.t 12)⟩⟩,
    ⟨12, 3968, [13], ⟨(some 14), none, .fa (.t 13) 2⟩⟩,
    ⟨13, 8064, [14], ⟨(some 15), none, .ld (.t 14) 1 false⟩⟩,
    ⟨14, 0, [0], ⟨(some 16), none, .mv (.t 0)⟩⟩,
    ⟨15, 16384, [16], ⟨(some 17), none, .nc (.t 16)⟩⟩,
    ⟨16, 49152, [17], ⟨(some 18), none, .fa (.t 17) 6⟩⟩,
    ⟨17, 114688, [18], ⟨(some 19), none, .ld (.t 18) 1 false⟩⟩,
    ⟨18, 0, [0], ⟨(some 20), none, .mv (.t 0)⟩⟩,
    ⟨19, 262144, [20], ⟨(some 21), none, .nc (.t 20)⟩⟩,
    ⟨20, 786432, [21], ⟨(some 22), none, .fa (.t 21) 7⟩⟩,
    ⟨21, 1835008, [22], ⟨(some 23), none, .ld (.t 22) 1 false⟩⟩,
    ⟨22, 4177920, [19, 23], ⟨(some 24), none, .ia (.t 19) (.t 23) 1⟩⟩,
    ⟨23, 8372224, [24], ⟨(some 25), none, .ld (.t 24) 1 false⟩⟩,
    ⟨24, 16777088, [15, 25], ⟨(some 26), none, .ib .add (.t 15) (.t 25)⟩⟩,
    ⟨25, 0, [0], ⟨(some 27), none, .mv (.t 0)⟩⟩,
    ⟨26, 33554432, [27], ⟨(some 28), none, .nc (.t 27)⟩⟩,
    ⟨27, 100663296, [28], ⟨(some 29), none, .fa (.t 28) 6⟩⟩,
    ⟨28, 234881024, [29], ⟨(some 30), none, .ld (.t 29) 1 false⟩⟩,
    ⟨29, 0, [0], ⟨(some 31), none, .mv (.t 0)⟩⟩,
    ⟨30, 536870912, [31], ⟨(some 32), none, .nc (.t 31)⟩⟩,
    ⟨31, 1610612736, [32], ⟨(some 33), none, .fa (.t 32) 7⟩⟩,
    ⟨32, 3758096384, [33], ⟨(some 34), none, .ld (.t 33) 1 false⟩⟩,
    ⟨33, 8053063680, [34], ⟨(some 35), none, .ib .add (.t 34) (.c (.int .i64 1))⟩⟩,
    ⟨34, 17146314752, [30, 35], ⟨(some 36), none, .ia (.t 30) (.t 35) 1⟩⟩,
    ⟨35, 34326183936, [36], ⟨(some 37), none, .ld (.t 36) 1 false⟩⟩,
    ⟨36, 68685922304, [37], ⟨(some 38), none, .ib .add (.t 37) (.c (.int .i64 1))⟩⟩,
    ⟨37, 137405399040, [38], ⟨(some 39), none, .cv .u64 (.t 38)⟩⟩,
    ⟨38, 274877906943, [8, 26, 39], ⟨(some 40), none, .ca 214 [(.t 8), (.t 26), (.t 39)]⟩⟩])
  (.sq (.rg [⟨(some 41), none, .mv (.t 0)⟩,
    ⟨(some 42), none, .nc (.t 41)⟩,
    ⟨(some 43), none, .fa (.t 42) 7⟩,
    ⟨(some 44), none, .ld (.t 43) 1 false⟩,
    ⟨(some 45), none, .ib .add (.t 44) (.c (.int .i64 1))⟩,
    ⟨(some 46), none, .nc (.t 41)⟩,
    ⟨(some 47), none, .fa (.t 46) 7⟩,
    ⟨none, none, .st (.t 47) (.t 45) 1⟩])
  (.sq (.rd [⟨0, 0, [0], ⟨(some 48), none, .mv (.t 0)⟩⟩,
    ⟨1, 1, [48], ⟨(some 49), none, .nc (.t 48)⟩⟩,
    ⟨2, 3, [49], ⟨(some 50), none, .fa (.t 49) 7⟩⟩,
    ⟨3, 7, [50], ⟨(some 51), none, .ld (.t 50) 1 false⟩⟩,
    ⟨4, 0, [0], ⟨(some 52), none, .mv (.t 0)⟩⟩,
    ⟨5, 16, [52], ⟨(some 53), none, .nc (.t 52)⟩⟩,
    ⟨6, 48, [53], ⟨(some 54), none, .fa (.t 53) 6⟩⟩,
    ⟨7, 112, [54], ⟨(some 55), none, .ld (.t 54) 1 false⟩⟩,
    ⟨8, 240, [55], ⟨(some 56), none, .len (.t 55)⟩⟩,
    ⟨9, 496, [56], ⟨(some 57), none, .ib .sub (.t 56) (.c (.int .i64 1))⟩⟩,
    ⟨10, 1023, [51, 57], ⟨(some 58), none, .ib .lss (.t 51) (.t 57)⟩⟩])
  (.cd (.t 58)
  (.rg [⟨(some 59), none, .mv (.t 0)⟩,
    ⟨(some 60), none, .nc (.t 59)⟩,
    ⟨(some 61), none, .fa (.t 60) 0⟩,
    ⟨(some 62), none, .mv (.t 0)⟩,
    ⟨(some 63), none, .mf (.func 267) [(.t 62)] []⟩,
    ⟨(some 64), none, .ca 79 [(.t 61), (.t 63)]⟩])
  (.rg [⟨(some 65), none, .mv (.t 0)⟩,
    ⟨(some 66), none, .nc (.t 65)⟩,
    ⟨(some 67), none, .fa (.t 66) 0⟩,
    ⟨(some 68), none, .mv (.t 0)⟩,
    ⟨(some 69), none, .mf (.func 266) [(.t 68)] []⟩,
    ⟨(some 70), none, .ca 79 [(.t 67), (.t 69)]⟩])))))⟩
theorem k267 : cF Tryz.prog Tryz.f267 = some c267 := by kernel_rfl
/-- (*rundale/stack.Stack).exchange -/
def c268 : Fu := ⟨34, [.t 6],
  (.sq (.rg [⟨(some 6), none, .mv (.c (.bool false))⟩])
  (.sq (.rg [⟨(some 12), none, .mv (.t 1)⟩,
    ⟨(some 13), none, .ca 171 [(.t 12)]⟩,
    ⟨(some 14), none, .mv (.t 2)⟩,
    ⟨(some 15), none, .ca 271 [(.t 13), (.t 14)]⟩,
    ⟨(some 16), none, .ca 203 [(.t 15)]⟩,
    ⟨(some 11), none, .mv (.t 16)⟩,
    ⟨(some 17), none, .ex (.t 11) 0⟩,
    ⟨(some 18), none, .ex (.t 11) 1⟩,
    ⟨(some 7), none, .mv (.t 17)⟩,
    ⟨(some 8), none, .mv (.t 18)⟩])
  (.sq (.rd [⟨0, 0, [0], ⟨(some 20), none, .mv (.t 0)⟩⟩,
    ⟨1, 1, [20], ⟨(some 21), none, .nc (.t 20)⟩⟩,
    ⟨2, 3, [21], ⟨(some 22), none, .fa (.t 21) 0⟩⟩,
    ⟨3, 7, [22], ⟨(some 23), none, .ld (.t 22) 1 false⟩⟩,
    ⟨4, 0, [0], ⟨(some 24), none, .mv (.t 0)⟩⟩,
    ⟨5, 16, [24], ⟨(some 25), none, .nc (.t 24)⟩⟩,
    ⟨6, 48, [25], ⟨(some 26), none, .fa (.t 25) 1⟩⟩,
    ⟨7, 112, [26], ⟨(some 27), none, .ld (.t 26) 1 false⟩⟩,
    ⟨8, 0, [1], ⟨(some 28), none, .mv (.t 1)⟩⟩,
    ⟨9, 0, [7], ⟨(some 29), none, .mv (.t 7)⟩⟩,
    ⟨10, 1023, [23, 27, 28, 29], ⟨(some 30), none, .ca 228 [(.t 23), (.t 27), (.t 28), (.t 29)]⟩⟩,
    ⟨11, 2047, [30], ⟨(some 19), none, .mv (.t 30)⟩⟩,
    ⟨12, 4095, [19], ⟨(some 31), none, .ex (.t 19) 0⟩⟩,
    ⟨13, 4095, [19], ⟨(some 32), none, .ex (.t 19) 1⟩⟩,
    ⟨14, 8191, [31], ⟨(some 9), none, .mv (.t 31)⟩⟩,
    ⟨15, 32767, [32], ⟨(some 10), none, .mv (.t 32)⟩⟩])
  (.sq (.rg [⟨(some 33), none, .mv (.t 9)⟩,
    ⟨(some 6), none, .mv (.t 33)⟩])
  .rt))))⟩
theorem k268 : cF Tryz.prog Tryz.f268 = some c268 := by kernel_rfl
/-- slices.Index[[]int,int] -/
def c269 : Fu := ⟨19, [.t 4],
  (.sq (.rg [⟨(some 4), none, .mv (.c (.int .i64 0))⟩])
  (.sq (.sq (.rg [⟨(some 6), none, .mv (.t 0)⟩,
    ⟨(some 7), none, .len (.t 6)⟩,
    ⟨(some 8), none, .mv (.c (.int .i64 0))⟩])
  (.bl 0
  (.lp
  (.sq (.rg [⟨(some 9), none, .ib .lss (.t 8) (.t 7)⟩])
  (.sq (.cd (.t 9)
  .sk
  (.ex 0))
  (.sq (.bl 1
  (.sq (.rg [⟨(some 10), none, .mv (.t 8)⟩,
    ⟨(some 5), none, .mv (.t 10)⟩])
  (.sq (.rg [⟨(some 11), none, .mv (.t 1)⟩,
    ⟨(some 12), none, .mv (.t 0)⟩,
    ⟨(some 13), none, .mv (.t 5)⟩,
    ⟨(some 14), none, .ia (.t 12) (.t 13) 1⟩,
    ⟨(some 15), none, .ld (.t 14) 1 false⟩,
    ⟨(some 16), none, .ib .eql (.t 11) (.t 15)⟩])
  (.cd (.t 16)
  (.sq (.rg [⟨(some 17), none, .mv (.t 5)⟩,
    ⟨(some 4), none, .mv (.t 17)⟩])
  .rt)
  .sk))))
  (.rg [⟨(some 18), none, .ib .add (.t 8) (.c (.int .i64 1))⟩,
    ⟨(some 8), none, .mv (.t 18)⟩])))))))
  (.sq (.rg [⟨(some 4), none, .mv (.c (.int .i64 (-1)))⟩])
  .rt)))⟩
theorem k269 : cF Tryz.prog Tryz.f269 = some c269 := by kernel_rfl
/-- (*rundale/stack.Push).last -/
def c270 : Fu := ⟨47, [],
  (.sq (.rd [⟨0, 0, [0], ⟨(some 2), none, .mv (.t 0)⟩⟩,
    ⟨1, 1, [2], ⟨(some 3), none, .nc (.t 2)⟩⟩,
    ⟨2, 3, [3], ⟨(some 4), none, .fa (.t 3) 5⟩⟩,
    ⟨3, 7, [4], ⟨(some 5), none, .ld (.t 4) 1 false⟩⟩,
    ⟨4, 15, [5], ⟨(some 6), none, .nc (.t 5)⟩⟩,
    ⟨5, 31, [6], ⟨(some 7), none, .fa (.t 6) 0⟩⟩,
    ⟨6, 63, [7], ⟨(some 8), none, .ld (.t 7) 1 false⟩⟩,
    ⟨7, 0, [0], ⟨(some 9), none, .mv (.t 0)⟩⟩,
    ⟨8, 128, [9], ⟨(some 10), none, .nc (.t 9)⟩⟩,
    ⟨9, 384, [10], ⟨(some 11), none, .fa (.t 10) 5⟩⟩,
    ⟨10, 896, [11], ⟨(some 12), none, .ld (.t 11) 1 false⟩⟩,
    ⟨11, 1920, [12], ⟨(some 13), none, .nc (.t 12)⟩⟩,
    ⟨12, 3968, [13], ⟨(some 14), none, .fa (.t 13) 2⟩⟩,
    ⟨13, 8064, [14], ⟨(some 15), none, .ld (.t 14) 1 false⟩⟩,
    ⟨14, 0, [0], ⟨(some 16), none, .mv (.t 0)⟩⟩,
    ⟨15, 16384, [16], ⟨(some 17), none, .nc (.t 16)⟩⟩,
    ⟨16, 49152, [17], ⟨(some 18), none, .fa (.t 17) 6⟩⟩,
    ⟨17, 114688, [18], ⟨(some 19), none, .ld (.t 18) 1 false⟩⟩,
    ⟨18, 0, [0], ⟨(some 20), none, .mv (.t 0)⟩⟩,
    ⟨19, 262144, [20], ⟨(some 21), none, .nc (.t 20)⟩⟩,
    ⟨20, 786432, [21], ⟨(some 22), none, .fa (.t 21) 6⟩⟩,
    ⟨21, 1835008, [22], ⟨(some 23), none, .ld (.t 22) 1 false⟩⟩,
    ⟨22, 3932160, [23], ⟨(some 24), none, .len (.t 23)⟩⟩,
    ⟨23, 8126464, [24], ⟨(some 25), none, .ib .sub (.t 24) (.c (.int .i64 1))⟩⟩,
    ⟨24, 16760832, [19, 25], ⟨(some 26), none, .ia (.t 19) (.t 25) 1⟩⟩,
    ⟨25, 33538048, [26], ⟨(some 27), none, .ld (.t 26) 1 false⟩⟩,
    ⟨26, 67108736, [15, 27], ⟨(some 28), none, .ib .add (.t 15) (.t 27)⟩⟩,
    ⟨27, 0, [0], ⟨(some 29), none, .mv (.t 0)⟩⟩,
    ⟨28, 134217728, [29], ⟨(some 30), none, .nc (.t 29)⟩⟩,
    ⟨29, 402653184, [30], ⟨(some 31), none, .fa (.t 30) 5⟩⟩,
    ⟨30, 939524096, [31], ⟨(some 32), none, .ld (.t 31) 1 false⟩⟩,
    ⟨31, 0, [0], ⟨(some 33), none, .mv (.t 0)⟩⟩,
    ⟨32, 2147483648, [33], ⟨(some 34), none, .nc (.t 33)⟩⟩,
    ⟨33, 6442450944, [34], ⟨(some 35), none, .fa (.t 34) 8⟩⟩,
    ⟨34, 15032385536, [35], ⟨(some 36), none, .ld (.t 35) 1 false⟩⟩,
    ⟨35, 34225520640, [32, 36], ⟨(some 37), none, .ca 95 [(.t 32), (.t 36)]⟩⟩,
    ⟨36, 68585259008, [37], ⟨(some 38), none, .ib .add (.t 37) (.c (.int .i64 1))⟩⟩,
    ⟨37, 137304735744, [38], ⟨(some 39), none, .cv .u64 (.t 38)⟩⟩,
    ⟨38, 274877906943, [8, 28, 39], ⟨(some 40), none, .ca 214 [(.t 8), (.t 28), (.t 39)]⟩⟩])
  (.rg [⟨(some 41), none, .mv (.t 0)⟩,
    ⟨(some 42), none, .nc (.t 41)⟩,
    ⟨(some 43), none, .fa (.t 42) 0⟩,
    ⟨(some 44), none, .mv (.t 0)⟩,
    ⟨(some 45), none, .mf (.func 272) [(.t 44)] []⟩,
    ⟨(some 46), none, .ca 79 [(.t 43), (.t 45)]⟩]))⟩
theorem k270 : cF Tryz.prog Tryz.f270 = some c270 := by kernel_rfl
/-- rundale/word.Next -/
def c271 : Fu := ⟨15, [.c 4 2 true],
  (.sq (.rg [⟨(some 2), none, .bx 238 (.t 0)⟩,
    ⟨(some 4), none, .al 238 [(.int .i64 0), (.int .i64 0)]⟩])
  (.sq (.rg [⟨(some 5), none, .mv (.c (.int .i64 0))⟩])
  (.sq (.sq (.rg [⟨(some 6), none, .fa (.t 2) 1⟩,
    ⟨(some 7), none, .ld (.t 6) 1 false⟩,
    ⟨(some 8), none, .ca 243 [(.t 7), (.c (.int .i64 0)), (.c (.int .i64 4294967294))]⟩])
  (.cd (.t 8)
  (.rg [⟨(some 9), none, .fa (.t 2) 1⟩,
    ⟨(some 10), none, .ld (.t 9) 1 false⟩,
    ⟨(some 11), none, .ib .add (.t 10) (.c (.int .i64 1))⟩,
    ⟨(some 5), none, .mv (.t 11)⟩])
  .sk))
  (.sq (.rg [⟨(some 12), none, .mv (.t 1)⟩,
    ⟨(some 13), none, .mv (.t 5)⟩,
    ⟨(some 14), none, .bd [(.int .i64 0), (.int .i64 0)] [(0, 1, (.t 12)), (1, 1, (.t 13))]⟩,
    ⟨none, none, .st (.t 4) (.t 14) 2⟩])
  .rt))))⟩
theorem k271 : cF Tryz.prog Tryz.f271 = some c271 := by kernel_rfl
/-- (*rundale/stack.Push).cas -/
def c272 : Fu := ⟨24, [],
  (.sq (.rd [⟨0, 0, [0], ⟨(some 2), none, .mv (.t 0)⟩⟩,
    ⟨1, 1, [2], ⟨(some 3), none, .nc (.t 2)⟩⟩,
    ⟨2, 3, [3], ⟨(some 4), none, .fa (.t 3) 5⟩⟩,
    ⟨3, 7, [4], ⟨(some 5), none, .ld (.t 4) 1 false⟩⟩,
    ⟨4, 0, [0], ⟨(some 6), none, .mv (.t 0)⟩⟩,
    ⟨5, 16, [6], ⟨(some 7), none, .nc (.t 6)⟩⟩,
    ⟨6, 48, [7], ⟨(some 8), none, .fa (.t 7) 8⟩⟩,
    ⟨7, 112, [8], ⟨(some 9), none, .ld (.t 8) 1 false⟩⟩,
    ⟨8, 0, [0], ⟨(some 10), none, .mv (.t 0)⟩⟩,
    ⟨9, 256, [10], ⟨(some 11), none, .nc (.t 10)⟩⟩,
    ⟨10, 768, [11], ⟨(some 12), none, .fa (.t 11) 6⟩⟩,
    ⟨11, 1792, [12], ⟨(some 13), none, .ld (.t 12) 1 false⟩⟩,
    ⟨12, 3840, [13], ⟨(some 14), none, .ia (.t 13) (.c (.int .i64 0)) 1⟩⟩,
    ⟨13, 7936, [14], ⟨(some 15), none, .ld (.t 14) 1 false⟩⟩,
    ⟨14, 16383, [5, 9, 15], ⟨(some 16), none, .ca 268 [(.t 5), (.t 9), (.t 15)]⟩⟩,
    ⟨15, 32767, [16], ⟨(some 17), none, .nt (.t 16)⟩⟩])
  (.cd (.t 17)
  (.rg [⟨(some 18), none, .mv (.t 0)⟩,
    ⟨(some 19), none, .nc (.t 18)⟩,
    ⟨(some 20), none, .fa (.t 19) 0⟩,
    ⟨(some 21), none, .mv (.t 0)⟩,
    ⟨(some 22), none, .mf (.func 266) [(.t 21)] []⟩,
    ⟨(some 23), none, .ca 79 [(.t 20), (.t 22)]⟩])
  .sk))⟩
theorem k272 : cF Tryz.prog Tryz.f272 = some c272 := by kernel_rfl
end Go.Proofs.YtflalhdofhobmaaGreat

/-
  The functions' small code, all of it.
-/
namespace Go.Proofs.YtflalhdofhobmaaGreat
end Go.Proofs.YtflalhdofhobmaaGreat

/-
  The stash (chapter 8): what its functions do to it.
-/
set_option linter.unusedVariables false
namespace Go.Proofs.YtflalhdofhobmaaGreat
open Go
attribute [local irreducible] Sx Cx Rx Fx Krg Ksq Kbl Klp Kr
/-- Whole numbers as cells. -/
def ints (xs : List Int) : List Value := xs.map (Value.int .i64)
theorem length_ints (xs : List Int) : (ints xs).length = xs.length := by simp [ints]
theorem ones_ints (xs : List Int) : ones (ints xs) = true := by simp [ones, ints, Value.oneCell']
theorem ints_append (xs ys : List Int) : ints (xs ++ ys) = ints xs ++ ints ys := by simp [ints]
theorem ints_take (xs : List Int) (n : Nat) : (ints xs).take n = ints (xs.take n) := by simp [ints, List.map_take]
theorem ints_drop (xs : List Int) (n : Nat) : (ints xs).drop n = ints (xs.drop n) := by simp [ints, List.map_drop]
section
variable {L F : St}
theorem Ent.rownil (E sz : Nat) : Ent L (pt none (Row E sz 0 0 []) :: L) := .of fun h H =>
  ⟨Hp.no, h, fun _ => .inl rfl, by funext k; simp [Hp.join, Hp.no], ⟨by simp, .inl ⟨rfl, rfl, rfl, rfl⟩⟩, H⟩
theorem Row.shrink {E sz n cap m : Nat} {xs : List Value} {a : Option Addr} (hm : m ≤ n) : ∀ g, pt a (Row E sz n cap xs) g → pt a (Row E sz m cap (xs.take (m * sz))) g := by
  rintro h ⟨hx, hh⟩
  have hms : m * sz ≤ n * sz := Nat.mul_le_mul_right _ hm
  refine ⟨by rw [List.length_take, hx]; omega, ?_⟩
  rcases hh with ⟨h1, h2, h3, h4⟩ | ⟨g, cur, h1, h2, h3, h4, h5, h6⟩
  · exact .inl ⟨h1, by omega, h3, h4⟩
  · refine .inr ⟨g, cur, h1, h2, by omega, h4, h5, ?_⟩
    rw [← h6, List.take_take, Nat.min_eq_left hms]
/-- slices.Clone, of whole numbers. -/
theorem clone {a : Option Addr} {m c : Nat} {vs : List Value} (hr : Rd L 1 a m vs) (h1 : ones vs = true) (hm : m ≤ 1000000000) :
    Fx Tryz.prog 189 [.slice a m c] L (fun v L' => ∃ a' c', v = .slice a' m c' ∧ L' = pt a' (Row 3 1 m c' vs) :: L) := by
  refine Fx.mk Tryz.func189 k189 (Nat.le_of_ble_eq_true rfl) ?_
  dsimp only [c189, envOf, Nat.reduceAdd]
  cases a with
  | none =>
    refine go ?_
    have hm0 : m = 0 := by
      rcases hr.2 with h | ⟨b, o, h, _⟩
      · exact h
      · cases h
    subst hm0
    have hv : vs = [] := List.eq_nil_of_length_eq_zero (by simpa using hr.1)
    subst hv
    exact Kr.one (.inr rfl) rfl (Ent.rownil _ _) ⟨none, 0, rfl, rfl⟩
  | some a =>
    refine go ?_
    refine Sx.bs (sz := 1) rfl rfl fun g => ?_
    refine go ?_
    refine Sx.ap rfl rfl (hr.ent Ent.drop) h1 (by simp [maxLen]; omega) (by omega) fun ra ca hc => ?_
    refine go ?_
    refine Kr.one (.inr rfl) rfl (Ent.refl _) ⟨ra, ca, ?_, ?_⟩
    · simp
    · simp
/-- A stash: how many it keeps, what it has. -/
def StashT (T : TypeId) (most : Int) (xs : List Int) (a : Option Addr) : As :=
  exs fun (y : Option Addr × Nat) => [pt a (Blk T [.int .i64 most, .slice y.1 xs.length y.2]), pt y.1 (Row 3 1 xs.length y.2 (ints xs))]
abbrev StashO := StashT 250
theorem StashO.close {T : TypeId} {most : Int} {xs : List Int} {a r : Option Addr} {cap n : Nat} {v : Value} {vs : List Value} {F G : St} [t : Take L a (Blk T [v, .slice r n cap]) F] [u : Take F r (Row 3 1 n cap vs) G]
    (hn : n = xs.length) (hv : v = .int .i64 most) (hvs : vs = ints xs) : Ent L (pt a (StashT T most xs) :: G) := by
  subst hn; subst hv; subst hvs
  exact (Ent.take1 (t := t) (Ent.of u.out)).trans (Ent.close (f := fun (y : Option Addr × Nat) => [pt a (Blk T [.int .i64 most, .slice y.1 xs.length y.2]), pt y.1 (Row 3 1 xs.length y.2 (ints xs))]) rfl (r, cap))
theorem stashNew (m : Int) : Fx Tryz.prog 147 [.int .i64 m] L (fun v L' => ∃ g, v = .pointer (some ⟨g, 0, none⟩) ∧ L' = pt (some ⟨g, 0, none⟩) (StashO (min (max m 0) 64) []) :: L) := by
  refine Fx.mk Tryz.func147 k147 (Nat.le_of_ble_eq_true rfl) ?_
  dsimp only [c147, envOf, Nat.reduceAdd]
  refine go ?_
  refine Sx.bx rfl rfl fun g => ?_
  refine go ?_
  refine Kr.one (.inr rfl) rfl (Ent.trans (Ent.rownil 3 1) (StashO.close (xs := []) rfl ?_ rfl)) ⟨g, rfl, rfl⟩
  simp only [cond_true, cond_false]
  congr 1
  omega
theorem stashGive {b : Nat} {most : Int} {xs ys : List Int} {ya : Option Addr} {m c : Nat} {F : St} [t : Take L (some ⟨b, 0, none⟩) (StashO most xs) F] (hr : Rd F 1 ya m (ints ys)) (hb : xs.length + m ≤ 1000000000) :
    Fx Tryz.prog 136 [.pointer (some ⟨b, 0, none⟩), .slice ya m c] L (fun v L' => v = .tuple #[] ∧ L' = pt (some ⟨b, 0, none⟩) (StashO most (xs ++ ys)) :: F) := by
  refine Fx.mk Tryz.func136 k136 (Nat.le_of_ble_eq_true rfl) ?_
  dsimp only [c136, envOf, Nat.reduceAdd]
  refine Cx.openp (t := t) rfl ?_
  rintro ⟨r, cap⟩
  simp only [List.cons_append, List.nil_append]
  refine go ?_
  refine Sx.ap rfl rfl (hr.ent (Ent.drop.trans Ent.drop)) (ones_ints ys) (by simp [maxLen]; omega) (by omega) fun ra ca hc => ?_
  refine go ?_
  have hm : m = ys.length := by have := hr.1; simp [length_ints] at this; omega
  exact Kr.none (.inl rfl) (StashO.close (by simp [hm]) rfl (by simp [ints])) ⟨rfl, rfl⟩
theorem stashTakeNone {b : Nat} {most : Int} {F : St} [t : Take L (some ⟨b, 0, none⟩) (StashO most []) F] :
    Fx Tryz.prog 248 [.pointer (some ⟨b, 0, none⟩)] L (fun v L' => v = .tuple #[.int .i64 0, .bool false] ∧ L' = pt (some ⟨b, 0, none⟩) (StashO most []) :: F) := by
  refine Fx.mk Tryz.func248 k248 (Nat.le_of_ble_eq_true rfl) ?_
  dsimp only [c248, envOf, Nat.reduceAdd]
  refine Cx.openp (t := t) rfl ?_
  rintro ⟨r, cap⟩
  simp only [List.cons_append, List.nil_append]
  refine go ?_
  exact Kr.two (.inr rfl) rfl rfl (StashO.close rfl rfl rfl) ⟨rfl, rfl⟩
theorem stashTakeSome {b : Nat} {most : Int} {xs : List Int} {x : Int} {F : St} [t : Take L (some ⟨b, 0, none⟩) (StashO most (xs ++ [x])) F] (hb : xs.length ≤ 1000000000) :
    Fx Tryz.prog 248 [.pointer (some ⟨b, 0, none⟩)] L (fun v L' => v = .tuple #[.int .i64 x, .bool true] ∧ L' = pt (some ⟨b, 0, none⟩) (StashO most xs) :: F) := by
  refine Fx.mk Tryz.func248 k248 (Nat.le_of_ble_eq_true rfl) ?_
  dsimp only [c248, envOf, Nat.reduceAdd]
  refine Cx.openp (t := t) rfl ?_
  rintro ⟨r, cap⟩
  simp only [List.cons_append, List.nil_append]
  generalize hn : (xs ++ [x]).length = n
  have hn' : n = xs.length + 1 := by simp at hn; omega
  clear hn
  refine Cx.rowkey (a := r) fun _ hnc _ hk => ?_
  obtain ⟨g, rfl⟩ : ∃ g, r = some ⟨g, 0, none⟩ := by
    rcases hk with h | h
    · exfalso; omega
    · exact h
  have hw : IntKind.i64.wrap ((n : Int) - 1) = (xs.length : Int) := by rw [w64 (by omega) (by omega)]; omega
  refine go ?_
  refine Cx.cno rfl (by simp; omega) ?_
  refine go ?_
  rw [hw]
  refine go ?_
  refine Sx.pv rfl ⟨by omega, by omega⟩ ?_
  refine Sx.ldr rfl (v := .int .i64 x) ?_ ?_
  · simp [ints]
  refine go ?_
  refine Sx.pv rfl ⟨by omega, by omega⟩ ?_
  refine go ?_
  refine Kr.two (.inr rfl) rfl rfl ?_ ⟨rfl, rfl⟩
  refine Ent.trans (Ent.take1 (a := some ⟨g, 0, none⟩) (Ent.refl _)) (Ent.trans (Ent.head (Row.shrink (m := xs.length) (by omega))) ?_)
  refine StashO.close (by simp) rfl ?_
  simp [ints]
theorem Rd.prefix_ {a : Option Addr} {E sz n cap m : Nat} {xs : List Value} [t : Take L a (Row E sz n cap xs) F] (hx : xs.length = n * sz) (hk : (a = none ∧ n = 0 ∧ cap = 0) ∨ ∃ g, a = some ⟨g, 0, none⟩) (hm : m ≤ n) : Rd L sz a m (xs.take (m * sz)) := by
  have hms : m * sz ≤ n * sz := Nat.mul_le_mul_right _ hm
  refine ⟨by rw [List.length_take]; omega, ?_⟩
  rcases hk with ⟨_, h, _⟩ | ⟨g, rfl⟩
  · left; omega
  · right
    have h := Has.row (L := L) (b := g) (E := E) (sz := sz) (n := n) (cap := cap) (xs := xs) (off := 0) (m := m * sz)
    rw [List.drop_zero] at h
    exact ⟨g, 0, rfl, h⟩
theorem Rd.suffix_ {g : Nat} {E sz n cap i : Nat} {xs : List Value} [t : Take L (some ⟨g, 0, none⟩) (Row E sz n cap xs) F] (hx : xs.length = n * sz) (hn : n ≤ cap) (hi : i ≤ n) : Rd L sz (some ⟨g, 0 + skp cap i sz, none⟩) (n - i) (xs.drop (i * sz)) := by
  have hms : i * sz ≤ n * sz := Nat.mul_le_mul_right _ hi
  refine ⟨by rw [List.length_drop, hx, Nat.sub_mul], ?_⟩
  by_cases hc : cap = i
  · left; omega
  · right
    refine ⟨g, 0 + skp cap i sz, rfl, ?_⟩
    have h := Has.row (L := L) (b := g) (E := E) (sz := sz) (n := n) (cap := cap) (xs := xs) (off := i * sz) (m := (xs.drop (i * sz)).length)
    rw [List.take_length] at h
    simp only [skp, hc, if_false, Nat.zero_add]
    exact h
theorem stashCut {b : Nat} {most : Int} {xs : List Int} {k : Nat} {F : St} [t : Take L (some ⟨b, 0, none⟩) (StashO most xs) F] (hb : xs.length ≤ 1000000000) (hk : k ≤ xs.length) :
    Fx Tryz.prog 262 [.pointer (some ⟨b, 0, none⟩), .int .i64 k] L (fun v L' => ∃ a c, v = .slice a k c ∧ L' = pt a (Row 3 1 k c (ints (xs.take k))) :: pt (some ⟨b, 0, none⟩) (StashO most (xs.drop k)) :: F) := by
  refine Fx.mk Tryz.func262 k262 (Nat.le_of_ble_eq_true rfl) ?_
  dsimp only [c262, envOf, Nat.reduceAdd]
  refine Cx.openp (t := t) rfl ?_
  rintro ⟨r, cap⟩
  simp only [List.cons_append, List.nil_append]
  refine Cx.rowkey (a := r) fun hx hnc _ hkey => ?_
  refine go ?_
  refine Sx.pv rfl ⟨by omega, by omega⟩ ?_
  have h1 := Rd.prefix_ (L := pt (some ⟨b, 0, none⟩) (Blk 250 [.int .i64 most, .slice r xs.length cap]) :: pt r (Row 3 1 xs.length cap (ints xs)) :: F) (a := r) hx hkey hk
  simp only [Nat.mul_one, ints_take] at h1
  refine Sx.ca rfl (clone (by simpa using h1) (ones_ints _) (by omega)) ?_
  rintro v L' ⟨a1, c1, rfl, rfl⟩
  refine go ?_
  rcases hkey with ⟨rfl, h0, rfl⟩ | ⟨g, rfl⟩
  · have hx0 : xs = [] := List.eq_nil_of_length_eq_zero h0
    subst hx0
    have hk0 : k = 0 := by simpa using hk
    subst hk0
    refine Sx.pv rfl (by simp) ?_
    refine Sx.ca rfl (clone (vs := []) (Rd.nil _ _ _) rfl (by omega)) ?_
    rintro v L' ⟨a2, c2, rfl, rfl⟩
    refine go ?_
    refine Kr.one (.inr rfl) rfl ?_ ⟨a1, c1, rfl, rfl⟩
    refine Ent.trans (StashO.close (a := some ⟨b, 0, none⟩) (r := a2) (xs := []) rfl rfl rfl) ?_
    simp only [Int.toNat_natCast, List.take_nil, List.drop_nil, ints, List.map_nil]
    exact ent
  · refine Sx.pv rfl ⟨by omega, by omega⟩ ?_
    have h2 := Rd.suffix_ (L := pt a1 (Row 3 1 k c1 (ints (xs.take k))) :: pt (some ⟨b, 0, none⟩) (Blk 250 [.int .i64 most, .slice (some ⟨g, 0, none⟩) xs.length cap]) :: pt (some ⟨g, 0, none⟩) (Row 3 1 xs.length cap (ints xs)) :: F) (g := g) hx hnc hk
    simp only [Nat.mul_one, ints_drop] at h2
    refine Sx.ca rfl (clone (vs := ints (xs.drop k)) (by simpa using h2) (ones_ints _) (by omega)) ?_
    rintro v L' ⟨a2, c2, rfl, rfl⟩
    refine go ?_
    refine Kr.one (.inr rfl) rfl ?_ ⟨a1, c1, rfl, rfl⟩
    refine Ent.trans (StashO.close (a := some ⟨b, 0, none⟩) (r := a2) (xs := xs.drop k) (by simp) rfl rfl) ?_
    simp only [Int.toNat_natCast]
    exact ent
/-- How many are too many. -/
def overK (most : Int) (xs : List Int) : Nat := (max ((xs.length : Int) - most) 0).toNat
theorem stashOver {b : Nat} {most : Int} {xs : List Int} {F : St} [t : Take L (some ⟨b, 0, none⟩) (StashO most xs) F] (hb : xs.length ≤ 1000000000) (hm : 0 ≤ most) (hm2 : most ≤ 64) :
    Fx Tryz.prog 246 [.pointer (some ⟨b, 0, none⟩)] L (fun v L' => ∃ a c, v = .slice a (overK most xs) c ∧ L' = pt a (Row 3 1 (overK most xs) c (ints (xs.take (overK most xs)))) :: pt (some ⟨b, 0, none⟩) (StashO most (xs.drop (overK most xs))) :: F) := by
  refine Fx.mk Tryz.func246 k246 (Nat.le_of_ble_eq_true rfl) ?_
  dsimp only [c246, envOf, Nat.reduceAdd]
  refine Cx.openp (t := t) rfl ?_
  rintro ⟨r, cap⟩
  simp only [List.cons_append, List.nil_append]
  refine go ?_
  refine Cx.rd ?_
  refine Rx.pvs rfl ?_
  refine Rx.ldbS 0 rfl rfl rfl (by rfl) rfl rfl ?_
  refine Rx.pvs rfl ?_
  refine Rx.ldbS 0 rfl rfl rfl (by rfl) rfl rfl ?_
  refine Rx.pvs rfl ?_
  refine Rx.one rfl rfl rfl ?_
  refine Sx.ent (StashO.close (a := some ⟨b, 0, none⟩) (r := r) (xs := xs) rfl rfl rfl) ?_
  have hw : IntKind.i64.wrap ((xs.length : Int) - most) = (xs.length : Int) - most := w64 (by omega) (by omega)
  have hk : (if (xs.length : Int) - most < 0 then 0 else (xs.length : Int) - most) = (overK most xs : Int) := by unfold overK; omega
  rw [hw]
  simp only [cond_true, hk]
  refine Sx.ca rfl (stashCut (b := b) (most := most) (xs := xs) (k := overK most xs) hb (by unfold overK; omega)) ?_
  rintro v L' ⟨a, c, rfl, rfl⟩
  refine Sx.nil ⟨trivial, ?_⟩
  refine Rx.pvs rfl ?_
  refine Rx.nil ?_
  refine go ?_
  exact Kr.one (.inr rfl) rfl (Ent.refl _) ⟨a, c, rfl, rfl⟩
end
end Go.Proofs.YtflalhdofhobmaaGreat

/-
  Plain helpers of the statements (numbers, lists of numbers), and the reference's stash.
-/
set_option linter.unusedVariables false
namespace Go.Proofs.YtflalhdofhobmaaGreat
open Go
attribute [local irreducible] Sx Cx Rx Fx Krg Ksq Kbl Klp Kr
section
variable {P : Program} {N : Nat} {e : En} {K : En → St → Prop} {L F : St} {l : List G}
/-- Appending to nothing. -/
theorem Sx.apn {d : Option Nat} {T E sz by_ : Nat} {z : List Value} {x y : X} {ya : Option Addr} {m c : Nat} {ys : List Value}
    (hx : x.get e = some (.slice none 0 0)) (hy : y.get e = some (.slice ya m c)) (hr : Rd L sz ya m ys) (h1 : ones ys = true) (hm : m ≤ maxLen) (hb : m * by_ ≤ 140737488355328)
    (k : ∀ ra' cap', m ≤ cap' → Sx P N l (e.put d (.slice ra' m cap')) K (pt ra' (Row E sz m cap' ys) :: L)) : Sx P N (⟨d, none, .ap T E sz by_ z x y⟩ :: l) e K L := by
  refine Sx.ent (Ent.rownil E sz) ?_
  refine Sx.ap (ra := none) (n := 0) (cap := 0) (xs := []) hx hy (hr.ent Ent.drop) h1 (by omega) (by simpa using hb) fun ra ca hc => ?_
  simp only [Nat.zero_add, List.nil_append] at hc ⊢
  exact k ra ca hc
/-- One element read through. -/
theorem Has.at_ {b o i : Nat} {vs : List Value} {v : Value} (h : Has L b o vs) (hv : vs[i]? = some v) : Has L b (o + i) [v] := by
  have := Has.sub (i := i) (n := 1) h
  rwa [take_one hv] at this
end
section
variable {L F : St}
theorem number (v n : Int) (hn : 0 < n) (hn2 : n ≤ 4611686018427387904) : Fx Tryz.prog 16 [.int .i64 v, .int .i64 n] L (fun r L' => r = .int .i64 (v % n) ∧ L = L') := by
  have h1 := Int.tmod_lt_of_pos v hn
  have h2 : v % n = if v.tmod n < 0 then v.tmod n + n else v.tmod n := by
    rw [Int.tmod_eq_emod]
    have h3 := Int.emod_nonneg v (show n ≠ 0 by omega)
    have h4 := Int.emod_lt_of_pos v hn
    have h5 : (n.natAbs : Int) = n := by omega
    split <;> split <;> omega
  have h6 : -n < v.tmod n := by
    rw [Int.tmod_eq_emod]
    have h3 := Int.emod_nonneg v (show n ≠ 0 by omega)
    have h4 := Int.emod_lt_of_pos v hn
    have h5 : (n.natAbs : Int) = n := by omega
    split <;> omega
  refine Fx.mk Tryz.func16 k16 (Nat.le_of_ble_eq_true rfl) ?_
  dsimp only [c16, envOf, Nat.reduceAdd]
  refine go ?_
  refine Sx.pv rfl (by omega) ?_
  refine go ?_
  refine Cx.ifp rfl (fun h => ?_) (fun h => ?_)
  · refine go ?_
    refine Kr.one (.inr rfl) rfl (Ent.refl _) ⟨?_, rfl⟩
    rw [w64 (by omega) (by omega), h2, if_pos h]
  · refine go ?_
    refine Kr.one (.inr rfl) rfl (Ent.refl _) ⟨?_, rfl⟩
    rw [h2, if_neg h]
/-- The reference's stash. -/
abbrev RefO := StashT 191
theorem refNew (m : Int) : Fx Tryz.prog 149 [.int .i64 m] L (fun v L' => ∃ g, v = .pointer (some ⟨g, 0, none⟩) ∧ L' = pt (some ⟨g, 0, none⟩) (RefO (min (max m 0) 64) []) :: L) := by
  refine Fx.mk Tryz.func149 k149 (Nat.le_of_ble_eq_true rfl) ?_
  dsimp only [c149, envOf, Nat.reduceAdd]
  refine go ?_
  refine Sx.bx rfl rfl fun g => ?_
  refine go ?_
  refine Kr.one (.inr rfl) rfl (Ent.trans (Ent.rownil 3 1) (StashO.close (xs := []) rfl ?_ rfl)) ⟨g, rfl, rfl⟩
  simp only [cond_true, cond_false]
  congr 1
  omega
end
end Go.Proofs.YtflalhdofhobmaaGreat
