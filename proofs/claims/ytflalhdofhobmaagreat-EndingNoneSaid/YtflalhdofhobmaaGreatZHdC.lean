/-
  Parts of the proof, merged: what the statement leans on.
-/
import Derived.Test.YtflalhdofhobmaaGreatProg
import Derived.KernelRfl
import Derived.Test.YtflalhdofhobmaaGreatZHdB
/-
  The functions' small code, as a program printed it off the translation; each held against the model's own code by the kernel.
-/
namespace Go.Proofs.YtflalhdofhobmaaGreat
open Go
set_option maxRecDepth 100000
/-- rundale/roots.New -/
def c70 : Fu := ⟨35, [.t 4, .t 5],
  (.sq (.rg [⟨(some 3), none, .bx 24 (.t 1)⟩,
    ⟨(some 4), none, .mv (.c (.pointer none))⟩,
    ⟨(some 5), none, .mv (.c (.int .i64 0))⟩])
  (.sq (.sq (.rd [⟨0, 0, [3], ⟨(some 8), none, .ld (.t 3) 6 true⟩⟩,
    ⟨1, 1, [8], ⟨(some 9), none, .ca 77 [(.t 8)]⟩⟩,
    ⟨2, 3, [9], ⟨(some 10), none, .nt (.t 9)⟩⟩,
    ⟨3, 7, [10], ⟨(some 11), none, .mv (.t 10)⟩⟩,
    ⟨4, 15, [0, 11], ⟨(some 12), (some (11, false)), .mv (.t 0)⟩⟩,
    ⟨5, 31, [12, 11], ⟨(some 13), (some (11, false)), .ca 137 [(.t 12)]⟩⟩,
    ⟨6, 15, [3, 11], ⟨(some 14), (some (11, false)), .ld (.t 3) 6 true⟩⟩,
    ⟨7, 127, [14, 11], ⟨(some 15), (some (11, false)), .ca 17 [(.t 14)]⟩⟩,
    ⟨8, 255, [13, 15, 11], ⟨(some 16), (some (11, false)), .ib .lss (.t 13) (.t 15)⟩⟩,
    ⟨9, 511, [11, 16], ⟨(some 17), none, .pk (.t 11) (.c (.bool true)) (.t 16)⟩⟩])
  (.cd (.t 17)
  (.sq (.rg [⟨(some 4), none, .mv (.c (.pointer none))⟩,
    ⟨(some 5), none, .mv (.c (.int .i64 1))⟩])
  .rt)
  .sk))
  (.sq (.rd [⟨0, 0, [0], ⟨(some 19), none, .mv (.t 0)⟩⟩,
    ⟨1, 0, [3], ⟨(some 20), none, .ld (.t 3) 6 true⟩⟩,
    ⟨2, 2, [20], ⟨(some 21), none, .ca 140 [(.t 20), (.c (.int .i64 0))]⟩⟩,
    ⟨3, 0, [3], ⟨(some 22), none, .fa (.t 3) 3⟩⟩,
    ⟨4, 8, [22], ⟨(some 23), none, .ld (.t 22) 1 false⟩⟩,
    ⟨5, 31, [19, 21, 23], ⟨(some 24), none, .ca 138 [(.t 19), (.c (.int .i64 1)), (.t 21), (.t 23)]⟩⟩,
    ⟨6, 63, [24], ⟨(some 18), none, .mv (.t 24)⟩⟩,
    ⟨7, 127, [18], ⟨(some 25), none, .ex (.t 18) 0⟩⟩,
    ⟨8, 127, [18], ⟨(some 26), none, .ex (.t 18) 1⟩⟩,
    ⟨9, 255, [25], ⟨(some 6), none, .mv (.t 25)⟩⟩,
    ⟨10, 1023, [26], ⟨(some 7), none, .mv (.t 26)⟩⟩])
  (.sq (.sq (.rg [⟨(some 27), none, .mv (.t 7)⟩,
    ⟨(some 28), none, .ib .neq (.t 27) (.c (.int .i64 0))⟩])
  (.cd (.t 28)
  (.sq (.rg [⟨(some 29), none, .mv (.t 7)⟩,
    ⟨(some 4), none, .mv (.c (.pointer none))⟩,
    ⟨(some 5), none, .mv (.t 29)⟩])
  .rt)
  .sk))
  (.sq (.rg [⟨(some 30), none, .mv (.t 0)⟩,
    ⟨(some 31), none, .ld (.t 3) 6 true⟩,
    ⟨(some 32), none, .mv (.t 6)⟩,
    ⟨(some 33), none, .bd [(.pointer none), (.int .i64 0), (.int .i64 0), (.int .i64 0), (.int .i64 0), (.int .i64 0), (.int .i64 0), (.pointer none)] [(0, 1, (.t 30)), (1, 6, (.t 31)), (7, 1, (.t 32))]⟩,
    ⟨(some 34), none, .bx 167 (.t 33)⟩,
    ⟨(some 4), none, .mv (.t 34)⟩,
    ⟨(some 5), none, .mv (.c (.int .i64 0))⟩])
  .rt)))))⟩
theorem k70 : cF Tryz.prog Tryz.f70 = some c70 := by kernel_rfl
/-- (*rundale/chain.Chains).Pool -/
def c71 : Fu := ⟨7, [.t 2],
  (.sq (.rg [⟨(some 2), none, .mv (.c (.pointer none))⟩])
  (.sq (.rg [⟨(some 3), none, .mv (.t 0)⟩,
    ⟨(some 4), none, .nc (.t 3)⟩,
    ⟨(some 5), none, .fa (.t 4) 7⟩,
    ⟨(some 6), none, .ld (.t 5) 1 false⟩,
    ⟨(some 2), none, .mv (.t 6)⟩])
  .rt))⟩
theorem k71 : cF Tryz.prog Tryz.f71 = some c71 := by kernel_rfl
/-- (*rundale/chain.Chains).Fill -/
def c72 : Fu := ⟨7, [],
  (.rg [⟨(some 2), none, .mv (.t 0)⟩,
    ⟨(some 3), none, .nc (.t 2)⟩,
    ⟨(some 4), none, .fa (.t 3) 7⟩,
    ⟨(some 5), none, .ld (.t 4) 1 false⟩,
    ⟨(some 6), none, .ca 141 [(.t 5)]⟩])⟩
theorem k72 : cF Tryz.prog Tryz.f72 = some c72 := by kernel_rfl
/-- (*rundale/roots.Roots).Fill -/
def c73 : Fu := ⟨28, [],
  (.sq (.rg [⟨(some 3), none, .mv (.t 0)⟩,
    ⟨(some 4), none, .nc (.t 3)⟩,
    ⟨(some 5), none, .fa (.t 4) 7⟩,
    ⟨(some 6), none, .ld (.t 5) 1 false⟩,
    ⟨(some 7), none, .ca 141 [(.t 6)]⟩])
  (.sq (.rg [⟨(some 8), none, .mv (.t 0)⟩,
    ⟨(some 9), none, .nc (.t 8)⟩,
    ⟨(some 10), none, .fa (.t 9) 1⟩,
    ⟨(some 11), none, .fa (.t 10) 3⟩,
    ⟨(some 12), none, .ld (.t 11) 1 false⟩,
    ⟨(some 13), none, .mv (.c (.int .i64 0))⟩])
  (.bl 0
  (.lp
  (.sq (.rg [⟨(some 14), none, .ib .lss (.t 13) (.t 12)⟩])
  (.sq (.cd (.t 14)
  .sk
  (.ex 0))
  (.sq (.bl 1
  (.sq (.rg [⟨(some 15), none, .mv (.t 13)⟩,
    ⟨(some 2), none, .mv (.t 15)⟩])
  (.rd [⟨0, 0, [0], ⟨(some 16), none, .mv (.t 0)⟩⟩,
    ⟨1, 1, [16], ⟨(some 17), none, .nc (.t 16)⟩⟩,
    ⟨2, 3, [17], ⟨(some 18), none, .fa (.t 17) 0⟩⟩,
    ⟨3, 7, [18], ⟨(some 19), none, .ld (.t 18) 1 false⟩⟩,
    ⟨4, 0, [0], ⟨(some 20), none, .mv (.t 0)⟩⟩,
    ⟨5, 16, [20], ⟨(some 21), none, .nc (.t 20)⟩⟩,
    ⟨6, 48, [21], ⟨(some 22), none, .fa (.t 21) 1⟩⟩,
    ⟨7, 112, [22], ⟨(some 23), none, .ld (.t 22) 6 true⟩⟩,
    ⟨8, 0, [2], ⟨(some 24), none, .mv (.t 2)⟩⟩,
    ⟨9, 496, [23, 24], ⟨(some 25), none, .ca 94 [(.t 23), (.t 24)]⟩⟩,
    ⟨10, 1023, [19, 25], ⟨(some 26), none, .ca 23 [(.t 19), (.t 25), (.c (.int .u64 0))]⟩⟩])))
  (.rg [⟨(some 27), none, .ib .add (.t 13) (.c (.int .i64 1))⟩,
    ⟨(some 13), none, .mv (.t 27)⟩]))))))))⟩
theorem k73 : cF Tryz.prog Tryz.f73 = some c73 := by kernel_rfl
/-- rundale/rundaleref11.New -/
def c74 : Fu := ⟨53, [.t 2],
  (.sq (.rg [⟨(some 1), none, .bx 24 (.t 0)⟩,
    ⟨(some 2), none, .mv (.c (.pointer none))⟩])
  (.sq (.rg [⟨(some 5), none, .ld (.t 1) 6 true⟩,
    ⟨(some 6), none, .ca 143 [(.t 5)]⟩,
    ⟨(some 7), none, .ca 142 [(.t 6)]⟩,
    ⟨(some 3), none, .mv (.t 7)⟩])
  (.sq (.rg [⟨(some 8), none, .ld (.t 1) 6 true⟩,
    ⟨(some 9), none, .mv (.t 3)⟩,
    ⟨(some 10), none, .bd [(.int .i64 0), (.int .i64 0), (.int .i64 0), (.int .i64 0), (.int .i64 0), (.int .i64 0), (.pointer none), (.pointer none), (.pointer none), (.pointer none)] [(0, 6, (.t 8)), (6, 1, (.t 9))]⟩,
    ⟨(some 11), none, .bx 115 (.t 10)⟩,
    ⟨(some 4), none, .mv (.t 11)⟩])
  (.sq (.rd [⟨0, 0, [4], ⟨(some 12), none, .mv (.t 4)⟩⟩,
    ⟨1, 0, [3], ⟨(some 13), none, .mv (.t 3)⟩⟩,
    ⟨2, 0, [1], ⟨(some 14), none, .ld (.t 1) 6 true⟩⟩,
    ⟨3, 4, [14], ⟨(some 15), none, .ca 112 [(.t 14), (.c (.int .i64 0))]⟩⟩,
    ⟨4, 0, [1], ⟨(some 16), none, .fa (.t 1) 1⟩⟩,
    ⟨5, 16, [16], ⟨(some 17), none, .ld (.t 16) 1 false⟩⟩,
    ⟨6, 62, [13, 15, 17], ⟨(some 18), none, .bd [(.pointer none), (.int .i64 0), (.int .i64 0), (.int .i64 0)] [(0, 1, (.t 13)), (1, 1, (.c (.int .i64 0))), (2, 1, (.t 15)), (3, 1, (.t 17))]⟩⟩,
    ⟨7, 126, [18], ⟨(some 19), none, .bx 210 (.t 18)⟩⟩,
    ⟨8, 255, [12], ⟨(some 20), none, .nc (.t 12)⟩⟩,
    ⟨9, 511, [20], ⟨(some 21), none, .fa (.t 20) 7⟩⟩,
    ⟨10, 1023, [21, 19], ⟨none, none, .st (.t 21) (.t 19) 1⟩⟩])
  (.sq (.rd [⟨0, 0, [4], ⟨(some 22), none, .mv (.t 4)⟩⟩,
    ⟨1, 0, [3], ⟨(some 23), none, .mv (.t 3)⟩⟩,
    ⟨2, 0, [1], ⟨(some 24), none, .ld (.t 1) 6 true⟩⟩,
    ⟨3, 4, [24], ⟨(some 25), none, .ca 144 [(.t 24), (.c (.int .i64 0))]⟩⟩,
    ⟨4, 0, [1], ⟨(some 26), none, .fa (.t 1) 3⟩⟩,
    ⟨5, 16, [26], ⟨(some 27), none, .ld (.t 26) 1 false⟩⟩,
    ⟨6, 62, [23, 25, 27], ⟨(some 28), none, .bd [(.pointer none), (.int .i64 0), (.int .i64 0), (.int .i64 0)] [(0, 1, (.t 23)), (1, 1, (.c (.int .i64 1))), (2, 1, (.t 25)), (3, 1, (.t 27))]⟩⟩,
    ⟨7, 126, [28], ⟨(some 29), none, .bx 210 (.t 28)⟩⟩,
    ⟨8, 255, [22], ⟨(some 30), none, .nc (.t 22)⟩⟩,
    ⟨9, 511, [30], ⟨(some 31), none, .fa (.t 30) 8⟩⟩,
    ⟨10, 1023, [31, 29], ⟨none, none, .st (.t 31) (.t 29) 1⟩⟩])
  (.sq (.rd [⟨0, 0, [4], ⟨(some 32), none, .mv (.t 4)⟩⟩,
    ⟨1, 0, [3], ⟨(some 33), none, .mv (.t 3)⟩⟩,
    ⟨2, 0, [1], ⟨(some 34), none, .ld (.t 1) 6 true⟩⟩,
    ⟨3, 4, [34], ⟨(some 35), none, .ca 145 [(.t 34), (.c (.int .i64 0))]⟩⟩,
    ⟨4, 0, [1], ⟨(some 36), none, .fa (.t 1) 0⟩⟩,
    ⟨5, 16, [36], ⟨(some 37), none, .ld (.t 36) 1 false⟩⟩,
    ⟨6, 62, [33, 35, 37], ⟨(some 38), none, .bd [(.pointer none), (.int .i64 0), (.int .i64 0), (.int .i64 0)] [(0, 1, (.t 33)), (1, 1, (.c (.int .i64 2))), (2, 1, (.t 35)), (3, 1, (.t 37))]⟩⟩,
    ⟨7, 126, [38], ⟨(some 39), none, .bx 218 (.t 38)⟩⟩,
    ⟨8, 255, [32], ⟨(some 40), none, .nc (.t 32)⟩⟩,
    ⟨9, 511, [40], ⟨(some 41), none, .fa (.t 40) 9⟩⟩,
    ⟨10, 1023, [41, 39], ⟨none, none, .st (.t 41) (.t 39) 1⟩⟩])
  (.sq (.rg [⟨(some 42), none, .mv (.t 4)⟩,
    ⟨(some 43), none, .nc (.t 42)⟩,
    ⟨(some 44), none, .fa (.t 43) 7⟩,
    ⟨(some 45), none, .ld (.t 44) 1 false⟩,
    ⟨(some 46), none, .ca 146 [(.t 45)]⟩])
  (.sq (.rg [⟨(some 47), none, .mv (.t 4)⟩,
    ⟨(some 48), none, .nc (.t 47)⟩,
    ⟨(some 49), none, .fa (.t 48) 8⟩,
    ⟨(some 50), none, .ld (.t 49) 1 false⟩,
    ⟨(some 51), none, .ca 146 [(.t 50)]⟩])
  (.sq (.rg [⟨(some 52), none, .mv (.t 4)⟩,
    ⟨(some 2), none, .mv (.t 52)⟩])
  .rt)))))))))⟩
theorem k74 : cF Tryz.prog Tryz.f74 = some c74 := by kernel_rfl
/-- rundale/supply.New -/
def c75 : Fu := ⟨27, [.t 4, .t 5],
  (.sq (.rg [⟨(some 3), none, .bx 24 (.t 1)⟩,
    ⟨(some 4), none, .mv (.c (.pointer none))⟩,
    ⟨(some 5), none, .mv (.c (.int .i64 0))⟩])
  (.sq (.rg [⟨(some 9), none, .mv (.t 0)⟩,
    ⟨(some 10), none, .ld (.t 3) 6 true⟩,
    ⟨(some 11), none, .ca 69 [(.t 9), (.t 10)]⟩,
    ⟨(some 8), none, .mv (.t 11)⟩,
    ⟨(some 12), none, .ex (.t 8) 0⟩,
    ⟨(some 13), none, .ex (.t 8) 1⟩,
    ⟨(some 6), none, .mv (.t 12)⟩,
    ⟨(some 7), none, .mv (.t 13)⟩])
  (.sq (.sq (.rg [⟨(some 14), none, .mv (.t 7)⟩,
    ⟨(some 15), none, .ib .neq (.t 14) (.c (.int .i64 0))⟩])
  (.cd (.t 15)
  (.sq (.rg [⟨(some 16), none, .mv (.t 7)⟩,
    ⟨(some 4), none, .mv (.c (.pointer none))⟩,
    ⟨(some 5), none, .mv (.t 16)⟩])
  .rt)
  .sk))
  (.sq (.rd [⟨0, 0, [0], ⟨(some 17), none, .mv (.t 0)⟩⟩,
    ⟨1, 0, [3], ⟨(some 18), none, .ld (.t 3) 6 true⟩⟩,
    ⟨2, 0, [6], ⟨(some 19), none, .mv (.t 6)⟩⟩,
    ⟨3, 4, [19], ⟨(some 20), none, .ca 71 [(.t 19)]⟩⟩,
    ⟨4, 0, [3], ⟨(some 21), none, .fa (.t 3) 4⟩⟩,
    ⟨5, 16, [21], ⟨(some 22), none, .ld (.t 21) 1 false⟩⟩,
    ⟨6, 60, [22], ⟨(some 23), none, .ca 147 [(.t 22)]⟩⟩,
    ⟨7, 124, [], ⟨(some 24), none, .ca 148 []⟩⟩,
    ⟨8, 255, [17, 18, 20, 23, 24], ⟨(some 25), none, .bd [(.pointer none), (.int .i64 0), (.int .i64 0), (.int .i64 0), (.int .i64 0), (.int .i64 0), (.int .i64 0), (.pointer none), (.pointer none), (.pointer none)] [(0, 1, (.t 17)), (1, 6, (.t 18)), (7, 1, (.t 20)), (8, 1, (.t 23)), (9, 1, (.t 24))]⟩⟩,
    ⟨9, 511, [25], ⟨(some 26), none, .bx 195 (.t 25)⟩⟩,
    ⟨10, 1023, [26], ⟨(some 4), none, .mv (.t 26)⟩⟩,
    ⟨11, 2047, [], ⟨(some 5), none, .mv (.c (.int .i64 0))⟩⟩])
  .rt))))⟩
theorem k75 : cF Tryz.prog Tryz.f75 = some c75 := by kernel_rfl
/-- (*rundale/rundaleref11.W).Supply -/
def c76 : Fu := ⟨13, [.t 2],
  (.sq (.rg [⟨(some 2), none, .mv (.c (.pointer none))⟩])
  (.sq (.rg [⟨(some 3), none, .mv (.t 0)⟩,
    ⟨(some 4), none, .mv (.t 0)⟩,
    ⟨(some 5), none, .nc (.t 4)⟩,
    ⟨(some 6), none, .fa (.t 5) 0⟩,
    ⟨(some 7), none, .fa (.t 6) 4⟩,
    ⟨(some 8), none, .ld (.t 7) 1 false⟩,
    ⟨(some 9), none, .ca 149 [(.t 8)]⟩,
    ⟨(some 10), none, .ca 150 []⟩,
    ⟨(some 11), none, .bd [(.pointer none), (.pointer none), (.pointer none)] [(0, 1, (.t 3)), (1, 1, (.t 9)), (2, 1, (.t 10))]⟩,
    ⟨(some 12), none, .bx 183 (.t 11)⟩,
    ⟨(some 2), none, .mv (.t 12)⟩])
  .rt))⟩
theorem k76 : cF Tryz.prog Tryz.f76 = some c76 := by kernel_rfl
/-- rundale/lay.May -/
def c77 : Fu := ⟨37, [.t 2],
  (.sq (.rg [⟨(some 1), none, .bx 24 (.t 0)⟩,
    ⟨(some 2), none, .mv (.c (.bool false))⟩])
  (.sq (.rg [⟨(some 3), none, .fa (.t 1) 0⟩,
    ⟨(some 4), none, .ld (.t 3) 1 false⟩,
    ⟨(some 5), none, .ca 82 [(.t 4), (.c (.int .i64 1)), (.c (.int .i64 64))]⟩,
    ⟨(some 6), none, .mv (.t 5)⟩,
    ⟨(some 7), (some (6, true)), .fa (.t 1) 1⟩,
    ⟨(some 8), (some (6, true)), .ld (.t 7) 1 false⟩,
    ⟨(some 9), (some (6, true)), .ca 82 [(.t 8), (.c (.int .i64 1)), (.c (.int .i64 4096))]⟩,
    ⟨(some 10), none, .pk (.t 6) (.t 9) (.c (.bool false))⟩,
    ⟨(some 11), none, .mv (.t 10)⟩,
    ⟨(some 12), (some (11, true)), .fa (.t 1) 2⟩,
    ⟨(some 13), (some (11, true)), .ld (.t 12) 1 false⟩,
    ⟨(some 14), (some (11, true)), .ca 82 [(.t 13), (.c (.int .i64 8)), (.c (.int .i64 1024))]⟩,
    ⟨(some 15), none, .pk (.t 11) (.t 14) (.c (.bool false))⟩,
    ⟨(some 16), none, .mv (.t 15)⟩,
    ⟨(some 17), (some (16, true)), .fa (.t 1) 2⟩,
    ⟨(some 18), (some (16, true)), .ld (.t 17) 1 false⟩,
    ⟨(some 19), (some (16, true)), .ib .rem (.t 18) (.c (.int .i64 8))⟩,
    ⟨(some 20), (some (16, true)), .ib .eql (.t 19) (.c (.int .i64 0))⟩,
    ⟨(some 21), none, .pk (.t 16) (.t 20) (.c (.bool false))⟩,
    ⟨(some 22), none, .mv (.t 21)⟩,
    ⟨(some 23), (some (22, true)), .fa (.t 1) 3⟩,
    ⟨(some 24), (some (22, true)), .ld (.t 23) 1 false⟩,
    ⟨(some 25), (some (22, true)), .ca 82 [(.t 24), (.c (.int .i64 1)), (.c (.int .i64 4096))]⟩,
    ⟨(some 26), none, .pk (.t 22) (.t 25) (.c (.bool false))⟩,
    ⟨(some 27), none, .mv (.t 26)⟩,
    ⟨(some 28), (some (27, true)), .fa (.t 1) 4⟩,
    ⟨(some 29), (some (27, true)), .ld (.t 28) 1 false⟩,
    ⟨(some 30), (some (27, true)), .ca 82 [(.t 29), (.c (.int .i64 0)), (.c (.int .i64 64))]⟩,
    ⟨(some 31), none, .pk (.t 27) (.t 30) (.c (.bool false))⟩,
    ⟨(some 32), none, .mv (.t 31)⟩,
    ⟨(some 33), (some (32, true)), .fa (.t 1) 5⟩,
    ⟨(some 34), (some (32, true)), .ld (.t 33) 1 false⟩,
    ⟨(some 35), (some (32, true)), .ca 82 [(.t 34), (.c (.int .i64 1)), (.c (.int .i64 8))]⟩,
    ⟨(some 36), none, .pk (.t 32) (.t 35) (.c (.bool false))⟩,
    ⟨(some 2), none, .mv (.t 36)⟩])
  .rt))⟩
theorem k77 : cF Tryz.prog Tryz.f77 = some c77 := by kernel_rfl
/-- rundale/lay.parts -/
def c78 : Fu := ⟨40, [.c 2 15 true],
  (.sq (.rg [⟨(some 1), none, .bx 24 (.t 0)⟩,
    ⟨(some 2), none, .al 143 [(.int .i64 0), (.int .i64 0), (.int .i64 0), (.int .i64 0), (.int .i64 0), (.int .i64 0), (.int .i64 0), (.int .i64 0), (.int .i64 0), (.int .i64 0), (.int .i64 0), (.int .i64 0), (.int .i64 0), (.int .i64 0), (.int .i64 0)]⟩])
  (.sq (.rg [⟨(some 6), none, .fa (.t 1) 0⟩,
    ⟨(some 7), none, .ld (.t 6) 1 false⟩,
    ⟨(some 8), none, .bd [(.int .i64 0), (.int .i64 0), (.int .i64 0)] [(0, 1, (.c (.int .i64 3))), (2, 1, (.t 7))]⟩,
    ⟨(some 9), none, .fa (.t 1) 3⟩,
    ⟨(some 10), none, .ld (.t 9) 1 false⟩,
    ⟨(some 11), none, .bd [(.int .i64 0), (.int .i64 0), (.int .i64 0)] [(0, 1, (.c (.int .i64 4))), (2, 1, (.t 10))]⟩,
    ⟨(some 12), none, .fa (.t 1) 3⟩,
    ⟨(some 13), none, .ld (.t 12) 1 false⟩,
    ⟨(some 14), none, .bd [(.int .i64 0), (.int .i64 0), (.int .i64 0)] [(0, 1, (.c (.int .i64 5))), (2, 1, (.t 13))]⟩,
    ⟨(some 15), none, .fa (.t 1) 1⟩,
    ⟨(some 16), none, .ld (.t 15) 1 false⟩,
    ⟨(some 17), none, .bd [(.int .i64 0), (.int .i64 0), (.int .i64 0)] [(0, 1, (.c (.int .i64 6))), (2, 1, (.t 16))]⟩,
    ⟨(some 18), none, .fa (.t 1) 1⟩,
    ⟨(some 19), none, .ld (.t 18) 1 false⟩,
    ⟨(some 20), none, .fa (.t 1) 2⟩,
    ⟨(some 21), none, .ld (.t 20) 1 false⟩,
    ⟨(some 22), none, .ib .mul (.t 19) (.t 21)⟩,
    ⟨(some 23), none, .bd [(.int .i64 0), (.int .i64 0), (.int .i64 0)] [(0, 1, (.c (.int .i64 7))), (2, 1, (.t 22))]⟩,
    ⟨(some 24), none, .bd [(.int .i64 0), (.int .i64 0), (.int .i64 0), (.int .i64 0), (.int .i64 0), (.int .i64 0), (.int .i64 0), (.int .i64 0), (.int .i64 0), (.int .i64 0), (.int .i64 0), (.int .i64 0), (.int .i64 0), (.int .i64 0), (.int .i64 0)] [(0, 3, (.t 8)), (3, 3, (.t 11)), (6, 3, (.t 14)), (9, 3, (.t 17)), (12, 3, (.t 23))]⟩,
    ⟨(some 3), none, .al 143 [(.int .i64 0), (.int .i64 0), (.int .i64 0), (.int .i64 0), (.int .i64 0), (.int .i64 0), (.int .i64 0), (.int .i64 0), (.int .i64 0), (.int .i64 0), (.int .i64 0), (.int .i64 0), (.int .i64 0), (.int .i64 0), (.int .i64 0)]⟩,
    ⟨none, none, .st (.t 3) (.t 24) 15⟩])
  (.sq (.rg [⟨(some 4), none, .mv (.c (.int .i64 3))⟩])
  (.sq (.sq (.rg [⟨(some 25), none, .mv (.c (.int .i64 0))⟩])
  (.bl 0
  (.lp
  (.sq (.rg [⟨(some 26), none, .ib .lss (.t 25) (.c (.int .i64 5))⟩])
  (.sq (.cd (.t 26)
  .sk
  (.ex 0))
  (.sq (.bl 1
  (.sq (.rg [⟨(some 27), none, .mv (.t 25)⟩,
    ⟨(some 5), none, .mv (.t 27)⟩])
  (.sq (.rg [⟨(some 28), none, .mv (.t 5)⟩,
    ⟨(some 29), none, .mv (.t 4)⟩,
    ⟨(some 30), none, .iaa (.t 3) (.t 28) 5 3⟩,
    ⟨(some 31), none, .fa (.t 30) 1⟩,
    ⟨none, none, .st (.t 31) (.t 29) 1⟩])
  (.rg [⟨(some 32), none, .mv (.t 4)⟩,
    ⟨(some 33), none, .mv (.t 5)⟩,
    ⟨(some 34), none, .iaa (.t 3) (.t 33) 5 3⟩,
    ⟨(some 35), none, .fa (.t 34) 2⟩,
    ⟨(some 36), none, .ld (.t 35) 1 false⟩,
    ⟨(some 37), none, .ib .add (.t 32) (.t 36)⟩,
    ⟨(some 4), none, .mv (.t 37)⟩]))))
  (.rg [⟨(some 38), none, .ib .add (.t 25) (.c (.int .i64 1))⟩,
    ⟨(some 25), none, .mv (.t 38)⟩])))))))
  (.sq (.rg [⟨(some 39), none, .ld (.t 3) 15 true⟩,
    ⟨none, none, .st (.t 2) (.t 39) 15⟩])
  .rt)))))⟩
theorem k78 : cF Tryz.prog Tryz.f78 = some c78 := by kernel_rfl
/-- (*rundale/run.Machine).Go -/
def c79 : Fu := ⟨8, [],
  (.rg [⟨(some 4), none, .mv (.t 0)⟩,
    ⟨(some 5), none, .mv (.t 1)⟩,
    ⟨(some 6), none, .nc (.t 4)⟩,
    ⟨(some 7), none, .fa (.t 6) 0⟩,
    ⟨none, none, .st (.t 7) (.t 5) 1⟩])⟩
theorem k79 : cF Tryz.prog Tryz.f79 = some c79 := by kernel_rfl
/-- (*rundale/cells.Cells).is -/
def c81 : Fu := ⟨16, [.t 4],
  (.sq (.rg [⟨(some 4), none, .mv (.c (.bool false))⟩])
  (.sq (.rg [⟨(some 5), none, .mv (.t 1)⟩,
    ⟨(some 6), none, .ib .geq (.t 5) (.c (.int .i64 0))⟩,
    ⟨(some 7), none, .mv (.t 6)⟩,
    ⟨(some 8), (some (7, true)), .mv (.t 1)⟩,
    ⟨(some 9), (some (7, true)), .mv (.t 0)⟩,
    ⟨(some 10), (some (7, true)), .nc (.t 9)⟩,
    ⟨(some 11), (some (7, true)), .fa (.t 10) 0⟩,
    ⟨(some 12), (some (7, true)), .ld (.t 11) 1 false⟩,
    ⟨(some 13), (some (7, true)), .len (.t 12)⟩,
    ⟨(some 14), (some (7, true)), .ib .lss (.t 8) (.t 13)⟩,
    ⟨(some 15), none, .pk (.t 7) (.t 14) (.c (.bool false))⟩,
    ⟨(some 4), none, .mv (.t 15)⟩])
  .rt))⟩
theorem k81 : cF Tryz.prog Tryz.f81 = some c81 := by kernel_rfl
/-- rundale/lay.within -/
def c82 : Fu := ⟨15, [.t 6],
  (.sq (.rg [⟨(some 6), none, .mv (.c (.bool false))⟩])
  (.sq (.rg [⟨(some 7), none, .mv (.t 0)⟩,
    ⟨(some 8), none, .mv (.t 1)⟩,
    ⟨(some 9), none, .ib .geq (.t 7) (.t 8)⟩,
    ⟨(some 10), none, .mv (.t 9)⟩,
    ⟨(some 11), (some (10, true)), .mv (.t 0)⟩,
    ⟨(some 12), (some (10, true)), .mv (.t 2)⟩,
    ⟨(some 13), (some (10, true)), .ib .leq (.t 11) (.t 12)⟩,
    ⟨(some 14), none, .pk (.t 10) (.t 13) (.c (.bool false))⟩,
    ⟨(some 6), none, .mv (.t 14)⟩])
  .rt))⟩
theorem k82 : cF Tryz.prog Tryz.f82 = some c82 := by kernel_rfl
/-- rundale/lay.cell -/
def c83 : Fu := ⟨33, [.t 6],
  (.sq (.rg [⟨(some 3), none, .bx 24 (.t 0)⟩,
    ⟨(some 6), none, .mv (.c (.int .i64 0))⟩])
  (.sq (.sq (.rg [⟨(some 9), none, .ld (.t 3) 6 true⟩,
    ⟨(some 10), none, .ca 77 [(.t 9)]⟩,
    ⟨(some 11), none, .nt (.t 10)⟩])
  (.cd (.t 11)
  (.sq (.rg [⟨(some 6), none, .mv (.c (.int .i64 (-1)))⟩])
  .rt)
  .sk))
  (.sq (.sq (.rg [⟨(some 12), none, .ld (.t 3) 6 true⟩,
    ⟨(some 13), none, .ca 78 [(.t 12)]⟩,
    ⟨(some 14), none, .mv (.c (.int .i64 0))⟩])
  (.bl 0
  (.lp
  (.sq (.rg [⟨(some 15), none, .ib .lss (.t 14) (.c (.int .i64 5))⟩])
  (.sq (.cd (.t 15)
  .sk
  (.ex 0))
  (.sq (.bl 1
  (.sq (.rg [⟨(some 16), none, .iv (.t 13) (.t 14) 5 3 true⟩,
    ⟨(some 8), none, .al 142 [(.int .i64 0), (.int .i64 0), (.int .i64 0)]⟩,
    ⟨none, none, .st (.t 8) (.t 16) 3⟩])
  (.sq (.rg [⟨(some 17), none, .fa (.t 8) 0⟩,
    ⟨(some 18), none, .ld (.t 17) 1 false⟩,
    ⟨(some 19), none, .mv (.t 1)⟩,
    ⟨(some 20), none, .ib .eql (.t 18) (.t 19)⟩,
    ⟨(some 21), none, .mv (.t 20)⟩,
    ⟨(some 22), (some (21, true)), .mv (.t 2)⟩,
    ⟨(some 23), (some (21, true)), .fa (.t 8) 2⟩,
    ⟨(some 24), (some (21, true)), .ld (.t 23) 1 false⟩,
    ⟨(some 25), (some (21, true)), .ib .sub (.t 24) (.c (.int .i64 1))⟩,
    ⟨(some 26), (some (21, true)), .ca 82 [(.t 22), (.c (.int .i64 0)), (.t 25)]⟩,
    ⟨(some 27), none, .pk (.t 21) (.t 26) (.c (.bool false))⟩])
  (.cd (.t 27)
  (.sq (.rg [⟨(some 28), none, .fa (.t 8) 1⟩,
    ⟨(some 29), none, .ld (.t 28) 1 false⟩,
    ⟨(some 30), none, .mv (.t 2)⟩,
    ⟨(some 31), none, .ib .add (.t 29) (.t 30)⟩,
    ⟨(some 6), none, .mv (.t 31)⟩])
  .rt)
  .sk))))
  (.rg [⟨(some 32), none, .ib .add (.t 14) (.c (.int .i64 1))⟩,
    ⟨(some 14), none, .mv (.t 32)⟩])))))))
  (.sq (.rg [⟨(some 6), none, .mv (.c (.int .i64 (-1)))⟩])
  .rt))))⟩
theorem k83 : cF Tryz.prog Tryz.f83 = some c83 := by kernel_rfl
/-- (*rundale/roots.Roots).Create -/
def c84 : Fu := ⟨34, [.t 4],
  (.sq (.rg [⟨(some 4), none, .mv (.c (.pointer none))⟩])
  (.sq (.rg [⟨(some 6), none, .mv (.t 0)⟩,
    ⟨(some 7), none, .mv (.t 1)⟩,
    ⟨(some 8), none, .mm true (.t 7) (.c (.int .i64 0))⟩,
    ⟨(some 9), none, .mm false (.t 8) (.c (.int .i64 3))⟩,
    ⟨(some 10), none, .mv (.t 0)⟩,
    ⟨(some 11), none, .nc (.t 10)⟩,
    ⟨(some 12), none, .fa (.t 11) 7⟩,
    ⟨(some 13), none, .ld (.t 12) 1 false⟩,
    ⟨(some 14), none, .ca 162 [(.t 13), (.c (.int .i64 1))]⟩,
    ⟨(some 15), none, .bd [.nilFunc, .nilFunc, .nilFunc, .nilFunc, (.int .i64 0), (.pointer none), (.int .i64 0), (.pointer none), (.int .i64 0), (.int .i64 0), (.int .i64 0), (.int .i64 0), (.int .i64 0), (.int .i64 0), (.int .i64 0)] [(5, 1, (.t 6)), (6, 1, (.t 9)), (7, 1, (.t 14)), (8, 1, (.c (.int .i64 (-1))))]⟩,
    ⟨(some 16), none, .bx 232 (.t 15)⟩,
    ⟨(some 5), none, .mv (.t 16)⟩])
  (.sq (.rd [⟨0, 0, [5], ⟨(some 17), none, .mv (.t 5)⟩⟩,
    ⟨1, 1, [17], ⟨(some 18), none, .nc (.t 17)⟩⟩,
    ⟨2, 3, [18], ⟨(some 19), none, .fa (.t 18) 0⟩⟩,
    ⟨3, 0, [5], ⟨(some 20), none, .mv (.t 5)⟩⟩,
    ⟨4, 8, [20], ⟨(some 21), none, .nc (.t 20)⟩⟩,
    ⟨5, 24, [21], ⟨(some 22), none, .fa (.t 21) 7⟩⟩,
    ⟨6, 56, [22], ⟨(some 23), none, .ld (.t 22) 1 false⟩⟩,
    ⟨7, 120, [23], ⟨(some 24), none, .mf (.func 163) [(.t 23)] []⟩⟩,
    ⟨8, 0, [5], ⟨(some 25), none, .mv (.t 5)⟩⟩,
    ⟨9, 256, [25], ⟨(some 26), none, .nc (.t 25)⟩⟩,
    ⟨10, 768, [26], ⟨(some 27), none, .fa (.t 26) 7⟩⟩,
    ⟨11, 1792, [27], ⟨(some 28), none, .ld (.t 27) 1 false⟩⟩,
    ⟨12, 3840, [28], ⟨(some 29), none, .mf (.func 164) [(.t 28)] []⟩⟩,
    ⟨13, 0, [5], ⟨(some 30), none, .mv (.t 5)⟩⟩,
    ⟨14, 8192, [30], ⟨(some 31), none, .mf (.func 165) [(.t 30)] []⟩⟩,
    ⟨15, 32767, [19, 24, 29, 31], ⟨(some 32), none, .ca 119 [(.t 19), (.t 24), (.t 29), (.t 31)]⟩⟩])
  (.sq (.rg [⟨(some 33), none, .mv (.t 5)⟩,
    ⟨(some 4), none, .mv (.t 33)⟩])
  .rt))))⟩
theorem k84 : cF Tryz.prog Tryz.f84 = some c84 := by kernel_rfl
/-- (*rundale/rundaleref11.W).Create -/
def c85 : Fu := ⟨16, [.t 4],
  (.sq (.rg [⟨(some 4), none, .mv (.c (.pointer none))⟩])
  (.sq (.rg [⟨(some 5), none, .mv (.t 0)⟩,
    ⟨(some 6), none, .mv (.t 1)⟩,
    ⟨(some 7), none, .mm true (.t 6) (.c (.int .i64 0))⟩,
    ⟨(some 8), none, .mm false (.t 7) (.c (.int .i64 3))⟩,
    ⟨(some 9), none, .mv (.t 0)⟩,
    ⟨(some 10), none, .nc (.t 9)⟩,
    ⟨(some 11), none, .fa (.t 10) 8⟩,
    ⟨(some 12), none, .ld (.t 11) 1 false⟩,
    ⟨(some 13), none, .ca 166 [(.t 12), (.c (.int .i64 1))]⟩,
    ⟨(some 14), none, .bd [(.pointer none), (.int .i64 0), (.int .i64 0), (.int .i64 0), (.int .i64 0), (.int .i64 0), (.int .i64 0), (.pointer none), (.int .i64 0), (.int .i64 0), (.int .i64 0), (.int .i64 0), (.int .i64 0), (.bool false)] [(0, 1, (.t 5)), (1, 1, (.t 8)), (7, 1, (.t 13))]⟩,
    ⟨(some 15), none, .bx 164 (.t 14)⟩,
    ⟨(some 4), none, .mv (.t 15)⟩])
  .rt))⟩
theorem k85 : cF Tryz.prog Tryz.f85 = some c85 := by kernel_rfl
/-- (*rundale/roots.Create).Step -/
def c86 : Fu := ⟨7, [.t 2],
  (.sq (.rg [⟨(some 2), none, .mv (.c (.bool false))⟩])
  (.sq (.rg [⟨(some 3), none, .mv (.t 0)⟩,
    ⟨(some 4), none, .nc (.t 3)⟩,
    ⟨(some 5), none, .fa (.t 4) 0⟩,
    ⟨(some 6), none, .ca 91 [(.t 5)]⟩,
    ⟨(some 2), none, .mv (.t 6)⟩])
  .rt))⟩
theorem k86 : cF Tryz.prog Tryz.f86 = some c86 := by kernel_rfl
/-- (*rundale/rundaleref11.Create).Step -/
def c87 : Fu := ⟨137, [.t 2],
  (.sq (.rg [⟨(some 2), none, .mv (.c (.bool false))⟩])
  (.sq (.sq (.rg [⟨(some 7), none, .mv (.t 0)⟩,
    ⟨(some 8), none, .nc (.t 7)⟩,
    ⟨(some 9), none, .fa (.t 8) 13⟩,
    ⟨(some 10), none, .ld (.t 9) 1 false⟩])
  (.cd (.t 10)
  (.sq (.rg [⟨(some 2), none, .mv (.c (.bool false))⟩])
  .rt)
  .sk))
  (.sq (.rg [⟨(some 11), none, .mv (.t 0)⟩,
    ⟨(some 12), none, .nc (.t 11)⟩,
    ⟨(some 13), none, .fa (.t 12) 3⟩,
    ⟨(some 14), none, .ld (.t 13) 1 false⟩,
    ⟨(some 15), none, .ib .add (.t 14) (.c (.int .i64 1))⟩,
    ⟨(some 16), none, .nc (.t 11)⟩,
    ⟨(some 17), none, .fa (.t 16) 3⟩,
    ⟨none, none, .st (.t 17) (.t 15) 1⟩])
  (.sq (.rg [⟨(some 18), none, .mv (.t 0)⟩,
    ⟨(some 19), none, .nc (.t 18)⟩,
    ⟨(some 20), none, .fa (.t 19) 0⟩,
    ⟨(some 21), none, .ld (.t 20) 1 false⟩,
    ⟨(some 22), none, .nc (.t 21)⟩,
    ⟨(some 23), none, .fa (.t 22) 6⟩,
    ⟨(some 24), none, .ld (.t 23) 1 false⟩,
    ⟨(some 3), none, .mv (.t 24)⟩])
  (.sq (.sq (.rg [⟨(some 25), none, .mv (.t 0)⟩,
    ⟨(some 26), none, .nc (.t 25)⟩,
    ⟨(some 27), none, .fa (.t 26) 2⟩,
    ⟨(some 28), none, .ld (.t 27) 1 false⟩])
  (.bl 0
  (.sq (.rg [⟨(some 70), none, .ib .eql (.t 28) (.c (.int .i64 0))⟩,
    ⟨(some 69), none, .mv (.t 70)⟩])
  (.cd (.t 69)
  (.sq (.rg [⟨(some 71), none, .mv (.t 0)⟩,
    ⟨(some 72), none, .nc (.t 71)⟩,
    ⟨(some 73), none, .fa (.t 72) 7⟩,
    ⟨(some 74), none, .ld (.t 73) 1 false⟩,
    ⟨(some 75), none, .ca 167 [(.t 74)]⟩])
  (.sq (.sq (.rg [⟨(some 76), none, .mv (.t 0)⟩,
    ⟨(some 77), none, .nc (.t 76)⟩,
    ⟨(some 78), none, .fa (.t 77) 7⟩,
    ⟨(some 79), none, .ld (.t 78) 1 false⟩,
    ⟨(some 80), none, .nc (.t 79)⟩,
    ⟨(some 81), none, .fa (.t 80) 6⟩,
    ⟨(some 82), none, .ld (.t 81) 1 false⟩,
    ⟨(some 83), none, .nt (.t 82)⟩])
  (.cd (.t 83)
  (.sq (.rg [⟨(some 2), none, .mv (.c (.bool true))⟩])
  .rt)
  .sk))
  (.sq (.rg [⟨(some 84), none, .mv (.t 0)⟩,
    ⟨(some 85), none, .mv (.t 0)⟩,
    ⟨(some 86), none, .nc (.t 85)⟩,
    ⟨(some 87), none, .fa (.t 86) 3⟩,
    ⟨(some 88), none, .ld (.t 87) 1 false⟩,
    ⟨(some 89), none, .nc (.t 84)⟩,
    ⟨(some 90), none, .fa (.t 89) 4⟩,
    ⟨none, none, .st (.t 90) (.t 88) 1⟩])
  (.sq (.rg [⟨(some 91), none, .mv (.t 0)⟩,
    ⟨(some 92), none, .nc (.t 91)⟩,
    ⟨(some 93), none, .fa (.t 92) 7⟩,
    ⟨(some 94), none, .ld (.t 93) 1 false⟩,
    ⟨(some 95), none, .ca 168 [(.t 94)]⟩,
    ⟨(some 4), none, .mv (.t 95)⟩])
  (.sq (.sq (.rg [⟨(some 96), none, .mv (.t 4)⟩,
    ⟨(some 97), none, .len (.t 96)⟩,
    ⟨(some 98), none, .ib .eql (.t 97) (.c (.int .i64 0))⟩])
  (.cd (.t 98)
  (.sq (.rg [⟨(some 99), none, .mv (.t 0)⟩,
    ⟨(some 100), none, .mv (.t 0)⟩,
    ⟨(some 101), none, .nc (.t 99)⟩,
    ⟨(some 102), none, .fa (.t 101) 12⟩,
    ⟨none, none, .st (.t 102) (.c (.int .i64 7)) 1⟩,
    ⟨(some 103), none, .nc (.t 100)⟩,
    ⟨(some 104), none, .fa (.t 103) 13⟩,
    ⟨none, none, .st (.t 104) (.c (.bool true)) 1⟩])
  (.sq (.rg [⟨(some 2), none, .mv (.c (.bool true))⟩])
  .rt))
  .sk))
  (.rg [⟨(some 105), none, .mv (.t 0)⟩,
    ⟨(some 106), none, .mv (.t 0)⟩,
    ⟨(some 107), none, .mv (.t 4)⟩,
    ⟨(some 108), none, .ia (.t 107) (.c (.int .i64 0)) 1⟩,
    ⟨(some 109), none, .ld (.t 108) 1 false⟩,
    ⟨(some 110), none, .nc (.t 105)⟩,
    ⟨(some 111), none, .fa (.t 110) 5⟩,
    ⟨none, none, .st (.t 111) (.t 109) 1⟩,
    ⟨(some 112), none, .nc (.t 106)⟩,
    ⟨(some 113), none, .fa (.t 112) 2⟩,
    ⟨none, none, .st (.t 113) (.c (.int .i64 1)) 1⟩]))))))
  (.sq (.rg [⟨(some 115), none, .ib .eql (.t 28) (.c (.int .i64 1))⟩,
    ⟨(some 114), none, .mv (.t 115)⟩])
  (.cd (.t 114)
  (.sq (.rd [⟨0, 0, [0], ⟨(some 116), none, .mv (.t 0)⟩⟩,
    ⟨1, 0, [3], ⟨(some 117), none, .mv (.t 3)⟩⟩,
    ⟨2, 0, [0], ⟨(some 118), none, .mv (.t 0)⟩⟩,
    ⟨3, 4, [118], ⟨(some 119), none, .nc (.t 118)⟩⟩,
    ⟨4, 12, [119], ⟨(some 120), none, .fa (.t 119) 0⟩⟩,
    ⟨5, 28, [120], ⟨(some 121), none, .ld (.t 120) 1 false⟩⟩,
    ⟨6, 60, [121], ⟨(some 122), none, .nc (.t 121)⟩⟩,
    ⟨7, 124, [122], ⟨(some 123), none, .fa (.t 122) 0⟩⟩,
    ⟨8, 252, [123], ⟨(some 124), none, .ld (.t 123) 6 true⟩⟩,
    ⟨9, 0, [0], ⟨(some 125), none, .mv (.t 0)⟩⟩,
    ⟨10, 512, [125], ⟨(some 126), none, .nc (.t 125)⟩⟩,
    ⟨11, 1536, [126], ⟨(some 127), none, .fa (.t 126) 5⟩⟩,
    ⟨12, 3584, [127], ⟨(some 128), none, .ld (.t 127) 1 false⟩⟩,
    ⟨13, 8188, [124, 128], ⟨(some 129), none, .ca 97 [(.t 124), (.t 128)]⟩⟩,
    ⟨14, 16382, [117, 129], ⟨(some 130), none, .ca 98 [(.t 117), (.t 129)]⟩⟩,
    ⟨15, 32766, [130], ⟨(some 131), none, .ca 100 [(.t 130)]⟩⟩,
    ⟨16, 65535, [116], ⟨(some 132), none, .nc (.t 116)⟩⟩,
    ⟨17, 131071, [132], ⟨(some 133), none, .fa (.t 132) 8⟩⟩,
    ⟨18, 262143, [133, 131], ⟨none, none, .st (.t 133) (.t 131) 4⟩⟩])
  (.rg [⟨(some 134), none, .mv (.t 0)⟩,
    ⟨(some 135), none, .nc (.t 134)⟩,
    ⟨(some 136), none, .fa (.t 135) 2⟩,
    ⟨none, none, .st (.t 136) (.c (.int .i64 2)) 1⟩]))
  (.sq (.rg [⟨(some 29), none, .mv (.t 0)⟩,
    ⟨(some 30), none, .mv (.t 0)⟩,
    ⟨(some 31), none, .nc (.t 30)⟩,
    ⟨(some 32), none, .fa (.t 31) 8⟩,
    ⟨(some 33), none, .fa (.t 32) 0⟩,
    ⟨(some 34), none, .ld (.t 33) 1 false⟩,
    ⟨(some 35), none, .ca 169 [(.t 34)]⟩,
    ⟨(some 36), none, .nc (.t 29)⟩,
    ⟨(some 37), none, .fa (.t 36) 6⟩,
    ⟨none, none, .st (.t 37) (.t 35) 1⟩])
  (.sq (.rd [⟨0, 0, [0], ⟨(some 39), none, .mv (.t 0)⟩⟩,
    ⟨1, 1, [39], ⟨(some 40), none, .nc (.t 39)⟩⟩,
    ⟨2, 3, [40], ⟨(some 41), none, .fa (.t 40) 6⟩⟩,
    ⟨3, 7, [41], ⟨(some 42), none, .ld (.t 41) 1 false⟩⟩,
    ⟨4, 0, [0], ⟨(some 43), none, .mv (.t 0)⟩⟩,
    ⟨5, 16, [43], ⟨(some 44), none, .nc (.t 43)⟩⟩,
    ⟨6, 48, [44], ⟨(some 45), none, .fa (.t 44) 1⟩⟩,
    ⟨7, 112, [45], ⟨(some 46), none, .ld (.t 45) 1 false⟩⟩,
    ⟨8, 255, [42, 46], ⟨(some 47), none, .bd [(.int .i64 0), (.int .i64 0), (.int .i64 0), (.int .i64 0)] [(0, 1, (.t 42)), (1, 1, (.c (.int .i64 1))), (2, 1, (.t 46))]⟩⟩,
    ⟨9, 511, [47], ⟨(some 48), none, .ca 101 [(.t 47)]⟩⟩,
    ⟨10, 1023, [48], ⟨(some 38), none, .mv (.t 48)⟩⟩,
    ⟨11, 2047, [38], ⟨(some 49), none, .ex (.t 38) 0⟩⟩,
    ⟨12, 2047, [38], ⟨(some 50), none, .ex (.t 38) 1⟩⟩,
    ⟨13, 4095, [49], ⟨(some 5), none, .mv (.t 49)⟩⟩,
    ⟨14, 16383, [50], ⟨(some 6), none, .mv (.t 50)⟩⟩])
  (.sq (.rd [⟨0, 0, [3], ⟨(some 51), none, .mv (.t 3)⟩⟩,
    ⟨1, 0, [0], ⟨(some 52), none, .mv (.t 0)⟩⟩,
    ⟨2, 2, [52], ⟨(some 53), none, .nc (.t 52)⟩⟩,
    ⟨3, 6, [53], ⟨(some 54), none, .fa (.t 53) 0⟩⟩,
    ⟨4, 14, [54], ⟨(some 55), none, .ld (.t 54) 1 false⟩⟩,
    ⟨5, 30, [55], ⟨(some 56), none, .nc (.t 55)⟩⟩,
    ⟨6, 62, [56], ⟨(some 57), none, .fa (.t 56) 0⟩⟩,
    ⟨7, 126, [57], ⟨(some 58), none, .ld (.t 57) 6 true⟩⟩,
    ⟨8, 0, [0], ⟨(some 59), none, .mv (.t 0)⟩⟩,
    ⟨9, 256, [59], ⟨(some 60), none, .nc (.t 59)⟩⟩,
    ⟨10, 768, [60], ⟨(some 61), none, .fa (.t 60) 5⟩⟩,
    ⟨11, 1792, [61], ⟨(some 62), none, .ld (.t 61) 1 false⟩⟩,
    ⟨12, 4094, [58, 62], ⟨(some 63), none, .ca 97 [(.t 58), (.t 62)]⟩⟩,
    ⟨13, 0, [5], ⟨(some 64), none, .mv (.t 5)⟩⟩,
    ⟨14, 16383, [51, 63, 64], ⟨(some 65), none, .ca 110 [(.t 51), (.t 63), (.t 64)]⟩⟩])
  (.rg [⟨(some 66), none, .mv (.t 0)⟩,
    ⟨(some 67), none, .nc (.t 66)⟩,
    ⟨(some 68), none, .fa (.t 67) 13⟩,
    ⟨none, none, .st (.t 68) (.c (.bool true)) 1⟩]))))))))))
  (.sq (.rg [⟨(some 2), none, .mv (.c (.bool true))⟩])
  .rt))))))⟩
theorem k87 : cF Tryz.prog Tryz.f87 = some c87 := by kernel_rfl
/-- (*rundale/roots.Create).Region -/
def c88 : Fu := ⟨23, [.t 2, .t 3],
  (.sq (.rg [⟨(some 2), none, .mv (.c (.int .i64 0))⟩,
    ⟨(some 3), none, .mv (.c (.int .i64 0))⟩])
  (.sq (.sq (.rg [⟨(some 4), none, .mv (.t 0)⟩,
    ⟨(some 5), none, .ca 89 [(.t 4)]⟩,
    ⟨(some 6), none, .nt (.t 5)⟩,
    ⟨(some 7), none, .mv (.t 6)⟩,
    ⟨(some 8), (some (7, false)), .mv (.t 0)⟩,
    ⟨(some 9), (some (7, false)), .nc (.t 8)⟩,
    ⟨(some 10), (some (7, false)), .fa (.t 9) 14⟩,
    ⟨(some 11), (some (7, false)), .ld (.t 10) 1 false⟩,
    ⟨(some 12), (some (7, false)), .ib .neq (.t 11) (.c (.int .i64 0))⟩,
    ⟨(some 13), none, .pk (.t 7) (.c (.bool true)) (.t 12)⟩])
  (.cd (.t 13)
  (.sq (.rg [⟨(some 2), none, .mv (.c (.int .i64 0))⟩,
    ⟨(some 3), none, .mv (.c (.int .i64 0))⟩])
  .rt)
  .sk))
  (.sq (.rd [⟨0, 0, [0], ⟨(some 14), none, .mv (.t 0)⟩⟩,
    ⟨1, 1, [14], ⟨(some 15), none, .nc (.t 14)⟩⟩,
    ⟨2, 3, [15], ⟨(some 16), none, .fa (.t 15) 8⟩⟩,
    ⟨3, 7, [16], ⟨(some 17), none, .ld (.t 16) 1 false⟩⟩,
    ⟨4, 0, [0], ⟨(some 18), none, .mv (.t 0)⟩⟩,
    ⟨5, 16, [18], ⟨(some 19), none, .nc (.t 18)⟩⟩,
    ⟨6, 48, [19], ⟨(some 20), none, .fa (.t 19) 10⟩⟩,
    ⟨7, 112, [20], ⟨(some 21), none, .fa (.t 20) 0⟩⟩,
    ⟨8, 240, [21], ⟨(some 22), none, .ld (.t 21) 1 false⟩⟩,
    ⟨9, 15, [17], ⟨(some 2), none, .mv (.t 17)⟩⟩,
    ⟨10, 1023, [22], ⟨(some 3), none, .mv (.t 22)⟩⟩])
  .rt)))⟩
theorem k88 : cF Tryz.prog Tryz.f88 = some c88 := by kernel_rfl
/-- (*rundale/roots.Create).Done -/
def c89 : Fu := ⟨7, [.t 2],
  (.sq (.rg [⟨(some 2), none, .mv (.c (.bool false))⟩])
  (.sq (.rg [⟨(some 3), none, .mv (.t 0)⟩,
    ⟨(some 4), none, .nc (.t 3)⟩,
    ⟨(some 5), none, .fa (.t 4) 0⟩,
    ⟨(some 6), none, .ca 92 [(.t 5)]⟩,
    ⟨(some 2), none, .mv (.t 6)⟩])
  .rt))⟩
theorem k89 : cF Tryz.prog Tryz.f89 = some c89 := by kernel_rfl
/-- (*rundale/roots.Create).Code -/
def c90 : Fu := ⟨7, [.t 2],
  (.sq (.rg [⟨(some 2), none, .mv (.c (.int .i64 0))⟩])
  (.sq (.rg [⟨(some 3), none, .mv (.t 0)⟩,
    ⟨(some 4), none, .nc (.t 3)⟩,
    ⟨(some 5), none, .fa (.t 4) 14⟩,
    ⟨(some 6), none, .ld (.t 5) 1 false⟩,
    ⟨(some 2), none, .mv (.t 6)⟩])
  .rt))⟩
theorem k90 : cF Tryz.prog Tryz.f90 = some c90 := by kernel_rfl
/-- (*rundale/run.Machine).Step -/
def c91 : Fu := ⟨25, [.t 2],
  (.sq (.rg [⟨(some 2), none, .mv (.c (.bool false))⟩])
  (.sq (.sq (.rg [⟨(some 4), none, .mv (.t 0)⟩,
    ⟨(some 5), none, .nc (.t 4)⟩,
    ⟨(some 6), none, .fa (.t 5) 0⟩,
    ⟨(some 7), none, .ld (.t 6) 1 false⟩,
    ⟨(some 8), none, .en 2 false (.t 7) (.c .nilFunc)⟩])
  (.cd (.t 8)
  (.sq (.rg [⟨(some 2), none, .mv (.c (.bool false))⟩])
  .rt)
  .sk))
  (.sq (.rg [⟨(some 9), none, .mv (.t 0)⟩,
    ⟨(some 10), none, .nc (.t 9)⟩,
    ⟨(some 11), none, .fa (.t 10) 0⟩,
    ⟨(some 12), none, .ld (.t 11) 1 false⟩,
    ⟨(some 3), none, .mv (.t 12)⟩])
  (.sq (.rg [⟨(some 13), none, .mv (.t 0)⟩,
    ⟨(some 14), none, .nc (.t 13)⟩,
    ⟨(some 15), none, .fa (.t 14) 0⟩,
    ⟨none, none, .st (.t 15) (.c .nilFunc) 1⟩])
  (.sq (.rg [⟨(some 16), none, .mv (.t 0)⟩,
    ⟨(some 17), none, .nc (.t 16)⟩,
    ⟨(some 18), none, .fa (.t 17) 4⟩,
    ⟨(some 19), none, .ld (.t 18) 1 false⟩,
    ⟨(some 20), none, .ib .add (.t 19) (.c (.int .i64 1))⟩,
    ⟨(some 21), none, .nc (.t 16)⟩,
    ⟨(some 22), none, .fa (.t 21) 4⟩,
    ⟨none, none, .st (.t 22) (.t 20) 1⟩])
  (.sq (.rg [⟨(some 23), none, .mv (.t 3)⟩,
    ⟨(some 24), none, .cl (.t 23) []⟩])
  (.sq (.rg [⟨(some 2), none, .mv (.c (.bool true))⟩])
  .rt)))))))⟩
theorem k91 : cF Tryz.prog Tryz.f91 = some c91 := by kernel_rfl
/-- (*rundale/run.Machine).Done -/
def c92 : Fu := ⟨8, [.t 2],
  (.sq (.rg [⟨(some 2), none, .mv (.c (.bool false))⟩])
  (.sq (.rg [⟨(some 3), none, .mv (.t 0)⟩,
    ⟨(some 4), none, .nc (.t 3)⟩,
    ⟨(some 5), none, .fa (.t 4) 0⟩,
    ⟨(some 6), none, .ld (.t 5) 1 false⟩,
    ⟨(some 7), none, .en 2 false (.t 6) (.c .nilFunc)⟩,
    ⟨(some 2), none, .mv (.t 7)⟩])
  .rt))⟩
theorem k92 : cF Tryz.prog Tryz.f92 = some c92 := by kernel_rfl
/-- rundale/word.GetRoot -/
def c93 : Fu := ⟨16, [.c 2 4 true],
  (.sq (.rg [⟨(some 2), none, .al 68 [(.int .i64 0), (.int .i64 0), (.int .i64 0), (.int .i64 0)]⟩])
  (.sq (.rg [⟨(some 3), none, .mv (.t 0)⟩,
    ⟨(some 4), none, .ca 170 [(.t 3), (.c (.int .i64 32)), (.c (.int .i64 32))]⟩,
    ⟨(some 5), none, .cv .i64 (.t 4)⟩,
    ⟨(some 6), none, .mv (.t 0)⟩,
    ⟨(some 7), none, .ca 170 [(.t 6), (.c (.int .i64 16)), (.c (.int .i64 16))]⟩,
    ⟨(some 8), none, .cv .i64 (.t 7)⟩,
    ⟨(some 9), none, .mv (.t 0)⟩,
    ⟨(some 10), none, .ca 170 [(.t 9), (.c (.int .i64 12)), (.c (.int .i64 4))]⟩,
    ⟨(some 11), none, .cv .i64 (.t 10)⟩,
    ⟨(some 12), none, .mv (.t 0)⟩,
    ⟨(some 13), none, .ca 170 [(.t 12), (.c (.int .i64 0)), (.c (.int .i64 12))]⟩,
    ⟨(some 14), none, .cv .i64 (.t 13)⟩,
    ⟨(some 15), none, .bd [(.int .i64 0), (.int .i64 0), (.int .i64 0), (.int .i64 0)] [(0, 1, (.t 5)), (1, 1, (.t 8)), (2, 1, (.t 11)), (3, 1, (.t 14))]⟩,
    ⟨none, none, .st (.t 2) (.t 15) 4⟩])
  .rt))⟩
theorem k93 : cF Tryz.prog Tryz.f93 = some c93 := by kernel_rfl
/-- rundale/lay.Root -/
def c94 : Fu := ⟨8, [.t 4],
  (.sq (.rg [⟨(some 2), none, .bx 24 (.t 0)⟩,
    ⟨(some 4), none, .mv (.c (.int .i64 0))⟩])
  (.sq (.rg [⟨(some 5), none, .ld (.t 2) 6 true⟩,
    ⟨(some 6), none, .mv (.t 1)⟩,
    ⟨(some 7), none, .ca 83 [(.t 5), (.c (.int .i64 4)), (.t 6)]⟩,
    ⟨(some 4), none, .mv (.t 7)⟩])
  .rt))⟩
theorem k94 : cF Tryz.prog Tryz.f94 = some c94 := by kernel_rfl
/-- (*rundale/stack.Stack).top -/
def c95 : Fu := ⟨17, [.t 4],
  (.sq (.rg [⟨(some 4), none, .mv (.c (.int .i64 0))⟩])
  (.sq (.sq (.rg [⟨(some 6), none, .mv (.t 1)⟩,
    ⟨(some 7), none, .ca 171 [(.t 6)]⟩,
    ⟨(some 5), none, .al 238 [(.int .i64 0), (.int .i64 0)]⟩,
    ⟨none, none, .st (.t 5) (.t 7) 2⟩])
  (.sq (.rd [⟨0, 0, [5], ⟨(some 8), none, .fa (.t 5) 0⟩⟩,
    ⟨1, 1, [8], ⟨(some 9), none, .ld (.t 8) 1 false⟩⟩,
    ⟨2, 0, [0], ⟨(some 10), none, .mv (.t 0)⟩⟩,
    ⟨3, 4, [10], ⟨(some 11), none, .nc (.t 10)⟩⟩,
    ⟨4, 12, [11], ⟨(some 12), none, .fa (.t 11) 3⟩⟩,
    ⟨5, 28, [12], ⟨(some 13), none, .ld (.t 12) 1 false⟩⟩,
    ⟨6, 63, [9, 13], ⟨(some 14), none, .ib .lss (.t 9) (.t 13)⟩⟩])
  (.cd (.t 14)
  (.sq (.rg [⟨(some 15), none, .fa (.t 5) 0⟩,
    ⟨(some 16), none, .ld (.t 15) 1 false⟩,
    ⟨(some 4), none, .mv (.t 16)⟩])
  .rt)
  .sk)))
  (.sq (.rg [⟨(some 4), none, .mv (.c (.int .i64 (-1)))⟩])
  .rt)))⟩
theorem k95 : cF Tryz.prog Tryz.f95 = some c95 := by kernel_rfl
/-- (*rundale/stack.Stack).below -/
def c96 : Fu := ⟨15, [.t 4],
  (.sq (.rg [⟨(some 4), none, .mv (.c (.int .i64 0))⟩])
  (.sq (.sq (.rg [⟨(some 5), none, .mv (.t 1)⟩,
    ⟨(some 6), none, .mv (.t 0)⟩,
    ⟨(some 7), none, .nc (.t 6)⟩,
    ⟨(some 8), none, .fa (.t 7) 3⟩,
    ⟨(some 9), none, .ld (.t 8) 1 false⟩,
    ⟨(some 10), none, .cv .u64 (.t 9)⟩,
    ⟨(some 11), none, .ib .gtr (.t 5) (.t 10)⟩])
  (.cd (.t 11)
  (.sq (.rg [⟨(some 4), none, .mv (.c (.int .i64 (-1)))⟩])
  .rt)
  .sk))
  (.sq (.rg [⟨(some 12), none, .mv (.t 1)⟩,
    ⟨(some 13), none, .cv .i64 (.t 12)⟩,
    ⟨(some 14), none, .ib .sub (.t 13) (.c (.int .i64 1))⟩,
    ⟨(some 4), none, .mv (.t 14)⟩])
  .rt)))⟩
theorem k96 : cF Tryz.prog Tryz.f96 = some c96 := by kernel_rfl
/-- rundale/rundaleref1.RootAt -/
def c97 : Fu := ⟨13, [.t 4],
  (.sq (.rg [⟨(some 2), none, .bx 24 (.t 0)⟩,
    ⟨(some 4), none, .mv (.c (.int .i64 0))⟩])
  (.sq (.rg [⟨(some 5), none, .ld (.t 2) 6 true⟩,
    ⟨(some 6), none, .fa (.t 2) 0⟩,
    ⟨(some 7), none, .ld (.t 6) 1 false⟩,
    ⟨(some 8), none, .ib .add (.c (.int .i64 3)) (.t 7)⟩,
    ⟨(some 9), none, .fa (.t 2) 3⟩,
    ⟨(some 10), none, .ld (.t 9) 1 false⟩,
    ⟨(some 11), none, .mv (.t 1)⟩,
    ⟨(some 12), none, .ca 172 [(.t 5), (.t 8), (.t 10), (.t 11)]⟩,
    ⟨(some 4), none, .mv (.t 12)⟩])
  .rt))⟩
theorem k97 : cF Tryz.prog Tryz.f97 = some c97 := by kernel_rfl
/-- (*rundale/rundaleref5.M).Load -/
def c98 : Fu := ⟨19, [.t 4],
  (.sq (.rg [⟨(some 4), none, .mv (.c (.int .u64 0))⟩])
  (.sq (.rg [⟨(some 5), none, .mv (.t 0)⟩,
    ⟨(some 6), none, .nc (.t 5)⟩,
    ⟨(some 7), none, .fa (.t 6) 1⟩,
    ⟨(some 8), none, .ld (.t 7) 1 false⟩,
    ⟨(some 9), none, .ib .add (.t 8) (.c (.int .i64 1))⟩,
    ⟨(some 10), none, .nc (.t 5)⟩,
    ⟨(some 11), none, .fa (.t 10) 1⟩,
    ⟨none, none, .st (.t 11) (.t 9) 1⟩])
  (.sq (.rg [⟨(some 12), none, .mv (.t 0)⟩,
    ⟨(some 13), none, .nc (.t 12)⟩,
    ⟨(some 14), none, .fa (.t 13) 0⟩,
    ⟨(some 15), none, .ld (.t 14) 1 false⟩,
    ⟨(some 16), none, .mv (.t 1)⟩,
    ⟨(some 17), none, .ia (.t 15) (.t 16) 1⟩,
    ⟨(some 18), none, .ld (.t 17) 1 false⟩,
    ⟨(some 4), none, .mv (.t 18)⟩])
  .rt)))⟩
theorem k98 : cF Tryz.prog Tryz.f98 = some c98 := by kernel_rfl
/-- rundale/rundaleref1.GetRoot -/
def c100 : Fu := ⟨18, [.c 2 4 true],
  (.sq (.rg [⟨(some 2), none, .al 162 [(.int .i64 0), (.int .i64 0), (.int .i64 0), (.int .i64 0)]⟩])
  (.sq (.rg [⟨(some 3), none, .mv (.t 0)⟩,
    ⟨(some 4), none, .ib .quo (.t 3) (.c (.int .u64 4294967296))⟩,
    ⟨(some 5), none, .cv .i64 (.t 4)⟩,
    ⟨(some 6), none, .mv (.t 0)⟩,
    ⟨(some 7), none, .ib .quo (.t 6) (.c (.int .u64 65536))⟩,
    ⟨(some 8), none, .ib .rem (.t 7) (.c (.int .u64 65536))⟩,
    ⟨(some 9), none, .cv .i64 (.t 8)⟩,
    ⟨(some 10), none, .mv (.t 0)⟩,
    ⟨(some 11), none, .ib .quo (.t 10) (.c (.int .u64 4096))⟩,
    ⟨(some 12), none, .ib .rem (.t 11) (.c (.int .u64 16))⟩,
    ⟨(some 13), none, .cv .i64 (.t 12)⟩,
    ⟨(some 14), none, .mv (.t 0)⟩,
    ⟨(some 15), none, .ib .rem (.t 14) (.c (.int .u64 4096))⟩,
    ⟨(some 16), none, .cv .i64 (.t 15)⟩,
    ⟨(some 17), none, .bd [(.int .i64 0), (.int .i64 0), (.int .i64 0), (.int .i64 0)] [(0, 1, (.t 5)), (1, 1, (.t 9)), (2, 1, (.t 13)), (3, 1, (.t 16))]⟩,
    ⟨none, none, .st (.t 2) (.t 17) 4⟩])
  .rt))⟩
theorem k100 : cF Tryz.prog Tryz.f100 = some c100 := by kernel_rfl
/-- rundale/rundaleref1.PutRoot -/
def c101 : Fu := ⟨44, [.t 2, .t 3],
  (.sq (.rg [⟨(some 1), none, .bx 162 (.t 0)⟩,
    ⟨(some 2), none, .mv (.c (.int .u64 0))⟩,
    ⟨(some 3), none, .mv (.c (.bool false))⟩])
  (.sq (.sq (.rg [⟨(some 4), none, .fa (.t 1) 0⟩,
    ⟨(some 5), none, .ld (.t 4) 1 false⟩,
    ⟨(some 6), none, .ca 173 [(.t 5), (.c (.int .i64 0)), (.c (.int .i64 4294967295))]⟩,
    ⟨(some 7), none, .nt (.t 6)⟩,
    ⟨(some 8), none, .mv (.t 7)⟩,
    ⟨(some 9), (some (8, false)), .fa (.t 1) 1⟩,
    ⟨(some 10), (some (8, false)), .ld (.t 9) 1 false⟩,
    ⟨(some 11), (some (8, false)), .ca 173 [(.t 10), (.c (.int .i64 0)), (.c (.int .i64 4097))]⟩,
    ⟨(some 12), (some (8, false)), .nt (.t 11)⟩,
    ⟨(some 13), none, .pk (.t 8) (.c (.bool true)) (.t 12)⟩,
    ⟨(some 14), none, .mv (.t 13)⟩,
    ⟨(some 15), (some (14, false)), .fa (.t 1) 2⟩,
    ⟨(some 16), (some (14, false)), .ld (.t 15) 1 false⟩,
    ⟨(some 17), (some (14, false)), .ca 173 [(.t 16), (.c (.int .i64 0)), (.c (.int .i64 3))]⟩,
    ⟨(some 18), (some (14, false)), .nt (.t 17)⟩,
    ⟨(some 19), none, .pk (.t 14) (.c (.bool true)) (.t 18)⟩,
    ⟨(some 20), none, .mv (.t 19)⟩,
    ⟨(some 21), (some (20, false)), .fa (.t 1) 3⟩,
    ⟨(some 22), (some (20, false)), .ld (.t 21) 1 false⟩,
    ⟨(some 23), (some (20, false)), .ca 173 [(.t 22), (.c (.int .i64 0)), (.c (.int .i64 1024))]⟩,
    ⟨(some 24), (some (20, false)), .nt (.t 23)⟩,
    ⟨(some 25), none, .pk (.t 20) (.c (.bool true)) (.t 24)⟩])
  (.cd (.t 25)
  (.sq (.rg [⟨(some 2), none, .mv (.c (.int .u64 0))⟩,
    ⟨(some 3), none, .mv (.c (.bool false))⟩])
  .rt)
  .sk))
  (.sq (.rg [⟨(some 26), none, .fa (.t 1) 0⟩,
    ⟨(some 27), none, .ld (.t 26) 1 false⟩,
    ⟨(some 28), none, .cv .u64 (.t 27)⟩,
    ⟨(some 29), none, .ib .mul (.t 28) (.c (.int .u64 4294967296))⟩,
    ⟨(some 30), none, .fa (.t 1) 1⟩,
    ⟨(some 31), none, .ld (.t 30) 1 false⟩,
    ⟨(some 32), none, .cv .u64 (.t 31)⟩,
    ⟨(some 33), none, .ib .mul (.t 32) (.c (.int .u64 65536))⟩,
    ⟨(some 34), none, .ib .add (.t 29) (.t 33)⟩,
    ⟨(some 35), none, .fa (.t 1) 2⟩,
    ⟨(some 36), none, .ld (.t 35) 1 false⟩,
    ⟨(some 37), none, .cv .u64 (.t 36)⟩,
    ⟨(some 38), none, .ib .mul (.t 37) (.c (.int .u64 4096))⟩,
    ⟨(some 39), none, .ib .add (.t 34) (.t 38)⟩,
    ⟨(some 40), none, .fa (.t 1) 3⟩,
    ⟨(some 41), none, .ld (.t 40) 1 false⟩,
    ⟨(some 42), none, .cv .u64 (.t 41)⟩,
    ⟨(some 43), none, .ib .add (.t 39) (.t 42)⟩,
    ⟨(some 2), none, .mv (.t 43)⟩,
    ⟨(some 3), none, .mv (.c (.bool true))⟩])
  .rt)))⟩
theorem k101 : cF Tryz.prog Tryz.f101 = some c101 := by kernel_rfl
/-- (*rundale/rundaleref5.M).Cas -/
def c102 : Fu := ⟨32, [.t 8],
  (.sq (.rg [⟨(some 8), none, .mv (.c (.bool false))⟩])
  (.sq (.rg [⟨(some 9), none, .mv (.t 0)⟩,
    ⟨(some 10), none, .nc (.t 9)⟩,
    ⟨(some 11), none, .fa (.t 10) 1⟩,
    ⟨(some 12), none, .ld (.t 11) 1 false⟩,
    ⟨(some 13), none, .ib .add (.t 12) (.c (.int .i64 1))⟩,
    ⟨(some 14), none, .nc (.t 9)⟩,
    ⟨(some 15), none, .fa (.t 14) 1⟩,
    ⟨none, none, .st (.t 15) (.t 13) 1⟩])
  (.sq (.sq (.rg [⟨(some 16), none, .mv (.t 0)⟩,
    ⟨(some 17), none, .nc (.t 16)⟩,
    ⟨(some 18), none, .fa (.t 17) 0⟩,
    ⟨(some 19), none, .ld (.t 18) 1 false⟩,
    ⟨(some 20), none, .mv (.t 1)⟩,
    ⟨(some 21), none, .ia (.t 19) (.t 20) 1⟩,
    ⟨(some 22), none, .ld (.t 21) 1 false⟩,
    ⟨(some 23), none, .mv (.t 2)⟩,
    ⟨(some 24), none, .ib .neq (.t 22) (.t 23)⟩])
  (.cd (.t 24)
  (.sq (.rg [⟨(some 8), none, .mv (.c (.bool false))⟩])
  .rt)
  .sk))
  (.sq (.rg [⟨(some 25), none, .mv (.t 0)⟩,
    ⟨(some 26), none, .nc (.t 25)⟩,
    ⟨(some 27), none, .fa (.t 26) 0⟩,
    ⟨(some 28), none, .ld (.t 27) 1 false⟩,
    ⟨(some 29), none, .mv (.t 1)⟩,
    ⟨(some 30), none, .mv (.t 3)⟩,
    ⟨(some 31), none, .ia (.t 28) (.t 29) 1⟩,
    ⟨none, none, .st (.t 31) (.t 30) 1⟩])
  (.sq (.rg [⟨(some 8), none, .mv (.c (.bool true))⟩])
  .rt)))))⟩
theorem k102 : cF Tryz.prog Tryz.f102 = some c102 := by kernel_rfl
/-- (*rundale/roots.Roots).is -/
def c104 : Fu := ⟨16, [.t 4],
  (.sq (.rg [⟨(some 4), none, .mv (.c (.bool false))⟩])
  (.sq (.rg [⟨(some 5), none, .mv (.t 1)⟩,
    ⟨(some 6), none, .ib .geq (.t 5) (.c (.int .i64 0))⟩,
    ⟨(some 7), none, .mv (.t 6)⟩,
    ⟨(some 8), (some (7, true)), .mv (.t 1)⟩,
    ⟨(some 9), (some (7, true)), .mv (.t 0)⟩,
    ⟨(some 10), (some (7, true)), .nc (.t 9)⟩,
    ⟨(some 11), (some (7, true)), .fa (.t 10) 1⟩,
    ⟨(some 12), (some (7, true)), .fa (.t 11) 3⟩,
    ⟨(some 13), (some (7, true)), .ld (.t 12) 1 false⟩,
    ⟨(some 14), (some (7, true)), .ib .lss (.t 8) (.t 13)⟩,
    ⟨(some 15), none, .pk (.t 7) (.t 14) (.c (.bool false))⟩,
    ⟨(some 4), none, .mv (.t 15)⟩])
  .rt))⟩
theorem k104 : cF Tryz.prog Tryz.f104 = some c104 := by kernel_rfl
/-- (*rundale/roots.End).load -/
def c105 : Fu := ⟨46, [],
  (.sq (.rd [⟨0, 0, [0], ⟨(some 3), none, .mv (.t 0)⟩⟩,
    ⟨1, 0, [0], ⟨(some 4), none, .mv (.t 0)⟩⟩,
    ⟨2, 0, [0], ⟨(some 5), none, .mv (.t 0)⟩⟩,
    ⟨3, 4, [5], ⟨(some 6), none, .nc (.t 5)⟩⟩,
    ⟨4, 12, [6], ⟨(some 7), none, .fa (.t 6) 5⟩⟩,
    ⟨5, 28, [7], ⟨(some 8), none, .ld (.t 7) 1 false⟩⟩,
    ⟨6, 0, [0], ⟨(some 9), none, .mv (.t 0)⟩⟩,
    ⟨7, 64, [9], ⟨(some 10), none, .nc (.t 9)⟩⟩,
    ⟨8, 192, [10], ⟨(some 11), none, .fa (.t 10) 6⟩⟩,
    ⟨9, 448, [11], ⟨(some 12), none, .ld (.t 11) 1 false⟩⟩,
    ⟨10, 1020, [8, 12], ⟨(some 13), none, .ca 174 [(.t 8), (.t 12)]⟩⟩,
    ⟨11, 2044, [13], ⟨(some 2), none, .mv (.t 13)⟩⟩,
    ⟨12, 4092, [2], ⟨(some 14), none, .ex (.t 2) 0⟩⟩,
    ⟨13, 4092, [2], ⟨(some 15), none, .ex (.t 2) 1⟩⟩,
    ⟨14, 8189, [3], ⟨(some 16), none, .nc (.t 3)⟩⟩,
    ⟨15, 24573, [16], ⟨(some 17), none, .fa (.t 16) 8⟩⟩,
    ⟨16, 57341, [17, 14], ⟨none, none, .st (.t 17) (.t 14) 1⟩⟩,
    ⟨17, 131071, [4], ⟨(some 18), none, .nc (.t 4)⟩⟩,
    ⟨18, 262143, [18], ⟨(some 19), none, .fa (.t 18) 9⟩⟩,
    ⟨19, 524287, [19, 15], ⟨none, none, .st (.t 19) (.t 15) 4⟩⟩])
  (.sq (.sq (.rd [⟨0, 0, [0], ⟨(some 20), none, .mv (.t 0)⟩⟩,
    ⟨1, 1, [20], ⟨(some 21), none, .nc (.t 20)⟩⟩,
    ⟨2, 3, [21], ⟨(some 22), none, .fa (.t 21) 9⟩⟩,
    ⟨3, 7, [22], ⟨(some 23), none, .ld (.t 22) 4 true⟩⟩,
    ⟨4, 0, [0], ⟨(some 24), none, .mv (.t 0)⟩⟩,
    ⟨5, 16, [24], ⟨(some 25), none, .nc (.t 24)⟩⟩,
    ⟨6, 48, [25], ⟨(some 26), none, .fa (.t 25) 7⟩⟩,
    ⟨7, 112, [26], ⟨(some 27), none, .ld (.t 26) 1 false⟩⟩,
    ⟨8, 255, [23, 27], ⟨(some 28), none, .ca 152 [(.t 23), (.t 27)]⟩⟩,
    ⟨9, 511, [28], ⟨(some 29), none, .nt (.t 28)⟩⟩])
  (.cd (.t 29)
  (.sq (.rg [⟨(some 30), none, .mv (.t 0)⟩,
    ⟨(some 31), none, .mv (.t 0)⟩,
    ⟨(some 32), none, .mv (.t 0)⟩,
    ⟨(some 33), none, .nc (.t 32)⟩,
    ⟨(some 34), none, .fa (.t 33) 0⟩,
    ⟨(some 35), none, .ca 175 [(.t 34)]⟩,
    ⟨(some 36), none, .nc (.t 30)⟩,
    ⟨(some 37), none, .fa (.t 36) 13⟩,
    ⟨none, none, .st (.t 37) (.c (.int .i64 3)) 1⟩,
    ⟨(some 38), none, .nc (.t 31)⟩,
    ⟨(some 39), none, .fa (.t 38) 15⟩,
    ⟨none, none, .st (.t 39) (.t 35) 1⟩])
  .rt)
  .sk))
  (.rg [⟨(some 40), none, .mv (.t 0)⟩,
    ⟨(some 41), none, .nc (.t 40)⟩,
    ⟨(some 42), none, .fa (.t 41) 0⟩,
    ⟨(some 43), none, .mv (.t 0)⟩,
    ⟨(some 44), none, .mf (.func 176) [(.t 43)] []⟩,
    ⟨(some 45), none, .ca 79 [(.t 42), (.t 44)]⟩])))⟩
theorem k105 : cF Tryz.prog Tryz.f105 = some c105 := by kernel_rfl
/-- (*rundale/rundaleref5.M).Store -/
def c110 : Fu := ⟨20, [],
  (.sq (.rg [⟨(some 6), none, .mv (.t 0)⟩,
    ⟨(some 7), none, .nc (.t 6)⟩,
    ⟨(some 8), none, .fa (.t 7) 1⟩,
    ⟨(some 9), none, .ld (.t 8) 1 false⟩,
    ⟨(some 10), none, .ib .add (.t 9) (.c (.int .i64 1))⟩,
    ⟨(some 11), none, .nc (.t 6)⟩,
    ⟨(some 12), none, .fa (.t 11) 1⟩,
    ⟨none, none, .st (.t 12) (.t 10) 1⟩])
  (.rg [⟨(some 13), none, .mv (.t 0)⟩,
    ⟨(some 14), none, .nc (.t 13)⟩,
    ⟨(some 15), none, .fa (.t 14) 0⟩,
    ⟨(some 16), none, .ld (.t 15) 1 false⟩,
    ⟨(some 17), none, .mv (.t 1)⟩,
    ⟨(some 18), none, .mv (.t 2)⟩,
    ⟨(some 19), none, .ia (.t 16) (.t 17) 1⟩,
    ⟨none, none, .st (.t 19) (.t 18) 1⟩]))⟩
theorem k110 : cF Tryz.prog Tryz.f110 = some c110 := by kernel_rfl
/-- rundale/rundaleref1.Link -/
def c112 : Fu := ⟨17, [.t 4],
  (.sq (.rg [⟨(some 2), none, .bx 24 (.t 0)⟩,
    ⟨(some 4), none, .mv (.c (.int .i64 0))⟩])
  (.sq (.rg [⟨(some 5), none, .ld (.t 2) 6 true⟩,
    ⟨(some 6), none, .fa (.t 2) 0⟩,
    ⟨(some 7), none, .ld (.t 6) 1 false⟩,
    ⟨(some 8), none, .ib .add (.c (.int .i64 3)) (.t 7)⟩,
    ⟨(some 9), none, .fa (.t 2) 3⟩,
    ⟨(some 10), none, .ld (.t 9) 1 false⟩,
    ⟨(some 11), none, .ib .mul (.c (.int .i64 2)) (.t 10)⟩,
    ⟨(some 12), none, .ib .add (.t 8) (.t 11)⟩,
    ⟨(some 13), none, .fa (.t 2) 1⟩,
    ⟨(some 14), none, .ld (.t 13) 1 false⟩,
    ⟨(some 15), none, .mv (.t 1)⟩,
    ⟨(some 16), none, .ca 172 [(.t 5), (.t 12), (.t 14), (.t 15)]⟩,
    ⟨(some 4), none, .mv (.t 16)⟩])
  .rt))⟩
theorem k112 : cF Tryz.prog Tryz.f112 = some c112 := by kernel_rfl
/-- (*rundale/run.Machine).Through -/
def c119 : Fu := ⟨22, [],
  (.sq (.rg [⟨(some 8), none, .mv (.t 0)⟩,
    ⟨(some 9), none, .mv (.t 0)⟩,
    ⟨(some 10), none, .mv (.t 0)⟩,
    ⟨(some 11), none, .mv (.t 1)⟩,
    ⟨(some 12), none, .mv (.t 2)⟩,
    ⟨(some 13), none, .mv (.t 3)⟩,
    ⟨(some 14), none, .nc (.t 8)⟩,
    ⟨(some 15), none, .fa (.t 14) 1⟩,
    ⟨none, none, .st (.t 15) (.t 11) 1⟩,
    ⟨(some 16), none, .nc (.t 9)⟩,
    ⟨(some 17), none, .fa (.t 16) 2⟩,
    ⟨none, none, .st (.t 17) (.t 12) 1⟩,
    ⟨(some 18), none, .nc (.t 10)⟩,
    ⟨(some 19), none, .fa (.t 18) 3⟩,
    ⟨none, none, .st (.t 19) (.t 13) 1⟩])
  (.rg [⟨(some 20), none, .mv (.t 0)⟩,
    ⟨(some 21), none, .ca 190 [(.t 20)]⟩]))⟩
theorem k119 : cF Tryz.prog Tryz.f119 = some c119 := by kernel_rfl
/-- (*rundale/ending.Free).ended -/
def c120 : Fu := ⟨50, [],
  (.sq (.rg [⟨(some 2), none, .mv (.t 0)⟩,
    ⟨(some 3), none, .mv (.t 0)⟩,
    ⟨(some 4), none, .nc (.t 3)⟩,
    ⟨(some 5), none, .fa (.t 4) 0⟩,
    ⟨(some 6), none, .ca 175 [(.t 5)]⟩,
    ⟨(some 7), none, .nc (.t 2)⟩,
    ⟨(some 8), none, .fa (.t 7) 14⟩,
    ⟨none, none, .st (.t 8) (.t 6) 1⟩])
  (.sq (.rg [⟨(some 9), none, .mv (.t 0)⟩,
    ⟨(some 10), none, .mv (.t 0)⟩,
    ⟨(some 11), none, .nc (.t 10)⟩,
    ⟨(some 12), none, .fa (.t 11) 8⟩,
    ⟨(some 13), none, .ld (.t 12) 1 false⟩,
    ⟨(some 14), none, .ca 41 [(.t 13)]⟩,
    ⟨(some 15), none, .nc (.t 9)⟩,
    ⟨(some 16), none, .fa (.t 15) 16⟩,
    ⟨none, none, .st (.t 16) (.t 14) 1⟩])
  (.sq (.sq (.rg [⟨(some 17), none, .mv (.t 0)⟩,
    ⟨(some 18), none, .nc (.t 17)⟩,
    ⟨(some 19), none, .fa (.t 18) 16⟩,
    ⟨(some 20), none, .ld (.t 19) 1 false⟩,
    ⟨(some 21), none, .ib .neq (.t 20) (.c (.int .i64 0))⟩])
  (.cd (.t 21)
  .rt
  .sk))
  (.sq (.rg [⟨(some 22), none, .mv (.t 0)⟩,
    ⟨(some 23), none, .mv (.t 0)⟩,
    ⟨(some 24), none, .nc (.t 23)⟩,
    ⟨(some 25), none, .fa (.t 24) 7⟩,
    ⟨(some 26), none, .ld (.t 25) 1 false⟩,
    ⟨(some 27), none, .nc (.t 22)⟩,
    ⟨(some 28), none, .fa (.t 27) 13⟩,
    ⟨none, none, .st (.t 28) (.t 26) 1⟩])
  (.sq (.rg [⟨(some 29), none, .mv (.t 0)⟩,
    ⟨(some 30), none, .mv (.t 0)⟩,
    ⟨(some 31), none, .nc (.t 30)⟩,
    ⟨(some 32), none, .fa (.t 31) 8⟩,
    ⟨(some 33), none, .ld (.t 32) 1 false⟩,
    ⟨(some 34), none, .ca 43 [(.t 33)]⟩,
    ⟨(some 35), none, .nc (.t 29)⟩,
    ⟨(some 36), none, .fa (.t 35) 12⟩,
    ⟨none, none, .st (.t 36) (.t 34) 1⟩])
  (.sq (.rg [⟨(some 37), none, .mv (.t 0)⟩,
    ⟨(some 38), none, .nc (.t 37)⟩,
    ⟨(some 39), none, .fa (.t 38) 12⟩,
    ⟨(some 40), none, .ld (.t 39) 1 false⟩,
    ⟨(some 41), none, .ib .geq (.t 40) (.c (.int .i64 0))⟩])
  (.cd (.t 41)
  (.rg [⟨(some 42), none, .mv (.t 0)⟩,
    ⟨(some 43), none, .nc (.t 42)⟩,
    ⟨(some 44), none, .fa (.t 43) 0⟩,
    ⟨(some 45), none, .mv (.t 0)⟩,
    ⟨(some 46), none, .mf (.func 191) [(.t 45)] []⟩,
    ⟨(some 47), none, .ca 79 [(.t 44), (.t 46)]⟩])
  (.rg [⟨(some 48), none, .mv (.t 0)⟩,
    ⟨(some 49), none, .ca 192 [(.t 48)]⟩]))))))))⟩
theorem k120 : cF Tryz.prog Tryz.f120 = some c120 := by kernel_rfl
/-- (*rundale/rundaleref5.Stack).Top -/
def c133 : Fu := ⟨16, [.t 4],
  (.sq (.rg [⟨(some 4), none, .mv (.c (.int .i64 0))⟩])
  (.sq (.rg [⟨(some 6), none, .mv (.t 1)⟩,
    ⟨(some 7), none, .ca 200 [(.t 6)]⟩,
    ⟨(some 8), none, .fv (.t 7) 0 1 false⟩,
    ⟨(some 5), none, .mv (.t 8)⟩])
  (.sq (.sq (.rg [⟨(some 9), none, .mv (.t 5)⟩,
    ⟨(some 10), none, .mv (.t 0)⟩,
    ⟨(some 11), none, .nc (.t 10)⟩,
    ⟨(some 12), none, .fa (.t 11) 3⟩,
    ⟨(some 13), none, .ld (.t 12) 1 false⟩,
    ⟨(some 14), none, .ib .geq (.t 9) (.t 13)⟩])
  (.cd (.t 14)
  (.sq (.rg [⟨(some 4), none, .mv (.c (.int .i64 (-1)))⟩])
  .rt)
  .sk))
  (.sq (.rg [⟨(some 15), none, .mv (.t 5)⟩,
    ⟨(some 4), none, .mv (.t 15)⟩])
  .rt))))⟩
theorem k133 : cF Tryz.prog Tryz.f133 = some c133 := by kernel_rfl
/-- (*rundale/rundaleref5.Stack).Below -/
def c134 : Fu := ⟨15, [.t 4],
  (.sq (.rg [⟨(some 4), none, .mv (.c (.int .i64 0))⟩])
  (.sq (.sq (.rg [⟨(some 5), none, .mv (.t 1)⟩,
    ⟨(some 6), none, .mv (.t 0)⟩,
    ⟨(some 7), none, .nc (.t 6)⟩,
    ⟨(some 8), none, .fa (.t 7) 3⟩,
    ⟨(some 9), none, .ld (.t 8) 1 false⟩,
    ⟨(some 10), none, .cv .u64 (.t 9)⟩,
    ⟨(some 11), none, .ib .gtr (.t 5) (.t 10)⟩])
  (.cd (.t 11)
  (.sq (.rg [⟨(some 4), none, .mv (.c (.int .i64 (-1)))⟩])
  .rt)
  .sk))
  (.sq (.rg [⟨(some 12), none, .mv (.t 1)⟩,
    ⟨(some 13), none, .cv .i64 (.t 12)⟩,
    ⟨(some 14), none, .ib .sub (.t 13) (.c (.int .i64 1))⟩,
    ⟨(some 4), none, .mv (.t 14)⟩])
  .rt)))⟩
theorem k134 : cF Tryz.prog Tryz.f134 = some c134 := by kernel_rfl
/-- (*rundale/stash.Stash).Give -/
def c136 : Fu := ⟨13, [],
  (.rg [⟨(some 4), none, .mv (.t 0)⟩,
    ⟨(some 5), none, .mv (.t 0)⟩,
    ⟨(some 6), none, .nc (.t 5)⟩,
    ⟨(some 7), none, .fa (.t 6) 1⟩,
    ⟨(some 8), none, .ld (.t 7) 1 false⟩,
    ⟨(some 9), none, .mv (.t 1)⟩,
    ⟨(some 10), none, .ap 53 3 1 8 [(.int .i64 0)] (.t 8) (.t 9)⟩,
    ⟨(some 11), none, .nc (.t 4)⟩,
    ⟨(some 12), none, .fa (.t 11) 1⟩,
    ⟨none, none, .st (.t 12) (.t 10) 1⟩])⟩
theorem k136 : cF Tryz.prog Tryz.f136 = some c136 := by kernel_rfl
/-- (*rundale/cells.Cells).Len -/
def c137 : Fu := ⟨8, [.t 2],
  (.sq (.rg [⟨(some 2), none, .mv (.c (.int .i64 0))⟩])
  (.sq (.rg [⟨(some 3), none, .mv (.t 0)⟩,
    ⟨(some 4), none, .nc (.t 3)⟩,
    ⟨(some 5), none, .fa (.t 4) 0⟩,
    ⟨(some 6), none, .ld (.t 5) 1 false⟩,
    ⟨(some 7), none, .len (.t 6)⟩,
    ⟨(some 2), none, .mv (.t 7)⟩])
  .rt))⟩
theorem k137 : cF Tryz.prog Tryz.f137 = some c137 := by kernel_rfl
/-- rundale/stack.New -/
def c138 : Fu := ⟨57, [.t 8, .t 9],
  (.sq (.rg [⟨(some 4), none, .bx 28 (.t 0)⟩,
    ⟨(some 8), none, .mv (.c (.pointer none))⟩,
    ⟨(some 9), none, .mv (.c (.int .i64 0))⟩])
  (.sq (.rg [⟨(some 11), none, .mf (.func 202) [] [(.t 4)]⟩,
    ⟨(some 10), none, .mv (.t 11)⟩])
  (.sq (.sq (.rg [⟨(some 12), none, .mv (.t 3)⟩,
    ⟨(some 13), none, .ib .lss (.t 12) (.c (.int .i64 1))⟩,
    ⟨(some 14), none, .mv (.t 13)⟩,
    ⟨(some 15), (some (14, false)), .mv (.t 3)⟩,
    ⟨(some 16), (some (14, false)), .ib .gtr (.t 15) (.c (.int .i64 4096))⟩,
    ⟨(some 17), none, .pk (.t 14) (.c (.bool true)) (.t 16)⟩,
    ⟨(some 18), none, .mv (.t 17)⟩,
    ⟨(some 19), (some (18, false)), .mv (.t 10)⟩,
    ⟨(some 20), (some (18, false)), .mv (.t 1)⟩,
    ⟨(some 21), (some (18, false)), .cl (.t 19) [(.t 20)]⟩,
    ⟨(some 22), (some (18, false)), .nt (.t 21)⟩,
    ⟨(some 23), none, .pk (.t 18) (.c (.bool true)) (.t 22)⟩,
    ⟨(some 24), none, .mv (.t 23)⟩,
    ⟨(some 25), (some (24, false)), .mv (.t 10)⟩,
    ⟨(some 26), (some (24, false)), .mv (.t 2)⟩,
    ⟨(some 27), (some (24, false)), .cl (.t 25) [(.t 26)]⟩,
    ⟨(some 28), (some (24, false)), .nt (.t 27)⟩,
    ⟨(some 29), none, .pk (.t 24) (.c (.bool true)) (.t 28)⟩,
    ⟨(some 30), none, .mv (.t 29)⟩,
    ⟨(some 31), (some (30, false)), .mv (.t 10)⟩,
    ⟨(some 32), (some (30, false)), .mv (.t 2)⟩,
    ⟨(some 33), (some (30, false)), .mv (.t 3)⟩,
    ⟨(some 34), (some (30, false)), .ib .add (.t 32) (.t 33)⟩,
    ⟨(some 35), (some (30, false)), .ib .sub (.t 34) (.c (.int .i64 1))⟩,
    ⟨(some 36), (some (30, false)), .cl (.t 31) [(.t 35)]⟩,
    ⟨(some 37), (some (30, false)), .nt (.t 36)⟩,
    ⟨(some 38), none, .pk (.t 30) (.c (.bool true)) (.t 37)⟩,
    ⟨(some 39), none, .mv (.t 38)⟩,
    ⟨(some 40), (some (39, false)), .mv (.t 1)⟩,
    ⟨(some 41), (some (39, false)), .mv (.t 2)⟩,
    ⟨(some 42), (some (39, false)), .ib .geq (.t 40) (.t 41)⟩,
    ⟨(some 43), (some (39, false)), .mv (.t 42)⟩,
    ⟨(some 44), (some (43, true)), .mv (.t 1)⟩,
    ⟨(some 45), (some (43, true)), .mv (.t 2)⟩,
    ⟨(some 46), (some (43, true)), .mv (.t 3)⟩,
    ⟨(some 47), (some (43, true)), .ib .add (.t 45) (.t 46)⟩,
    ⟨(some 48), (some (43, true)), .ib .lss (.t 44) (.t 47)⟩,
    ⟨(some 49), (some (39, false)), .pk (.t 43) (.t 48) (.c (.bool false))⟩,
    ⟨(some 50), none, .pk (.t 39) (.c (.bool true)) (.t 49)⟩])
  (.cd (.t 50)
  (.sq (.rg [⟨(some 8), none, .mv (.c (.pointer none))⟩,
    ⟨(some 9), none, .mv (.c (.int .i64 1))⟩])
  .rt)
  .sk))
  (.sq (.rg [⟨(some 51), none, .ld (.t 4) 1 false⟩,
    ⟨(some 52), none, .mv (.t 1)⟩,
    ⟨(some 53), none, .mv (.t 2)⟩,
    ⟨(some 54), none, .mv (.t 3)⟩,
    ⟨(some 55), none, .bd [(.pointer none), (.int .i64 0), (.int .i64 0), (.int .i64 0)] [(0, 1, (.t 51)), (1, 1, (.t 52)), (2, 1, (.t 53)), (3, 1, (.t 54))]⟩,
    ⟨(some 56), none, .bx 171 (.t 55)⟩,
    ⟨(some 8), none, .mv (.t 56)⟩,
    ⟨(some 9), none, .mv (.c (.int .i64 0))⟩])
  .rt))))⟩
theorem k138 : cF Tryz.prog Tryz.f138 = some c138 := by kernel_rfl
/-- rundale/lay.Link -/
def c139 : Fu := ⟨8, [.t 4],
  (.sq (.rg [⟨(some 2), none, .bx 24 (.t 0)⟩,
    ⟨(some 4), none, .mv (.c (.int .i64 0))⟩])
  (.sq (.rg [⟨(some 5), none, .ld (.t 2) 6 true⟩,
    ⟨(some 6), none, .mv (.t 1)⟩,
    ⟨(some 7), none, .ca 83 [(.t 5), (.c (.int .i64 6)), (.t 6)]⟩,
    ⟨(some 4), none, .mv (.t 7)⟩])
  .rt))⟩
theorem k139 : cF Tryz.prog Tryz.f139 = some c139 := by kernel_rfl
/-- rundale/lay.Slot -/
def c140 : Fu := ⟨8, [.t 4],
  (.sq (.rg [⟨(some 2), none, .bx 24 (.t 0)⟩,
    ⟨(some 4), none, .mv (.c (.int .i64 0))⟩])
  (.sq (.rg [⟨(some 5), none, .ld (.t 2) 6 true⟩,
    ⟨(some 6), none, .mv (.t 1)⟩,
    ⟨(some 7), none, .ca 83 [(.t 5), (.c (.int .i64 5)), (.t 6)]⟩,
    ⟨(some 4), none, .mv (.t 7)⟩])
  .rt))⟩
theorem k140 : cF Tryz.prog Tryz.f140 = some c140 := by kernel_rfl
/-- (*rundale/stack.Stack).Fill -/
def c141 : Fu := ⟨57, [],
  (.sq (.sq (.rg [⟨(some 5), none, .mv (.t 0)⟩,
    ⟨(some 6), none, .nc (.t 5)⟩,
    ⟨(some 7), none, .fa (.t 6) 3⟩,
    ⟨(some 8), none, .ld (.t 7) 1 false⟩,
    ⟨(some 9), none, .mv (.c (.int .i64 0))⟩])
  (.bl 0
  (.lp
  (.sq (.rg [⟨(some 10), none, .ib .lss (.t 9) (.t 8)⟩])
  (.sq (.cd (.t 10)
  .sk
  (.ex 0))
  (.sq (.bl 1
  (.sq (.rg [⟨(some 11), none, .mv (.t 9)⟩,
    ⟨(some 2), none, .mv (.t 11)⟩])
  (.rd [⟨0, 0, [0], ⟨(some 12), none, .mv (.t 0)⟩⟩,
    ⟨1, 1, [12], ⟨(some 13), none, .nc (.t 12)⟩⟩,
    ⟨2, 3, [13], ⟨(some 14), none, .fa (.t 13) 0⟩⟩,
    ⟨3, 7, [14], ⟨(some 15), none, .ld (.t 14) 1 false⟩⟩,
    ⟨4, 0, [0], ⟨(some 16), none, .mv (.t 0)⟩⟩,
    ⟨5, 16, [16], ⟨(some 17), none, .nc (.t 16)⟩⟩,
    ⟨6, 48, [17], ⟨(some 18), none, .fa (.t 17) 2⟩⟩,
    ⟨7, 112, [18], ⟨(some 19), none, .ld (.t 18) 1 false⟩⟩,
    ⟨8, 0, [2], ⟨(some 20), none, .mv (.t 2)⟩⟩,
    ⟨9, 496, [19, 20], ⟨(some 21), none, .ib .add (.t 19) (.t 20)⟩⟩,
    ⟨10, 0, [2], ⟨(some 22), none, .mv (.t 2)⟩⟩,
    ⟨11, 1024, [22], ⟨(some 23), none, .ib .add (.t 22) (.c (.int .i64 2))⟩⟩,
    ⟨12, 3072, [23], ⟨(some 24), none, .cv .u64 (.t 23)⟩⟩,
    ⟨13, 8191, [15, 21, 24], ⟨(some 25), none, .ca 23 [(.t 15), (.t 21), (.t 24)]⟩⟩])))
  (.rg [⟨(some 26), none, .ib .add (.t 9) (.c (.int .i64 1))⟩,
    ⟨(some 9), none, .mv (.t 26)⟩])))))))
  (.sq (.rd [⟨0, 0, [0], ⟨(some 27), none, .mv (.t 0)⟩⟩,
    ⟨1, 1, [27], ⟨(some 28), none, .nc (.t 27)⟩⟩,
    ⟨2, 3, [28], ⟨(some 29), none, .fa (.t 28) 0⟩⟩,
    ⟨3, 7, [29], ⟨(some 30), none, .ld (.t 29) 1 false⟩⟩,
    ⟨4, 0, [0], ⟨(some 31), none, .mv (.t 0)⟩⟩,
    ⟨5, 16, [31], ⟨(some 32), none, .nc (.t 31)⟩⟩,
    ⟨6, 48, [32], ⟨(some 33), none, .fa (.t 32) 2⟩⟩,
    ⟨7, 112, [33], ⟨(some 34), none, .ld (.t 33) 1 false⟩⟩,
    ⟨8, 0, [0], ⟨(some 35), none, .mv (.t 0)⟩⟩,
    ⟨9, 256, [35], ⟨(some 36), none, .nc (.t 35)⟩⟩,
    ⟨10, 768, [36], ⟨(some 37), none, .fa (.t 36) 3⟩⟩,
    ⟨11, 1792, [37], ⟨(some 38), none, .ld (.t 37) 1 false⟩⟩,
    ⟨12, 4080, [34, 38], ⟨(some 39), none, .ib .add (.t 34) (.t 38)⟩⟩,
    ⟨13, 8176, [39], ⟨(some 40), none, .ib .sub (.t 39) (.c (.int .i64 1))⟩⟩,
    ⟨14, 16383, [30, 40], ⟨(some 41), none, .ca 23 [(.t 30), (.t 40), (.c (.int .u64 0))]⟩⟩])
  (.sq (.rg [⟨(some 43), none, .bd [(.int .i64 0), (.int .i64 0)] []⟩,
    ⟨(some 44), none, .ca 203 [(.t 43)]⟩,
    ⟨(some 42), none, .mv (.t 44)⟩,
    ⟨(some 45), none, .ex (.t 42) 0⟩,
    ⟨(some 46), none, .ex (.t 42) 1⟩,
    ⟨(some 3), none, .mv (.t 45)⟩,
    ⟨(some 4), none, .mv (.t 46)⟩])
  (.rd [⟨0, 0, [0], ⟨(some 47), none, .mv (.t 0)⟩⟩,
    ⟨1, 1, [47], ⟨(some 48), none, .nc (.t 47)⟩⟩,
    ⟨2, 3, [48], ⟨(some 49), none, .fa (.t 48) 0⟩⟩,
    ⟨3, 7, [49], ⟨(some 50), none, .ld (.t 49) 1 false⟩⟩,
    ⟨4, 0, [0], ⟨(some 51), none, .mv (.t 0)⟩⟩,
    ⟨5, 16, [51], ⟨(some 52), none, .nc (.t 51)⟩⟩,
    ⟨6, 48, [52], ⟨(some 53), none, .fa (.t 52) 1⟩⟩,
    ⟨7, 112, [53], ⟨(some 54), none, .ld (.t 53) 1 false⟩⟩,
    ⟨8, 0, [3], ⟨(some 55), none, .mv (.t 3)⟩⟩,
    ⟨9, 511, [50, 54, 55], ⟨(some 56), none, .ca 23 [(.t 50), (.t 54), (.t 55)]⟩⟩]))))⟩
theorem k141 : cF Tryz.prog Tryz.f141 = some c141 := by kernel_rfl
/-- rundale/rundaleref5.New -/
def c142 : Fu := ⟨7, [.t 2],
  (.sq (.rg [⟨(some 2), none, .mv (.c (.pointer none))⟩])
  (.sq (.rg [⟨(some 3), none, .mv (.t 0)⟩,
    ⟨(some 4), none, .mk 56 1 8 [(.int .u64 0)] (.t 3) (.t 3)⟩,
    ⟨(some 5), none, .bd [(.slice none 0 0), (.int .i64 0)] [(0, 1, (.t 4))]⟩,
    ⟨(some 6), none, .bx 110 (.t 5)⟩,
    ⟨(some 2), none, .mv (.t 6)⟩])
  .rt))⟩
theorem k142 : cF Tryz.prog Tryz.f142 = some c142 := by kernel_rfl
/-- rundale/rundaleref1.Len -/
def c143 : Fu := ⟨22, [.t 2],
  (.sq (.rg [⟨(some 1), none, .bx 24 (.t 0)⟩,
    ⟨(some 2), none, .mv (.c (.int .i64 0))⟩])
  (.sq (.sq (.rg [⟨(some 3), none, .ld (.t 1) 6 true⟩,
    ⟨(some 4), none, .ca 185 [(.t 3)]⟩,
    ⟨(some 5), none, .nt (.t 4)⟩])
  (.cd (.t 5)
  (.sq (.rg [⟨(some 2), none, .mv (.c (.int .i64 0))⟩])
  .rt)
  .sk))
  (.sq (.rg [⟨(some 6), none, .fa (.t 1) 0⟩,
    ⟨(some 7), none, .ld (.t 6) 1 false⟩,
    ⟨(some 8), none, .ib .add (.c (.int .i64 3)) (.t 7)⟩,
    ⟨(some 9), none, .fa (.t 1) 3⟩,
    ⟨(some 10), none, .ld (.t 9) 1 false⟩,
    ⟨(some 11), none, .ib .mul (.c (.int .i64 2)) (.t 10)⟩,
    ⟨(some 12), none, .ib .add (.t 8) (.t 11)⟩,
    ⟨(some 13), none, .fa (.t 1) 1⟩,
    ⟨(some 14), none, .ld (.t 13) 1 false⟩,
    ⟨(some 15), none, .ib .add (.t 12) (.t 14)⟩,
    ⟨(some 16), none, .fa (.t 1) 1⟩,
    ⟨(some 17), none, .ld (.t 16) 1 false⟩,
    ⟨(some 18), none, .fa (.t 1) 2⟩,
    ⟨(some 19), none, .ld (.t 18) 1 false⟩,
    ⟨(some 20), none, .ib .mul (.t 17) (.t 19)⟩,
    ⟨(some 21), none, .ib .add (.t 15) (.t 20)⟩,
    ⟨(some 2), none, .mv (.t 21)⟩])
  .rt)))⟩
theorem k143 : cF Tryz.prog Tryz.f143 = some c143 := by kernel_rfl
/-- rundale/rundaleref1.Slot -/
def c144 : Fu := ⟨16, [.t 4],
  (.sq (.rg [⟨(some 2), none, .bx 24 (.t 0)⟩,
    ⟨(some 4), none, .mv (.c (.int .i64 0))⟩])
  (.sq (.rg [⟨(some 5), none, .ld (.t 2) 6 true⟩,
    ⟨(some 6), none, .fa (.t 2) 0⟩,
    ⟨(some 7), none, .ld (.t 6) 1 false⟩,
    ⟨(some 8), none, .ib .add (.c (.int .i64 3)) (.t 7)⟩,
    ⟨(some 9), none, .fa (.t 2) 3⟩,
    ⟨(some 10), none, .ld (.t 9) 1 false⟩,
    ⟨(some 11), none, .ib .add (.t 8) (.t 10)⟩,
    ⟨(some 12), none, .fa (.t 2) 3⟩,
    ⟨(some 13), none, .ld (.t 12) 1 false⟩,
    ⟨(some 14), none, .mv (.t 1)⟩,
    ⟨(some 15), none, .ca 172 [(.t 5), (.t 11), (.t 13), (.t 14)]⟩,
    ⟨(some 4), none, .mv (.t 15)⟩])
  .rt))⟩
theorem k144 : cF Tryz.prog Tryz.f144 = some c144 := by kernel_rfl
/-- rundale/rundaleref1.Pin -/
def c145 : Fu := ⟨10, [.t 4],
  (.sq (.rg [⟨(some 2), none, .bx 24 (.t 0)⟩,
    ⟨(some 4), none, .mv (.c (.int .i64 0))⟩])
  (.sq (.rg [⟨(some 5), none, .ld (.t 2) 6 true⟩,
    ⟨(some 6), none, .fa (.t 2) 0⟩,
    ⟨(some 7), none, .ld (.t 6) 1 false⟩,
    ⟨(some 8), none, .mv (.t 1)⟩,
    ⟨(some 9), none, .ca 172 [(.t 5), (.c (.int .i64 3)), (.t 7), (.t 8)]⟩,
    ⟨(some 4), none, .mv (.t 9)⟩])
  .rt))⟩
theorem k145 : cF Tryz.prog Tryz.f145 = some c145 := by kernel_rfl
/-- (*rundale/rundaleref5.Stack).Fill -/
def c146 : Fu := ⟨75, [],
  (.sq (.rg [⟨(some 6), none, .bd [(.int .i64 0), (.int .i64 0)] [(0, 1, (.c (.int .i64 0)))]⟩,
    ⟨(some 7), none, .ca 204 [(.t 6)]⟩,
    ⟨(some 5), none, .mv (.t 7)⟩,
    ⟨(some 8), none, .ex (.t 5) 0⟩,
    ⟨(some 9), none, .ex (.t 5) 1⟩,
    ⟨(some 2), none, .mv (.t 8)⟩,
    ⟨(some 3), none, .mv (.t 9)⟩])
  (.sq (.rd [⟨0, 0, [0], ⟨(some 10), none, .mv (.t 0)⟩⟩,
    ⟨1, 1, [10], ⟨(some 11), none, .nc (.t 10)⟩⟩,
    ⟨2, 3, [11], ⟨(some 12), none, .fa (.t 11) 0⟩⟩,
    ⟨3, 7, [12], ⟨(some 13), none, .ld (.t 12) 1 false⟩⟩,
    ⟨4, 15, [13], ⟨(some 14), none, .nc (.t 13)⟩⟩,
    ⟨5, 31, [14], ⟨(some 15), none, .fa (.t 14) 0⟩⟩,
    ⟨6, 63, [15], ⟨(some 16), none, .ld (.t 15) 1 false⟩⟩,
    ⟨7, 0, [0], ⟨(some 17), none, .mv (.t 0)⟩⟩,
    ⟨8, 128, [17], ⟨(some 18), none, .nc (.t 17)⟩⟩,
    ⟨9, 384, [18], ⟨(some 19), none, .fa (.t 18) 1⟩⟩,
    ⟨10, 896, [19], ⟨(some 20), none, .ld (.t 19) 1 false⟩⟩,
    ⟨11, 0, [2], ⟨(some 21), none, .mv (.t 2)⟩⟩,
    ⟨12, 4095, [16, 20], ⟨(some 22), none, .ia (.t 16) (.t 20) 1⟩⟩,
    ⟨13, 8191, [22, 21], ⟨none, none, .st (.t 22) (.t 21) 1⟩⟩])
  (.sq (.rg [⟨(some 4), none, .mv (.c (.int .i64 0))⟩])
  (.bl 0
  (.lp
  (.sq (.sq (.rg [⟨(some 23), none, .mv (.t 4)⟩,
    ⟨(some 24), none, .mv (.t 0)⟩,
    ⟨(some 25), none, .nc (.t 24)⟩,
    ⟨(some 26), none, .fa (.t 25) 3⟩,
    ⟨(some 27), none, .ld (.t 26) 1 false⟩,
    ⟨(some 28), none, .ib .lss (.t 23) (.t 27)⟩])
  (.cd (.t 28)
  .sk
  (.ex 0)))
  (.sq (.bl 1
  (.sq (.rd [⟨0, 0, [0], ⟨(some 31), none, .mv (.t 0)⟩⟩,
    ⟨1, 1, [31], ⟨(some 32), none, .nc (.t 31)⟩⟩,
    ⟨2, 3, [32], ⟨(some 33), none, .fa (.t 32) 0⟩⟩,
    ⟨3, 7, [33], ⟨(some 34), none, .ld (.t 33) 1 false⟩⟩,
    ⟨4, 15, [34], ⟨(some 35), none, .nc (.t 34)⟩⟩,
    ⟨5, 31, [35], ⟨(some 36), none, .fa (.t 35) 0⟩⟩,
    ⟨6, 63, [36], ⟨(some 37), none, .ld (.t 36) 1 false⟩⟩,
    ⟨7, 0, [0], ⟨(some 38), none, .mv (.t 0)⟩⟩,
    ⟨8, 128, [38], ⟨(some 39), none, .nc (.t 38)⟩⟩,
    ⟨9, 384, [39], ⟨(some 40), none, .fa (.t 39) 2⟩⟩,
    ⟨10, 896, [40], ⟨(some 41), none, .ld (.t 40) 1 false⟩⟩,
    ⟨11, 0, [4], ⟨(some 42), none, .mv (.t 4)⟩⟩,
    ⟨12, 3968, [41, 42], ⟨(some 43), none, .ib .add (.t 41) (.t 42)⟩⟩,
    ⟨13, 0, [4], ⟨(some 44), none, .mv (.t 4)⟩⟩,
    ⟨14, 8192, [44], ⟨(some 45), none, .ib .add (.t 44) (.c (.int .i64 2))⟩⟩,
    ⟨15, 0, [0], ⟨(some 46), none, .mv (.t 0)⟩⟩,
    ⟨16, 32768, [46], ⟨(some 47), none, .nc (.t 46)⟩⟩,
    ⟨17, 98304, [47], ⟨(some 48), none, .fa (.t 47) 3⟩⟩,
    ⟨18, 229376, [48], ⟨(some 49), none, .ld (.t 48) 1 false⟩⟩,
    ⟨19, 491520, [49], ⟨(some 50), none, .ib .add (.t 49) (.c (.int .i64 1))⟩⟩,
    ⟨20, 1040384, [45, 50], ⟨(some 51), none, .ib .rem (.t 45) (.t 50)⟩⟩,
    ⟨21, 2088960, [51], ⟨(some 52), none, .cv .u64 (.t 51)⟩⟩,
    ⟨22, 4194303, [37, 43], ⟨(some 53), none, .ia (.t 37) (.t 43) 1⟩⟩,
    ⟨23, 8388607, [53, 52], ⟨none, none, .st (.t 53) (.t 52) 1⟩⟩])
  (.sq (.rg [⟨(some 54), none, .mv (.t 4)⟩,
    ⟨(some 55), none, .mv (.t 0)⟩,
    ⟨(some 56), none, .nc (.t 55)⟩,
    ⟨(some 57), none, .fa (.t 56) 3⟩,
    ⟨(some 58), none, .ld (.t 57) 1 false⟩,
    ⟨(some 59), none, .ib .sub (.t 58) (.c (.int .i64 1))⟩,
    ⟨(some 60), none, .ib .eql (.t 54) (.t 59)⟩])
  (.cd (.t 60)
  (.rd [⟨0, 0, [0], ⟨(some 61), none, .mv (.t 0)⟩⟩,
    ⟨1, 1, [61], ⟨(some 62), none, .nc (.t 61)⟩⟩,
    ⟨2, 3, [62], ⟨(some 63), none, .fa (.t 62) 0⟩⟩,
    ⟨3, 7, [63], ⟨(some 64), none, .ld (.t 63) 1 false⟩⟩,
    ⟨4, 15, [64], ⟨(some 65), none, .nc (.t 64)⟩⟩,
    ⟨5, 31, [65], ⟨(some 66), none, .fa (.t 65) 0⟩⟩,
    ⟨6, 63, [66], ⟨(some 67), none, .ld (.t 66) 1 false⟩⟩,
    ⟨7, 0, [0], ⟨(some 68), none, .mv (.t 0)⟩⟩,
    ⟨8, 128, [68], ⟨(some 69), none, .nc (.t 68)⟩⟩,
    ⟨9, 384, [69], ⟨(some 70), none, .fa (.t 69) 2⟩⟩,
    ⟨10, 896, [70], ⟨(some 71), none, .ld (.t 70) 1 false⟩⟩,
    ⟨11, 0, [4], ⟨(some 72), none, .mv (.t 4)⟩⟩,
    ⟨12, 3968, [71, 72], ⟨(some 73), none, .ib .add (.t 71) (.t 72)⟩⟩,
    ⟨13, 8191, [67, 73], ⟨(some 74), none, .ia (.t 67) (.t 73) 1⟩⟩,
    ⟨14, 16383, [74], ⟨none, none, .st (.t 74) (.c (.int .u64 0)) 1⟩⟩])
  .sk))))
  (.rg [⟨(some 29), none, .mv (.t 4)⟩,
    ⟨(some 30), none, .ib .add (.t 29) (.c (.int .i64 1))⟩,
    ⟨(some 4), none, .mv (.t 30)⟩]))))))))⟩
theorem k146 : cF Tryz.prog Tryz.f146 = some c146 := by kernel_rfl
/-- rundale/stash.New -/
def c147 : Fu := ⟨8, [.t 2],
  (.sq (.rg [⟨(some 2), none, .mv (.c (.pointer none))⟩])
  (.sq (.rg [⟨(some 3), none, .mv (.t 0)⟩,
    ⟨(some 4), none, .mm true (.t 3) (.c (.int .i64 0))⟩,
    ⟨(some 5), none, .mm false (.t 4) (.c (.int .i64 64))⟩,
    ⟨(some 6), none, .bd [(.int .i64 0), (.slice none 0 0)] [(0, 1, (.t 5))]⟩,
    ⟨(some 7), none, .bx 250 (.t 6)⟩,
    ⟨(some 2), none, .mv (.t 7)⟩])
  .rt))⟩
theorem k147 : cF Tryz.prog Tryz.f147 = some c147 := by kernel_rfl
/-- rundale/limbo.New -/
def c148 : Fu := ⟨3, [.t 0],
  (.sq (.rg [⟨(some 0), none, .mv (.c (.pointer none))⟩])
  (.sq (.rg [⟨(some 1), none, .bd [(.int .i64 0), (.slice none 0 0), (.int .i64 0), (.slice none 0 0), (.int .i64 0), (.slice none 0 0), (.int .i64 0)] []⟩,
    ⟨(some 2), none, .bx 255 (.t 1)⟩,
    ⟨(some 0), none, .mv (.t 2)⟩])
  .rt))⟩
theorem k148 : cF Tryz.prog Tryz.f148 = some c148 := by kernel_rfl
/-- rundale/rundaleref5.NewStash -/
def c149 : Fu := ⟨8, [.t 2],
  (.sq (.rg [⟨(some 2), none, .mv (.c (.pointer none))⟩])
  (.sq (.rg [⟨(some 3), none, .mv (.t 0)⟩,
    ⟨(some 4), none, .mm true (.t 3) (.c (.int .i64 0))⟩,
    ⟨(some 5), none, .mm false (.t 4) (.c (.int .i64 64))⟩,
    ⟨(some 6), none, .bd [(.int .i64 0), (.slice none 0 0)] [(0, 1, (.t 5))]⟩,
    ⟨(some 7), none, .bx 191 (.t 6)⟩,
    ⟨(some 2), none, .mv (.t 7)⟩])
  .rt))⟩
theorem k149 : cF Tryz.prog Tryz.f149 = some c149 := by kernel_rfl
/-- rundale/rundaleref5.NewLimbo -/
def c150 : Fu := ⟨3, [.t 0],
  (.sq (.rg [⟨(some 0), none, .mv (.c (.pointer none))⟩])
  (.sq (.rg [⟨(some 1), none, .bd [(.int .i64 0), (.int .i64 0), (.int .i64 0), (.slice none 0 0), (.slice none 0 0), (.slice none 0 0), (.int .i64 0)] [(6, 1, (.c (.int .i64 (-1))))]⟩,
    ⟨(some 2), none, .bx 263 (.t 1)⟩,
    ⟨(some 0), none, .mv (.t 2)⟩])
  .rt))⟩
theorem k150 : cF Tryz.prog Tryz.f150 = some c150 := by kernel_rfl
/-- (*rundale/cells.Cells).Load -/
def c151 : Fu := ⟨20, [.t 4, .t 5],
  (.sq (.rg [⟨(some 4), none, .mv (.c (.int .u64 0))⟩,
    ⟨(some 5), none, .mv (.c (.int .i64 0))⟩])
  (.sq (.sq (.rg [⟨(some 6), none, .mv (.t 0)⟩,
    ⟨(some 7), none, .mv (.t 1)⟩,
    ⟨(some 8), none, .ca 81 [(.t 6), (.t 7)]⟩,
    ⟨(some 9), none, .nt (.t 8)⟩])
  (.cd (.t 9)
  (.sq (.rg [⟨(some 4), none, .mv (.c (.int .u64 0))⟩,
    ⟨(some 5), none, .mv (.c (.int .i64 1))⟩])
  .rt)
  .sk))
  (.sq (.rg [⟨(some 10), none, .mv (.t 0)⟩,
    ⟨(some 11), none, .mv (.t 1)⟩,
    ⟨(some 12), none, .mv (.t 0)⟩,
    ⟨(some 13), none, .nc (.t 12)⟩,
    ⟨(some 14), none, .fa (.t 13) 0⟩,
    ⟨(some 15), none, .ld (.t 14) 1 false⟩,
    ⟨(some 16), none, .mv (.t 1)⟩,
    ⟨(some 17), none, .ia (.t 15) (.t 16) 1⟩,
    ⟨(some 18), none, .ld (.t 17) 1 false⟩,
    ⟨(some 19), none, .ca 205 [(.t 10), (.c (.int .i64 1)), (.t 11), (.t 18), (.c (.bool true))]⟩,
    ⟨(some 4), none, .mv (.t 19)⟩,
    ⟨(some 5), none, .mv (.c (.int .i64 0))⟩])
  .rt)))⟩
theorem k151 : cF Tryz.prog Tryz.f151 = some c151 := by kernel_rfl
/-- rundale/word.Live -/
def c152 : Fu := ⟨14, [.t 4],
  (.sq (.rg [⟨(some 2), none, .bx 68 (.t 0)⟩,
    ⟨(some 4), none, .mv (.c (.bool false))⟩])
  (.sq (.rg [⟨(some 5), none, .fa (.t 2) 1⟩,
    ⟨(some 6), none, .ld (.t 5) 1 false⟩,
    ⟨(some 7), none, .ib .geq (.t 6) (.c (.int .i64 1))⟩,
    ⟨(some 8), none, .mv (.t 7)⟩,
    ⟨(some 9), (some (8, true)), .fa (.t 2) 0⟩,
    ⟨(some 10), (some (8, true)), .ld (.t 9) 1 false⟩,
    ⟨(some 11), (some (8, true)), .mv (.t 1)⟩,
    ⟨(some 12), (some (8, true)), .ib .eql (.t 10) (.t 11)⟩,
    ⟨(some 13), none, .pk (.t 8) (.t 12) (.c (.bool false))⟩,
    ⟨(some 4), none, .mv (.t 13)⟩])
  .rt))⟩
theorem k152 : cF Tryz.prog Tryz.f152 = some c152 := by kernel_rfl
/-- (*rundale/stack.Stack).Pop -/
def c162 : Fu := ⟨19, [.t 4],
  (.sq (.rg [⟨(some 4), none, .mv (.c (.pointer none))⟩])
  (.sq (.rg [⟨(some 6), none, .mv (.t 0)⟩,
    ⟨(some 7), none, .mv (.t 1)⟩,
    ⟨(some 8), none, .mm true (.t 7) (.c (.int .i64 1))⟩,
    ⟨(some 9), none, .mm false (.t 8) (.c (.int .i64 8))⟩,
    ⟨(some 10), none, .bd [.nilFunc, .nilFunc, .nilFunc, .nilFunc, (.int .i64 0), (.pointer none), (.int .i64 0), (.int .i64 0), (.int .u64 0), (.slice none 0 0)] [(5, 1, (.t 6)), (6, 1, (.t 9))]⟩,
    ⟨(some 11), none, .bx 278 (.t 10)⟩,
    ⟨(some 5), none, .mv (.t 11)⟩])
  (.sq (.rg [⟨(some 12), none, .mv (.t 5)⟩,
    ⟨(some 13), none, .nc (.t 12)⟩,
    ⟨(some 14), none, .fa (.t 13) 0⟩,
    ⟨(some 15), none, .mv (.t 5)⟩,
    ⟨(some 16), none, .mf (.func 222) [(.t 15)] []⟩,
    ⟨(some 17), none, .ca 79 [(.t 14), (.t 16)]⟩])
  (.sq (.rg [⟨(some 18), none, .mv (.t 5)⟩,
    ⟨(some 4), none, .mv (.t 18)⟩])
  .rt))))⟩
theorem k162 : cF Tryz.prog Tryz.f162 = some c162 := by kernel_rfl
/-- (*rundale/stack.Pop).Step -/
def c163 : Fu := ⟨7, [.t 2],
  (.sq (.rg [⟨(some 2), none, .mv (.c (.bool false))⟩])
  (.sq (.rg [⟨(some 3), none, .mv (.t 0)⟩,
    ⟨(some 4), none, .nc (.t 3)⟩,
    ⟨(some 5), none, .fa (.t 4) 0⟩,
    ⟨(some 6), none, .ca 91 [(.t 5)]⟩,
    ⟨(some 2), none, .mv (.t 6)⟩])
  .rt))⟩
theorem k163 : cF Tryz.prog Tryz.f163 = some c163 := by kernel_rfl
/-- (*rundale/stack.Pop).Done -/
def c164 : Fu := ⟨7, [.t 2],
  (.sq (.rg [⟨(some 2), none, .mv (.c (.bool false))⟩])
  (.sq (.rg [⟨(some 3), none, .mv (.t 0)⟩,
    ⟨(some 4), none, .nc (.t 3)⟩,
    ⟨(some 5), none, .fa (.t 4) 0⟩,
    ⟨(some 6), none, .ca 92 [(.t 5)]⟩,
    ⟨(some 2), none, .mv (.t 6)⟩])
  .rt))⟩
theorem k164 : cF Tryz.prog Tryz.f164 = some c164 := by kernel_rfl
/-- (*rundale/roots.Create).popped -/
def c165 : Fu := ⟨33, [],
  (.sq (.rg [⟨(some 3), none, .mv (.t 0)⟩,
    ⟨(some 4), none, .mv (.t 0)⟩,
    ⟨(some 5), none, .nc (.t 4)⟩,
    ⟨(some 6), none, .fa (.t 5) 0⟩,
    ⟨(some 7), none, .ca 175 [(.t 6)]⟩,
    ⟨(some 8), none, .nc (.t 3)⟩,
    ⟨(some 9), none, .fa (.t 8) 9⟩,
    ⟨none, none, .st (.t 9) (.t 7) 1⟩])
  (.sq (.rg [⟨(some 10), none, .mv (.t 0)⟩,
    ⟨(some 11), none, .nc (.t 10)⟩,
    ⟨(some 12), none, .fa (.t 11) 7⟩,
    ⟨(some 13), none, .ld (.t 12) 1 false⟩,
    ⟨(some 14), none, .ca 223 [(.t 13)]⟩,
    ⟨(some 2), none, .mv (.t 14)⟩])
  (.sq (.sq (.rg [⟨(some 15), none, .mv (.t 2)⟩,
    ⟨(some 16), none, .len (.t 15)⟩,
    ⟨(some 17), none, .ib .eql (.t 16) (.c (.int .i64 0))⟩])
  (.cd (.t 17)
  (.sq (.rg [⟨(some 18), none, .mv (.t 0)⟩,
    ⟨(some 19), none, .nc (.t 18)⟩,
    ⟨(some 20), none, .fa (.t 19) 14⟩,
    ⟨none, none, .st (.t 20) (.c (.int .i64 7)) 1⟩])
  .rt)
  .sk))
  (.sq (.rg [⟨(some 21), none, .mv (.t 0)⟩,
    ⟨(some 22), none, .mv (.t 2)⟩,
    ⟨(some 23), none, .ia (.t 22) (.c (.int .i64 0)) 1⟩,
    ⟨(some 24), none, .ld (.t 23) 1 false⟩,
    ⟨(some 25), none, .nc (.t 21)⟩,
    ⟨(some 26), none, .fa (.t 25) 8⟩,
    ⟨none, none, .st (.t 26) (.t 24) 1⟩])
  (.rg [⟨(some 27), none, .mv (.t 0)⟩,
    ⟨(some 28), none, .nc (.t 27)⟩,
    ⟨(some 29), none, .fa (.t 28) 0⟩,
    ⟨(some 30), none, .mv (.t 0)⟩,
    ⟨(some 31), none, .mf (.func 224) [(.t 30)] []⟩,
    ⟨(some 32), none, .ca 79 [(.t 29), (.t 31)]⟩])))))⟩
theorem k165 : cF Tryz.prog Tryz.f165 = some c165 := by kernel_rfl
/-- (*rundale/rundaleref5.Stack).Pop -/
def c166 : Fu := ⟨11, [.t 4],
  (.sq (.rg [⟨(some 4), none, .mv (.c (.pointer none))⟩])
  (.sq (.rg [⟨(some 5), none, .mv (.t 0)⟩,
    ⟨(some 6), none, .mv (.t 1)⟩,
    ⟨(some 7), none, .mm true (.t 6) (.c (.int .i64 1))⟩,
    ⟨(some 8), none, .mm false (.t 7) (.c (.int .i64 8))⟩,
    ⟨(some 9), none, .bd [(.pointer none), (.int .i64 0), (.int .i64 0), (.int .i64 0), (.int .u64 0), (.slice none 0 0), (.bool false)] [(0, 1, (.t 5)), (1, 1, (.t 8))]⟩,
    ⟨(some 10), none, .bx 235 (.t 9)⟩,
    ⟨(some 4), none, .mv (.t 10)⟩])
  .rt))⟩
theorem k166 : cF Tryz.prog Tryz.f166 = some c166 := by kernel_rfl
/-- (*rundale/rundaleref5.Pop).Step -/
def c167 : Fu := ⟨148, [.t 2],
  (.sq (.rg [⟨(some 2), none, .mv (.c (.bool false))⟩])
  (.sq (.sq (.rg [⟨(some 5), none, .mv (.t 0)⟩,
    ⟨(some 6), none, .nc (.t 5)⟩,
    ⟨(some 7), none, .fa (.t 6) 6⟩,
    ⟨(some 8), none, .ld (.t 7) 1 false⟩])
  (.cd (.t 8)
  (.sq (.rg [⟨(some 2), none, .mv (.c (.bool false))⟩])
  .rt)
  .sk))
  (.sq (.rg [⟨(some 9), none, .mv (.t 0)⟩,
    ⟨(some 10), none, .nc (.t 9)⟩,
    ⟨(some 11), none, .fa (.t 10) 0⟩,
    ⟨(some 12), none, .ld (.t 11) 1 false⟩,
    ⟨(some 3), none, .mv (.t 12)⟩])
  (.sq (.sq (.rg [⟨(some 13), none, .mv (.t 0)⟩,
    ⟨(some 14), none, .nc (.t 13)⟩,
    ⟨(some 15), none, .fa (.t 14) 2⟩,
    ⟨(some 16), none, .ld (.t 15) 1 false⟩])
  (.bl 0
  (.sq (.rg [⟨(some 46), none, .ib .eql (.t 16) (.c (.int .i64 0))⟩,
    ⟨(some 45), none, .mv (.t 46)⟩])
  (.cd (.t 45)
  (.sq (.rd [⟨0, 0, [0], ⟨(some 47), none, .mv (.t 0)⟩⟩,
    ⟨1, 0, [3], ⟨(some 48), none, .mv (.t 3)⟩⟩,
    ⟨2, 2, [48], ⟨(some 49), none, .nc (.t 48)⟩⟩,
    ⟨3, 6, [49], ⟨(some 50), none, .fa (.t 49) 0⟩⟩,
    ⟨4, 14, [50], ⟨(some 51), none, .ld (.t 50) 1 false⟩⟩,
    ⟨5, 0, [3], ⟨(some 52), none, .mv (.t 3)⟩⟩,
    ⟨6, 32, [52], ⟨(some 53), none, .nc (.t 52)⟩⟩,
    ⟨7, 96, [53], ⟨(some 54), none, .fa (.t 53) 1⟩⟩,
    ⟨8, 224, [54], ⟨(some 55), none, .ld (.t 54) 1 false⟩⟩,
    ⟨9, 510, [51, 55], ⟨(some 56), none, .ca 98 [(.t 51), (.t 55)]⟩⟩,
    ⟨10, 1023, [47], ⟨(some 57), none, .nc (.t 47)⟩⟩,
    ⟨11, 2047, [57], ⟨(some 58), none, .fa (.t 57) 4⟩⟩,
    ⟨12, 4095, [58, 56], ⟨none, none, .st (.t 58) (.t 56) 1⟩⟩])
  (.sq (.rg [⟨(some 59), none, .mv (.t 0)⟩,
    ⟨(some 60), none, .nc (.t 59)⟩,
    ⟨(some 61), none, .fa (.t 60) 5⟩,
    ⟨none, none, .st (.t 61) (.c (.slice none 0 0)) 1⟩])
  (.sq (.rg [⟨(some 62), none, .mv (.t 3)⟩,
    ⟨(some 63), none, .mv (.t 0)⟩,
    ⟨(some 64), none, .nc (.t 63)⟩,
    ⟨(some 65), none, .fa (.t 64) 4⟩,
    ⟨(some 66), none, .ld (.t 65) 1 false⟩,
    ⟨(some 67), none, .ca 133 [(.t 62), (.t 66)]⟩,
    ⟨(some 4), none, .mv (.t 67)⟩])
  (.sq (.rg [⟨(some 68), none, .mv (.t 4)⟩,
    ⟨(some 69), none, .ib .lss (.t 68) (.c (.int .i64 0))⟩])
  (.cd (.t 69)
  (.rg [⟨(some 70), none, .mv (.t 0)⟩,
    ⟨(some 71), none, .nc (.t 70)⟩,
    ⟨(some 72), none, .fa (.t 71) 6⟩,
    ⟨none, none, .st (.t 72) (.c (.bool true)) 1⟩])
  (.rg [⟨(some 73), none, .mv (.t 0)⟩,
    ⟨(some 74), none, .mv (.t 0)⟩,
    ⟨(some 75), none, .mv (.t 0)⟩,
    ⟨(some 76), none, .nc (.t 75)⟩,
    ⟨(some 77), none, .fa (.t 76) 5⟩,
    ⟨(some 78), none, .ld (.t 77) 1 false⟩,
    ⟨(some 79), none, .mv (.t 4)⟩,
    ⟨(some 80), none, .bs 3 1 [(.int .i64 0)] [(0, 1, (.t 79))]⟩,
    ⟨(some 81), none, .ap 53 3 1 8 [(.int .i64 0)] (.t 78) (.t 80)⟩,
    ⟨(some 82), none, .nc (.t 73)⟩,
    ⟨(some 83), none, .fa (.t 82) 5⟩,
    ⟨none, none, .st (.t 83) (.t 81) 1⟩,
    ⟨(some 84), none, .nc (.t 74)⟩,
    ⟨(some 85), none, .fa (.t 84) 2⟩,
    ⟨none, none, .st (.t 85) (.c (.int .i64 1)) 1⟩]))))))
  (.sq (.rg [⟨(some 87), none, .ib .eql (.t 16) (.c (.int .i64 1))⟩,
    ⟨(some 86), none, .mv (.t 87)⟩])
  (.cd (.t 86)
  (.sq (.rd [⟨0, 0, [0], ⟨(some 88), none, .mv (.t 0)⟩⟩,
    ⟨1, 0, [3], ⟨(some 89), none, .mv (.t 3)⟩⟩,
    ⟨2, 0, [3], ⟨(some 90), none, .mv (.t 3)⟩⟩,
    ⟨3, 4, [90], ⟨(some 91), none, .nc (.t 90)⟩⟩,
    ⟨4, 12, [91], ⟨(some 92), none, .fa (.t 91) 0⟩⟩,
    ⟨5, 28, [92], ⟨(some 93), none, .ld (.t 92) 1 false⟩⟩,
    ⟨6, 0, [3], ⟨(some 94), none, .mv (.t 3)⟩⟩,
    ⟨7, 64, [94], ⟨(some 95), none, .nc (.t 94)⟩⟩,
    ⟨8, 192, [95], ⟨(some 96), none, .fa (.t 95) 2⟩⟩,
    ⟨9, 448, [96], ⟨(some 97), none, .ld (.t 96) 1 false⟩⟩,
    ⟨10, 0, [0], ⟨(some 98), none, .mv (.t 0)⟩⟩,
    ⟨11, 1024, [98], ⟨(some 99), none, .nc (.t 98)⟩⟩,
    ⟨12, 3072, [99], ⟨(some 100), none, .fa (.t 99) 5⟩⟩,
    ⟨13, 7168, [100], ⟨(some 101), none, .ld (.t 100) 1 false⟩⟩,
    ⟨14, 0, [0], ⟨(some 102), none, .mv (.t 0)⟩⟩,
    ⟨15, 16384, [102], ⟨(some 103), none, .nc (.t 102)⟩⟩,
    ⟨16, 49152, [103], ⟨(some 104), none, .fa (.t 103) 5⟩⟩,
    ⟨17, 114688, [104], ⟨(some 105), none, .ld (.t 104) 1 false⟩⟩,
    ⟨18, 245760, [105], ⟨(some 106), none, .len (.t 105)⟩⟩,
    ⟨19, 507904, [106], ⟨(some 107), none, .ib .sub (.t 106) (.c (.int .i64 1))⟩⟩,
    ⟨20, 1047552, [101, 107], ⟨(some 108), none, .ia (.t 101) (.t 107) 1⟩⟩,
    ⟨21, 2096128, [108], ⟨(some 109), none, .ld (.t 108) 1 false⟩⟩,
    ⟨22, 4194240, [97, 109], ⟨(some 110), none, .ib .add (.t 97) (.t 109)⟩⟩,
    ⟨23, 8388604, [93, 110], ⟨(some 111), none, .ca 98 [(.t 93), (.t 110)]⟩⟩,
    ⟨24, 16777214, [89, 111], ⟨(some 112), none, .ca 134 [(.t 89), (.t 111)]⟩⟩,
    ⟨25, 33554431, [88], ⟨(some 113), none, .nc (.t 88)⟩⟩,
    ⟨26, 67108863, [113], ⟨(some 114), none, .fa (.t 113) 3⟩⟩,
    ⟨27, 134217727, [114, 112], ⟨none, none, .st (.t 114) (.t 112) 1⟩⟩])
  (.sq (.rd [⟨0, 0, [0], ⟨(some 115), none, .mv (.t 0)⟩⟩,
    ⟨1, 1, [115], ⟨(some 116), none, .nc (.t 115)⟩⟩,
    ⟨2, 3, [116], ⟨(some 117), none, .fa (.t 116) 3⟩⟩,
    ⟨3, 7, [117], ⟨(some 118), none, .ld (.t 117) 1 false⟩⟩,
    ⟨4, 15, [118], ⟨(some 119), none, .ib .geq (.t 118) (.c (.int .i64 0))⟩⟩,
    ⟨5, 31, [119], ⟨(some 120), none, .mv (.t 119)⟩⟩,
    ⟨6, 63, [0, 120], ⟨(some 121), (some (120, true)), .mv (.t 0)⟩⟩,
    ⟨7, 127, [121, 120], ⟨(some 122), (some (120, true)), .nc (.t 121)⟩⟩,
    ⟨8, 255, [122, 120], ⟨(some 123), (some (120, true)), .fa (.t 122) 5⟩⟩,
    ⟨9, 511, [123, 120], ⟨(some 124), (some (120, true)), .ld (.t 123) 1 false⟩⟩,
    ⟨10, 1023, [124, 120], ⟨(some 125), (some (120, true)), .len (.t 124)⟩⟩,
    ⟨11, 63, [0, 120], ⟨(some 126), (some (120, true)), .mv (.t 0)⟩⟩,
    ⟨12, 2111, [126, 120], ⟨(some 127), (some (120, true)), .nc (.t 126)⟩⟩,
    ⟨13, 6207, [127, 120], ⟨(some 128), (some (120, true)), .fa (.t 127) 1⟩⟩,
    ⟨14, 14399, [128, 120], ⟨(some 129), (some (120, true)), .ld (.t 128) 1 false⟩⟩,
    ⟨15, 32767, [125, 129, 120], ⟨(some 130), (some (120, true)), .ib .lss (.t 125) (.t 129)⟩⟩,
    ⟨16, 65535, [120, 130], ⟨(some 131), none, .pk (.t 120) (.t 130) (.c (.bool false))⟩⟩])
  (.cd (.t 131)
  (.rd [⟨0, 0, [0], ⟨(some 132), none, .mv (.t 0)⟩⟩,
    ⟨1, 0, [0], ⟨(some 133), none, .mv (.t 0)⟩⟩,
    ⟨2, 2, [133], ⟨(some 134), none, .nc (.t 133)⟩⟩,
    ⟨3, 6, [134], ⟨(some 135), none, .fa (.t 134) 5⟩⟩,
    ⟨4, 14, [135], ⟨(some 136), none, .ld (.t 135) 1 false⟩⟩,
    ⟨5, 0, [0], ⟨(some 137), none, .mv (.t 0)⟩⟩,
    ⟨6, 32, [137], ⟨(some 138), none, .nc (.t 137)⟩⟩,
    ⟨7, 96, [138], ⟨(some 139), none, .fa (.t 138) 3⟩⟩,
    ⟨8, 224, [139], ⟨(some 140), none, .ld (.t 139) 1 false⟩⟩,
    ⟨9, 480, [140], ⟨(some 141), none, .bs 3 1 [(.int .i64 0)] [(0, 1, (.t 140))]⟩⟩,
    ⟨10, 1022, [136, 141], ⟨(some 142), none, .ap 53 3 1 8 [(.int .i64 0)] (.t 136) (.t 141)⟩⟩,
    ⟨11, 2047, [132], ⟨(some 143), none, .nc (.t 132)⟩⟩,
    ⟨12, 4095, [143], ⟨(some 144), none, .fa (.t 143) 5⟩⟩,
    ⟨13, 8191, [144, 142], ⟨none, none, .st (.t 144) (.t 142) 1⟩⟩])
  (.rg [⟨(some 145), none, .mv (.t 0)⟩,
    ⟨(some 146), none, .nc (.t 145)⟩,
    ⟨(some 147), none, .fa (.t 146) 2⟩,
    ⟨none, none, .st (.t 147) (.c (.int .i64 2)) 1⟩]))))
  (.sq (.rd [⟨0, 0, [0], ⟨(some 17), none, .mv (.t 0)⟩⟩,
    ⟨1, 0, [3], ⟨(some 18), none, .mv (.t 3)⟩⟩,
    ⟨2, 2, [18], ⟨(some 19), none, .nc (.t 18)⟩⟩,
    ⟨3, 6, [19], ⟨(some 20), none, .fa (.t 19) 0⟩⟩,
    ⟨4, 14, [20], ⟨(some 21), none, .ld (.t 20) 1 false⟩⟩,
    ⟨5, 0, [3], ⟨(some 22), none, .mv (.t 3)⟩⟩,
    ⟨6, 32, [22], ⟨(some 23), none, .nc (.t 22)⟩⟩,
    ⟨7, 96, [23], ⟨(some 24), none, .fa (.t 23) 1⟩⟩,
    ⟨8, 224, [24], ⟨(some 25), none, .ld (.t 24) 1 false⟩⟩,
    ⟨9, 0, [0], ⟨(some 26), none, .mv (.t 0)⟩⟩,
    ⟨10, 512, [26], ⟨(some 27), none, .nc (.t 26)⟩⟩,
    ⟨11, 1536, [27], ⟨(some 28), none, .fa (.t 27) 4⟩⟩,
    ⟨12, 3584, [28], ⟨(some 29), none, .ld (.t 28) 1 false⟩⟩,
    ⟨13, 0, [0], ⟨(some 30), none, .mv (.t 0)⟩⟩,
    ⟨14, 8192, [30], ⟨(some 31), none, .nc (.t 30)⟩⟩,
    ⟨15, 24576, [31], ⟨(some 32), none, .fa (.t 31) 4⟩⟩,
    ⟨16, 57344, [32], ⟨(some 33), none, .ld (.t 32) 1 false⟩⟩,
    ⟨17, 0, [0], ⟨(some 34), none, .mv (.t 0)⟩⟩,
    ⟨18, 131072, [34], ⟨(some 35), none, .nc (.t 34)⟩⟩,
    ⟨19, 393216, [35], ⟨(some 36), none, .fa (.t 35) 3⟩⟩,
    ⟨20, 917504, [36], ⟨(some 37), none, .ld (.t 36) 1 false⟩⟩,
    ⟨21, 2088960, [33, 37], ⟨(some 38), none, .ca 195 [(.t 33), (.t 37)]⟩⟩,
    ⟨22, 4194302, [21, 25, 29, 38], ⟨(some 39), none, .ca 102 [(.t 21), (.t 25), (.t 29), (.t 38)]⟩⟩,
    ⟨23, 8388607, [17], ⟨(some 40), none, .nc (.t 17)⟩⟩,
    ⟨24, 16777215, [40], ⟨(some 41), none, .fa (.t 40) 6⟩⟩,
    ⟨25, 33554431, [41, 39], ⟨none, none, .st (.t 41) (.t 39) 1⟩⟩])
  (.rg [⟨(some 42), none, .mv (.t 0)⟩,
    ⟨(some 43), none, .nc (.t 42)⟩,
    ⟨(some 44), none, .fa (.t 43) 2⟩,
    ⟨none, none, .st (.t 44) (.c (.int .i64 0)) 1⟩]))))))))
  (.sq (.rg [⟨(some 2), none, .mv (.c (.bool true))⟩])
  .rt)))))⟩
theorem k167 : cF Tryz.prog Tryz.f167 = some c167 := by kernel_rfl
/-- (*rundale/rundaleref5.Pop).Got -/
def c168 : Fu := ⟨13, [.t 2],
  (.sq (.rg [⟨(some 2), none, .mv (.c (.slice none 0 0))⟩])
  (.sq (.sq (.rg [⟨(some 3), none, .mv (.t 0)⟩,
    ⟨(some 4), none, .nc (.t 3)⟩,
    ⟨(some 5), none, .fa (.t 4) 6⟩,
    ⟨(some 6), none, .ld (.t 5) 1 false⟩,
    ⟨(some 7), none, .nt (.t 6)⟩])
  (.cd (.t 7)
  (.sq (.rg [⟨(some 2), none, .mv (.c (.slice none 0 0))⟩])
  .rt)
  .sk))
  (.sq (.rg [⟨(some 8), none, .mv (.t 0)⟩,
    ⟨(some 9), none, .nc (.t 8)⟩,
    ⟨(some 10), none, .fa (.t 9) 5⟩,
    ⟨(some 11), none, .ld (.t 10) 1 false⟩,
    ⟨(some 12), none, .ap 53 3 1 8 [(.int .i64 0)] (.c (.slice none 0 0)) (.t 11)⟩,
    ⟨(some 2), none, .mv (.t 12)⟩])
  .rt)))⟩
theorem k168 : cF Tryz.prog Tryz.f168 = some c168 := by kernel_rfl
/-- rundale/rundaleref11.Later -/
def c169 : Fu := ⟨7, [.t 2],
  (.sq (.rg [⟨(some 2), none, .mv (.c (.int .i64 0))⟩])
  (.sq (.sq (.rg [⟨(some 3), none, .mv (.t 0)⟩,
    ⟨(some 4), none, .ib .geq (.t 3) (.c (.int .i64 4294967295))⟩])
  (.cd (.t 4)
  (.sq (.rg [⟨(some 2), none, .mv (.c (.int .i64 0))⟩])
  .rt)
  .sk))
  (.sq (.rg [⟨(some 5), none, .mv (.t 0)⟩,
    ⟨(some 6), none, .ib .add (.t 5) (.c (.int .i64 1))⟩,
    ⟨(some 2), none, .mv (.t 6)⟩])
  .rt)))⟩
theorem k169 : cF Tryz.prog Tryz.f169 = some c169 := by kernel_rfl
/-- rundale/bits.Get -/
def c170 : Fu := ⟨17, [.t 6],
  (.sq (.rg [⟨(some 6), none, .mv (.c (.int .u64 0))⟩])
  (.sq (.sq (.rg [⟨(some 7), none, .mv (.t 1)⟩,
    ⟨(some 8), none, .mv (.t 2)⟩,
    ⟨(some 9), none, .ca 225 [(.t 7), (.t 8)]⟩,
    ⟨(some 10), none, .nt (.t 9)⟩])
  (.cd (.t 10)
  (.sq (.rg [⟨(some 6), none, .mv (.c (.int .u64 0))⟩])
  .rt)
  .sk))
  (.sq (.rd [⟨0, 0, [0], ⟨(some 11), none, .mv (.t 0)⟩⟩,
    ⟨1, 0, [1], ⟨(some 12), none, .mv (.t 1)⟩⟩,
    ⟨2, 3, [11, 12], ⟨(some 13), none, .ib .shr (.t 11) (.t 12)⟩⟩,
    ⟨3, 0, [2], ⟨(some 14), none, .mv (.t 2)⟩⟩,
    ⟨4, 8, [14], ⟨(some 15), none, .ca 226 [(.t 14)]⟩⟩,
    ⟨5, 31, [13, 15], ⟨(some 16), none, .ib .and (.t 13) (.t 15)⟩⟩,
    ⟨6, 63, [16], ⟨(some 6), none, .mv (.t 16)⟩⟩])
  .rt)))⟩
theorem k170 : cF Tryz.prog Tryz.f170 = some c170 := by kernel_rfl
/-- rundale/word.GetHead -/
def c171 : Fu := ⟨11, [.c 2 2 true],
  (.sq (.rg [⟨(some 2), none, .al 238 [(.int .i64 0), (.int .i64 0)]⟩])
  (.sq (.rg [⟨(some 3), none, .mv (.t 0)⟩,
    ⟨(some 4), none, .ca 170 [(.t 3), (.c (.int .i64 0)), (.c (.int .i64 32))]⟩,
    ⟨(some 5), none, .cv .i64 (.t 4)⟩,
    ⟨(some 6), none, .ib .sub (.t 5) (.c (.int .i64 1))⟩,
    ⟨(some 7), none, .mv (.t 0)⟩,
    ⟨(some 8), none, .ca 170 [(.t 7), (.c (.int .i64 32)), (.c (.int .i64 32))]⟩,
    ⟨(some 9), none, .cv .i64 (.t 8)⟩,
    ⟨(some 10), none, .bd [(.int .i64 0), (.int .i64 0)] [(0, 1, (.t 6)), (1, 1, (.t 9))]⟩,
    ⟨none, none, .st (.t 2) (.t 10) 2⟩])
  .rt))⟩
theorem k171 : cF Tryz.prog Tryz.f171 = some c171 := by kernel_rfl
/-- rundale/rundaleref1.at -/
def c172 : Fu := ⟨24, [.t 8],
  (.sq (.rg [⟨(some 4), none, .bx 24 (.t 0)⟩,
    ⟨(some 8), none, .mv (.c (.int .i64 0))⟩])
  (.sq (.sq (.rg [⟨(some 9), none, .ld (.t 4) 6 true⟩,
    ⟨(some 10), none, .ca 185 [(.t 9)]⟩,
    ⟨(some 11), none, .nt (.t 10)⟩,
    ⟨(some 12), none, .mv (.t 11)⟩,
    ⟨(some 13), (some (12, false)), .mv (.t 3)⟩,
    ⟨(some 14), (some (12, false)), .ib .lss (.t 13) (.c (.int .i64 0))⟩,
    ⟨(some 15), none, .pk (.t 12) (.c (.bool true)) (.t 14)⟩,
    ⟨(some 16), none, .mv (.t 15)⟩,
    ⟨(some 17), (some (16, false)), .mv (.t 3)⟩,
    ⟨(some 18), (some (16, false)), .mv (.t 2)⟩,
    ⟨(some 19), (some (16, false)), .ib .geq (.t 17) (.t 18)⟩,
    ⟨(some 20), none, .pk (.t 16) (.c (.bool true)) (.t 19)⟩])
  (.cd (.t 20)
  (.sq (.rg [⟨(some 8), none, .mv (.c (.int .i64 (-1)))⟩])
  .rt)
  .sk))
  (.sq (.rg [⟨(some 21), none, .mv (.t 1)⟩,
    ⟨(some 22), none, .mv (.t 3)⟩,
    ⟨(some 23), none, .ib .add (.t 21) (.t 22)⟩,
    ⟨(some 8), none, .mv (.t 23)⟩])
  .rt)))⟩
theorem k172 : cF Tryz.prog Tryz.f172 = some c172 := by kernel_rfl
/-- rundale/rundaleref1.in -/
def c173 : Fu := ⟨15, [.t 6],
  (.sq (.rg [⟨(some 6), none, .mv (.c (.bool false))⟩])
  (.sq (.rg [⟨(some 7), none, .mv (.t 0)⟩,
    ⟨(some 8), none, .mv (.t 1)⟩,
    ⟨(some 9), none, .ib .geq (.t 7) (.t 8)⟩,
    ⟨(some 10), none, .mv (.t 9)⟩,
    ⟨(some 11), (some (10, true)), .mv (.t 0)⟩,
    ⟨(some 12), (some (10, true)), .mv (.t 2)⟩,
    ⟨(some 13), (some (10, true)), .ib .leq (.t 11) (.t 12)⟩,
    ⟨(some 14), none, .pk (.t 10) (.t 13) (.c (.bool false))⟩,
    ⟨(some 6), none, .mv (.t 14)⟩])
  .rt))⟩
theorem k173 : cF Tryz.prog Tryz.f173 = some c173 := by kernel_rfl
/-- (*rundale/roots.Roots).load -/
def c174 : Fu := ⟨25, [.t 4, .c 5 4 true],
  (.sq (.rg [⟨(some 4), none, .mv (.c (.int .u64 0))⟩,
    ⟨(some 5), none, .al 68 [(.int .i64 0), (.int .i64 0), (.int .i64 0), (.int .i64 0)]⟩])
  (.sq (.rd [⟨0, 0, [0], ⟨(some 9), none, .mv (.t 0)⟩⟩,
    ⟨1, 1, [9], ⟨(some 10), none, .nc (.t 9)⟩⟩,
    ⟨2, 3, [10], ⟨(some 11), none, .fa (.t 10) 0⟩⟩,
    ⟨3, 7, [11], ⟨(some 12), none, .ld (.t 11) 1 false⟩⟩,
    ⟨4, 0, [0], ⟨(some 13), none, .mv (.t 0)⟩⟩,
    ⟨5, 16, [13], ⟨(some 14), none, .nc (.t 13)⟩⟩,
    ⟨6, 48, [14], ⟨(some 15), none, .fa (.t 14) 1⟩⟩,
    ⟨7, 112, [15], ⟨(some 16), none, .ld (.t 15) 6 true⟩⟩,
    ⟨8, 0, [1], ⟨(some 17), none, .mv (.t 1)⟩⟩,
    ⟨9, 496, [16, 17], ⟨(some 18), none, .ca 94 [(.t 16), (.t 17)]⟩⟩,
    ⟨10, 1023, [12, 18], ⟨(some 19), none, .ca 151 [(.t 12), (.t 18)]⟩⟩,
    ⟨11, 2047, [19], ⟨(some 8), none, .mv (.t 19)⟩⟩,
    ⟨12, 4095, [8], ⟨(some 20), none, .ex (.t 8) 0⟩⟩,
    ⟨13, 4095, [8], ⟨(some 21), none, .ex (.t 8) 1⟩⟩,
    ⟨14, 8191, [20], ⟨(some 6), none, .mv (.t 20)⟩⟩,
    ⟨15, 32767, [21], ⟨(some 7), none, .mv (.t 21)⟩⟩])
  (.sq (.rg [⟨(some 22), none, .mv (.t 6)⟩,
    ⟨(some 23), none, .mv (.t 6)⟩,
    ⟨(some 24), none, .ca 93 [(.t 23)]⟩,
    ⟨(some 4), none, .mv (.t 22)⟩,
    ⟨none, none, .st (.t 5) (.t 24) 4⟩])
  .rt)))⟩
theorem k174 : cF Tryz.prog Tryz.f174 = some c174 := by kernel_rfl
/-- (*rundale/run.Machine).Count -/
def c175 : Fu := ⟨7, [.t 2],
  (.sq (.rg [⟨(some 2), none, .mv (.c (.int .i64 0))⟩])
  (.sq (.rg [⟨(some 3), none, .mv (.t 0)⟩,
    ⟨(some 4), none, .nc (.t 3)⟩,
    ⟨(some 5), none, .fa (.t 4) 4⟩,
    ⟨(some 6), none, .ld (.t 5) 1 false⟩,
    ⟨(some 2), none, .mv (.t 6)⟩])
  .rt))⟩
theorem k175 : cF Tryz.prog Tryz.f175 = some c175 := by kernel_rfl
/-- (*rundale/roots.End).cas -/
def c176 : Fu := ⟨67, [],
  (.sq (.rg [⟨(some 7), none, .mv (.t 0)⟩,
    ⟨(some 8), none, .nc (.t 7)⟩,
    ⟨(some 9), none, .fa (.t 8) 9⟩,
    ⟨(some 10), none, .fa (.t 9) 0⟩,
    ⟨(some 11), none, .ld (.t 10) 1 false⟩,
    ⟨(some 12), none, .bd [(.int .i64 0), (.int .i64 0), (.int .i64 0), (.int .i64 0)] [(0, 1, (.t 11))]⟩,
    ⟨(some 13), none, .ca 227 [(.t 12)]⟩,
    ⟨(some 6), none, .mv (.t 13)⟩,
    ⟨(some 14), none, .ex (.t 6) 0⟩,
    ⟨(some 15), none, .ex (.t 6) 1⟩,
    ⟨(some 2), none, .mv (.t 14)⟩,
    ⟨(some 3), none, .mv (.t 15)⟩])
  (.sq (.sq (.rd [⟨0, 0, [0], ⟨(some 17), none, .mv (.t 0)⟩⟩,
    ⟨1, 1, [17], ⟨(some 18), none, .nc (.t 17)⟩⟩,
    ⟨2, 3, [18], ⟨(some 19), none, .fa (.t 18) 5⟩⟩,
    ⟨3, 7, [19], ⟨(some 20), none, .ld (.t 19) 1 false⟩⟩,
    ⟨4, 15, [20], ⟨(some 21), none, .nc (.t 20)⟩⟩,
    ⟨5, 31, [21], ⟨(some 22), none, .fa (.t 21) 0⟩⟩,
    ⟨6, 63, [22], ⟨(some 23), none, .ld (.t 22) 1 false⟩⟩,
    ⟨7, 0, [0], ⟨(some 24), none, .mv (.t 0)⟩⟩,
    ⟨8, 128, [24], ⟨(some 25), none, .nc (.t 24)⟩⟩,
    ⟨9, 384, [25], ⟨(some 26), none, .fa (.t 25) 5⟩⟩,
    ⟨10, 896, [26], ⟨(some 27), none, .ld (.t 26) 1 false⟩⟩,
    ⟨11, 1920, [27], ⟨(some 28), none, .nc (.t 27)⟩⟩,
    ⟨12, 3968, [28], ⟨(some 29), none, .fa (.t 28) 1⟩⟩,
    ⟨13, 8064, [29], ⟨(some 30), none, .ld (.t 29) 6 true⟩⟩,
    ⟨14, 0, [0], ⟨(some 31), none, .mv (.t 0)⟩⟩,
    ⟨15, 16384, [31], ⟨(some 32), none, .nc (.t 31)⟩⟩,
    ⟨16, 49152, [32], ⟨(some 33), none, .fa (.t 32) 6⟩⟩,
    ⟨17, 114688, [33], ⟨(some 34), none, .ld (.t 33) 1 false⟩⟩,
    ⟨18, 262016, [30, 34], ⟨(some 35), none, .ca 94 [(.t 30), (.t 34)]⟩⟩,
    ⟨19, 0, [0], ⟨(some 36), none, .mv (.t 0)⟩⟩,
    ⟨20, 524288, [36], ⟨(some 37), none, .nc (.t 36)⟩⟩,
    ⟨21, 1572864, [37], ⟨(some 38), none, .fa (.t 37) 8⟩⟩,
    ⟨22, 3670016, [38], ⟨(some 39), none, .ld (.t 38) 1 false⟩⟩,
    ⟨23, 0, [2], ⟨(some 40), none, .mv (.t 2)⟩⟩,
    ⟨24, 16777215, [23, 35, 39, 40], ⟨(some 41), none, .ca 228 [(.t 23), (.t 35), (.t 39), (.t 40)]⟩⟩,
    ⟨25, 33554431, [41], ⟨(some 16), none, .mv (.t 41)⟩⟩,
    ⟨26, 67108863, [16], ⟨(some 42), none, .ex (.t 16) 0⟩⟩,
    ⟨27, 67108863, [16], ⟨(some 43), none, .ex (.t 16) 1⟩⟩,
    ⟨28, 134217727, [42], ⟨(some 4), none, .mv (.t 42)⟩⟩,
    ⟨29, 536870911, [43], ⟨(some 5), none, .mv (.t 43)⟩⟩])
  (.sq (.rg [⟨(some 44), none, .mv (.t 4)⟩,
    ⟨(some 45), none, .nt (.t 44)⟩])
  (.cd (.t 45)
  (.sq (.rg [⟨(some 46), none, .mv (.t 0)⟩,
    ⟨(some 47), none, .nc (.t 46)⟩,
    ⟨(some 48), none, .fa (.t 47) 0⟩,
    ⟨(some 49), none, .mv (.t 0)⟩,
    ⟨(some 50), none, .mf (.func 105) [(.t 49)] []⟩,
    ⟨(some 51), none, .ca 79 [(.t 48), (.t 50)]⟩])
  .rt)
  .sk)))
  (.rd [⟨0, 0, [0], ⟨(some 52), none, .mv (.t 0)⟩⟩,
    ⟨1, 0, [0], ⟨(some 53), none, .mv (.t 0)⟩⟩,
    ⟨2, 0, [0], ⟨(some 54), none, .mv (.t 0)⟩⟩,
    ⟨3, 4, [54], ⟨(some 55), none, .nc (.t 54)⟩⟩,
    ⟨4, 12, [55], ⟨(some 56), none, .fa (.t 55) 9⟩⟩,
    ⟨5, 28, [56], ⟨(some 57), none, .ld (.t 56) 4 true⟩⟩,
    ⟨6, 60, [57], ⟨(some 58), none, .ca 213 [(.t 57)]⟩⟩,
    ⟨7, 0, [0], ⟨(some 59), none, .mv (.t 0)⟩⟩,
    ⟨8, 128, [59], ⟨(some 60), none, .nc (.t 59)⟩⟩,
    ⟨9, 384, [60], ⟨(some 61), none, .fa (.t 60) 0⟩⟩,
    ⟨10, 1020, [61], ⟨(some 62), none, .ca 175 [(.t 61)]⟩⟩,
    ⟨11, 2045, [52], ⟨(some 63), none, .nc (.t 52)⟩⟩,
    ⟨12, 4093, [63], ⟨(some 64), none, .fa (.t 63) 14⟩⟩,
    ⟨13, 8189, [64, 58], ⟨none, none, .st (.t 64) (.t 58) 1⟩⟩,
    ⟨14, 16383, [53], ⟨(some 65), none, .nc (.t 53)⟩⟩,
    ⟨15, 32767, [65], ⟨(some 66), none, .fa (.t 65) 15⟩⟩,
    ⟨16, 65535, [66, 62], ⟨none, none, .st (.t 66) (.t 62) 1⟩⟩])))⟩
theorem k176 : cF Tryz.prog Tryz.f176 = some c176 := by kernel_rfl
/-- rundale/rundaleref1.May -/
def c185 : Fu := ⟨37, [.t 2],
  (.sq (.rg [⟨(some 1), none, .bx 24 (.t 0)⟩,
    ⟨(some 2), none, .mv (.c (.bool false))⟩])
  (.sq (.rg [⟨(some 3), none, .fa (.t 1) 0⟩,
    ⟨(some 4), none, .ld (.t 3) 1 false⟩,
    ⟨(some 5), none, .ca 173 [(.t 4), (.c (.int .i64 1)), (.c (.int .i64 64))]⟩,
    ⟨(some 6), none, .mv (.t 5)⟩,
    ⟨(some 7), (some (6, true)), .fa (.t 1) 1⟩,
    ⟨(some 8), (some (6, true)), .ld (.t 7) 1 false⟩,
    ⟨(some 9), (some (6, true)), .ca 173 [(.t 8), (.c (.int .i64 1)), (.c (.int .i64 4096))]⟩,
    ⟨(some 10), none, .pk (.t 6) (.t 9) (.c (.bool false))⟩,
    ⟨(some 11), none, .mv (.t 10)⟩,
    ⟨(some 12), (some (11, true)), .fa (.t 1) 2⟩,
    ⟨(some 13), (some (11, true)), .ld (.t 12) 1 false⟩,
    ⟨(some 14), (some (11, true)), .ca 173 [(.t 13), (.c (.int .i64 8)), (.c (.int .i64 1024))]⟩,
    ⟨(some 15), none, .pk (.t 11) (.t 14) (.c (.bool false))⟩,
    ⟨(some 16), none, .mv (.t 15)⟩,
    ⟨(some 17), (some (16, true)), .fa (.t 1) 2⟩,
    ⟨(some 18), (some (16, true)), .ld (.t 17) 1 false⟩,
    ⟨(some 19), (some (16, true)), .ib .rem (.t 18) (.c (.int .i64 8))⟩,
    ⟨(some 20), (some (16, true)), .ib .eql (.t 19) (.c (.int .i64 0))⟩,
    ⟨(some 21), none, .pk (.t 16) (.t 20) (.c (.bool false))⟩,
    ⟨(some 22), none, .mv (.t 21)⟩,
    ⟨(some 23), (some (22, true)), .fa (.t 1) 3⟩,
    ⟨(some 24), (some (22, true)), .ld (.t 23) 1 false⟩,
    ⟨(some 25), (some (22, true)), .ca 173 [(.t 24), (.c (.int .i64 1)), (.c (.int .i64 4096))]⟩,
    ⟨(some 26), none, .pk (.t 22) (.t 25) (.c (.bool false))⟩,
    ⟨(some 27), none, .mv (.t 26)⟩,
    ⟨(some 28), (some (27, true)), .fa (.t 1) 4⟩,
    ⟨(some 29), (some (27, true)), .ld (.t 28) 1 false⟩,
    ⟨(some 30), (some (27, true)), .ca 173 [(.t 29), (.c (.int .i64 0)), (.c (.int .i64 64))]⟩,
    ⟨(some 31), none, .pk (.t 27) (.t 30) (.c (.bool false))⟩,
    ⟨(some 32), none, .mv (.t 31)⟩,
    ⟨(some 33), (some (32, true)), .fa (.t 1) 5⟩,
    ⟨(some 34), (some (32, true)), .ld (.t 33) 1 false⟩,
    ⟨(some 35), (some (32, true)), .ca 173 [(.t 34), (.c (.int .i64 1)), (.c (.int .i64 8))]⟩,
    ⟨(some 36), none, .pk (.t 32) (.t 35) (.c (.bool false))⟩,
    ⟨(some 2), none, .mv (.t 36)⟩])
  .rt))⟩
theorem k185 : cF Tryz.prog Tryz.f185 = some c185 := by kernel_rfl
/-- (*rundale/supply.Give).Done -/
def c188 : Fu := ⟨7, [.t 2],
  (.sq (.rg [⟨(some 2), none, .mv (.c (.bool false))⟩])
  (.sq (.rg [⟨(some 3), none, .mv (.t 0)⟩,
    ⟨(some 4), none, .nc (.t 3)⟩,
    ⟨(some 5), none, .fa (.t 4) 0⟩,
    ⟨(some 6), none, .ca 92 [(.t 5)]⟩,
    ⟨(some 2), none, .mv (.t 6)⟩])
  .rt))⟩
theorem k188 : cF Tryz.prog Tryz.f188 = some c188 := by kernel_rfl
/-- slices.Clone[[]int,int] -/
def c189 : Fu := ⟨8, [.t 2],
  (.sq (.rg [⟨(some 2), none, .mv (.c (.slice none 0 0))⟩])
  (.sq (.sq (.rg [⟨(some 3), none, .mv (.t 0)⟩,
    ⟨(some 4), none, .en 1 false (.t 3) (.c (.slice none 0 0))⟩])
  (.cd (.t 4)
  (.sq (.rg [⟨(some 2), none, .mv (.c (.slice none 0 0))⟩])
  .rt)
  .sk))
  (.sq (.rg [⟨(some 5), none, .bs 3 0 [] []⟩,
    ⟨(some 6), none, .mv (.t 0)⟩,
    ⟨(some 7), none, .ap 53 3 1 8 [(.int .i64 0)] (.t 5) (.t 6)⟩,
    ⟨(some 2), none, .mv (.t 7)⟩])
  .rt)))⟩
theorem k189 : cF Tryz.prog Tryz.f189 = some c189 := by kernel_rfl
/-- (*rundale/run.Machine).on -/
def c190 : Fu := ⟨17, [],
  (.sq (.sq (.rg [⟨(some 2), none, .mv (.t 0)⟩,
    ⟨(some 3), none, .nc (.t 2)⟩,
    ⟨(some 4), none, .fa (.t 3) 2⟩,
    ⟨(some 5), none, .ld (.t 4) 1 false⟩,
    ⟨(some 6), none, .cl (.t 5) []⟩])
  (.cd (.t 6)
  (.sq (.rg [⟨(some 7), none, .mv (.t 0)⟩,
    ⟨(some 8), none, .nc (.t 7)⟩,
    ⟨(some 9), none, .fa (.t 8) 3⟩,
    ⟨(some 10), none, .ld (.t 9) 1 false⟩,
    ⟨(some 11), none, .cl (.t 10) []⟩])
  .rt)
  .sk))
  (.rg [⟨(some 12), none, .mv (.t 0)⟩,
    ⟨(some 13), none, .mv (.t 0)⟩,
    ⟨(some 14), none, .mf (.func 232) [(.t 13)] []⟩,
    ⟨(some 15), none, .nc (.t 12)⟩,
    ⟨(some 16), none, .fa (.t 15) 0⟩,
    ⟨none, none, .st (.t 16) (.t 14) 1⟩]))⟩
theorem k190 : cF Tryz.prog Tryz.f190 = some c190 := by kernel_rfl
/-- (*rundale/ending.Free).look -/
def c191 : Fu := ⟨55, [],
  (.sq (.rg [⟨(some 7), none, .mv (.t 0)⟩,
    ⟨(some 8), none, .nc (.t 7)⟩,
    ⟨(some 9), none, .fa (.t 8) 5⟩,
    ⟨(some 10), none, .ld (.t 9) 1 false⟩,
    ⟨(some 11), none, .nc (.t 10)⟩,
    ⟨(some 12), none, .fa (.t 11) 0⟩,
    ⟨(some 13), none, .ld (.t 12) 1 false⟩,
    ⟨(some 14), none, .ca 151 [(.t 13), (.c (.int .i64 2))]⟩,
    ⟨(some 6), none, .mv (.t 14)⟩,
    ⟨(some 15), none, .ex (.t 6) 0⟩,
    ⟨(some 16), none, .ex (.t 6) 1⟩,
    ⟨(some 2), none, .mv (.t 15)⟩,
    ⟨(some 3), none, .mv (.t 16)⟩])
  (.sq (.rg [⟨(some 17), none, .mv (.t 0)⟩,
    ⟨(some 18), none, .mv (.t 2)⟩,
    ⟨(some 19), none, .ca 233 [(.t 18)]⟩,
    ⟨(some 20), none, .nc (.t 17)⟩,
    ⟨(some 21), none, .fa (.t 20) 11⟩,
    ⟨none, none, .st (.t 21) (.t 19) 1⟩])
  (.sq (.rd [⟨0, 0, [0], ⟨(some 23), none, .mv (.t 0)⟩⟩,
    ⟨1, 1, [23], ⟨(some 24), none, .nc (.t 23)⟩⟩,
    ⟨2, 3, [24], ⟨(some 25), none, .fa (.t 24) 5⟩⟩,
    ⟨3, 7, [25], ⟨(some 26), none, .ld (.t 25) 1 false⟩⟩,
    ⟨4, 15, [26], ⟨(some 27), none, .nc (.t 26)⟩⟩,
    ⟨5, 31, [27], ⟨(some 28), none, .fa (.t 27) 2⟩⟩,
    ⟨6, 63, [28], ⟨(some 29), none, .ld (.t 28) 1 false⟩⟩,
    ⟨7, 0, [0], ⟨(some 30), none, .mv (.t 0)⟩⟩,
    ⟨8, 128, [30], ⟨(some 31), none, .nc (.t 30)⟩⟩,
    ⟨9, 384, [31], ⟨(some 32), none, .fa (.t 31) 12⟩⟩,
    ⟨10, 896, [32], ⟨(some 33), none, .ld (.t 32) 1 false⟩⟩,
    ⟨11, 2047, [29, 33], ⟨(some 34), none, .ca 234 [(.t 29), (.t 33)]⟩⟩,
    ⟨12, 4095, [34], ⟨(some 22), none, .mv (.t 34)⟩⟩,
    ⟨13, 8191, [22], ⟨(some 35), none, .ex (.t 22) 0⟩⟩,
    ⟨14, 8191, [22], ⟨(some 36), none, .ex (.t 22) 1⟩⟩,
    ⟨15, 16383, [35], ⟨(some 4), none, .mv (.t 35)⟩⟩,
    ⟨16, 65535, [36], ⟨(some 5), none, .mv (.t 36)⟩⟩])
  (.sq (.sq (.rg [⟨(some 37), none, .mv (.t 5)⟩,
    ⟨(some 38), none, .ib .neq (.t 37) (.c (.int .i64 0))⟩])
  (.cd (.t 38)
  (.sq (.rg [⟨(some 39), none, .mv (.t 0)⟩,
    ⟨(some 40), none, .ca 192 [(.t 39)]⟩])
  .rt)
  .sk))
  (.sq (.rg [⟨(some 41), none, .mv (.t 0)⟩,
    ⟨(some 42), none, .mv (.t 4)⟩,
    ⟨(some 43), none, .nc (.t 41)⟩,
    ⟨(some 44), none, .fa (.t 43) 9⟩,
    ⟨none, none, .st (.t 44) (.t 42) 1⟩])
  (.rg [⟨(some 45), none, .mv (.t 0)⟩,
    ⟨(some 46), none, .nc (.t 45)⟩,
    ⟨(some 47), none, .fa (.t 46) 0⟩,
    ⟨(some 48), none, .mv (.t 4)⟩,
    ⟨(some 49), none, .mf (.func 235) [(.t 48)] []⟩,
    ⟨(some 50), none, .mv (.t 4)⟩,
    ⟨(some 51), none, .mf (.func 236) [(.t 50)] []⟩,
    ⟨(some 52), none, .mv (.t 0)⟩,
    ⟨(some 53), none, .mf (.func 237) [(.t 52)] []⟩,
    ⟨(some 54), none, .ca 119 [(.t 47), (.t 49), (.t 51), (.t 53)]⟩]))))))⟩
theorem k191 : cF Tryz.prog Tryz.f191 = some c191 := by kernel_rfl
/-- (*rundale/ending.Free).leave -/
def c192 : Fu := ⟨34, [],
  (.sq (.rg [⟨(some 4), none, .mv (.t 0)⟩,
    ⟨(some 5), none, .nc (.t 4)⟩,
    ⟨(some 6), none, .fa (.t 5) 12⟩,
    ⟨none, none, .st (.t 6) (.c (.int .i64 (-1))) 1⟩])
  (.sq (.rd [⟨0, 0, [0], ⟨(some 8), none, .mv (.t 0)⟩⟩,
    ⟨1, 1, [8], ⟨(some 9), none, .nc (.t 8)⟩⟩,
    ⟨2, 3, [9], ⟨(some 10), none, .fa (.t 9) 5⟩⟩,
    ⟨3, 7, [10], ⟨(some 11), none, .ld (.t 10) 1 false⟩⟩,
    ⟨4, 15, [11], ⟨(some 12), none, .nc (.t 11)⟩⟩,
    ⟨5, 31, [12], ⟨(some 13), none, .fa (.t 12) 1⟩⟩,
    ⟨6, 63, [13], ⟨(some 14), none, .ld (.t 13) 1 false⟩⟩,
    ⟨7, 0, [0], ⟨(some 15), none, .mv (.t 0)⟩⟩,
    ⟨8, 128, [15], ⟨(some 16), none, .nc (.t 15)⟩⟩,
    ⟨9, 384, [16], ⟨(some 17), none, .fa (.t 16) 7⟩⟩,
    ⟨10, 896, [17], ⟨(some 18), none, .ld (.t 17) 1 false⟩⟩,
    ⟨11, 2047, [14, 18], ⟨(some 19), none, .ca 238 [(.t 14), (.t 18)]⟩⟩,
    ⟨12, 4095, [19], ⟨(some 7), none, .mv (.t 19)⟩⟩,
    ⟨13, 8191, [7], ⟨(some 20), none, .ex (.t 7) 0⟩⟩,
    ⟨14, 8191, [7], ⟨(some 21), none, .ex (.t 7) 1⟩⟩,
    ⟨15, 16383, [20], ⟨(some 2), none, .mv (.t 20)⟩⟩,
    ⟨16, 65535, [21], ⟨(some 3), none, .mv (.t 21)⟩⟩])
  (.sq (.rg [⟨(some 22), none, .mv (.t 3)⟩,
    ⟨(some 23), none, .ib .eql (.t 22) (.c (.int .i64 0))⟩])
  (.cd (.t 23)
  (.rg [⟨(some 24), none, .mv (.t 0)⟩,
    ⟨(some 25), none, .nc (.t 24)⟩,
    ⟨(some 26), none, .fa (.t 25) 0⟩,
    ⟨(some 27), none, .mv (.t 2)⟩,
    ⟨(some 28), none, .mf (.func 239) [(.t 27)] []⟩,
    ⟨(some 29), none, .mv (.t 2)⟩,
    ⟨(some 30), none, .mf (.func 240) [(.t 29)] []⟩,
    ⟨(some 31), none, .mv (.t 0)⟩,
    ⟨(some 32), none, .mf (.func 241) [(.t 31)] []⟩,
    ⟨(some 33), none, .ca 119 [(.t 26), (.t 28), (.t 30), (.t 32)]⟩])
  .sk))))⟩
theorem k192 : cF Tryz.prog Tryz.f192 = some c192 := by kernel_rfl
/-- rundale/rundaleref5.next -/
def c195 : Fu := ⟨16, [.t 4],
  (.sq (.rg [⟨(some 4), none, .mv (.c (.int .u64 0))⟩])
  (.sq (.rg [⟨(some 8), none, .mv (.t 0)⟩,
    ⟨(some 9), none, .ca 200 [(.t 8)]⟩,
    ⟨(some 10), none, .mv (.t 1)⟩,
    ⟨(some 11), none, .ca 242 [(.t 9), (.t 10)]⟩,
    ⟨(some 12), none, .ca 204 [(.t 11)]⟩,
    ⟨(some 7), none, .mv (.t 12)⟩,
    ⟨(some 13), none, .ex (.t 7) 0⟩,
    ⟨(some 14), none, .ex (.t 7) 1⟩,
    ⟨(some 5), none, .mv (.t 13)⟩,
    ⟨(some 6), none, .mv (.t 14)⟩])
  (.sq (.rg [⟨(some 15), none, .mv (.t 5)⟩,
    ⟨(some 4), none, .mv (.t 15)⟩])
  .rt)))⟩
theorem k195 : cF Tryz.prog Tryz.f195 = some c195 := by kernel_rfl
/-- (*rundale/chain.Chains).is -/
def c198 : Fu := ⟨16, [.t 4],
  (.sq (.rg [⟨(some 4), none, .mv (.c (.bool false))⟩])
  (.sq (.rg [⟨(some 5), none, .mv (.t 1)⟩,
    ⟨(some 6), none, .ib .geq (.t 5) (.c (.int .i64 0))⟩,
    ⟨(some 7), none, .mv (.t 6)⟩,
    ⟨(some 8), (some (7, true)), .mv (.t 1)⟩,
    ⟨(some 9), (some (7, true)), .mv (.t 0)⟩,
    ⟨(some 10), (some (7, true)), .nc (.t 9)⟩,
    ⟨(some 11), (some (7, true)), .fa (.t 10) 1⟩,
    ⟨(some 12), (some (7, true)), .fa (.t 11) 1⟩,
    ⟨(some 13), (some (7, true)), .ld (.t 12) 1 false⟩,
    ⟨(some 14), (some (7, true)), .ib .lss (.t 8) (.t 13)⟩,
    ⟨(some 15), none, .pk (.t 7) (.t 14) (.c (.bool false))⟩,
    ⟨(some 4), none, .mv (.t 15)⟩])
  .rt))⟩
theorem k198 : cF Tryz.prog Tryz.f198 = some c198 := by kernel_rfl
/-- (*rundale/chain.Chains).behind -/
def c199 : Fu := ⟨16, [.t 4],
  (.sq (.rg [⟨(some 4), none, .mv (.c (.int .i64 0))⟩])
  (.sq (.sq (.rg [⟨(some 5), none, .mv (.t 1)⟩,
    ⟨(some 6), none, .mv (.t 0)⟩,
    ⟨(some 7), none, .nc (.t 6)⟩,
    ⟨(some 8), none, .fa (.t 7) 1⟩,
    ⟨(some 9), none, .fa (.t 8) 1⟩,
    ⟨(some 10), none, .ld (.t 9) 1 false⟩,
    ⟨(some 11), none, .cv .u64 (.t 10)⟩,
    ⟨(some 12), none, .ib .gtr (.t 5) (.t 11)⟩])
  (.cd (.t 12)
  (.sq (.rg [⟨(some 4), none, .mv (.c (.int .i64 (-1)))⟩])
  .rt)
  .sk))
  (.sq (.rg [⟨(some 13), none, .mv (.t 1)⟩,
    ⟨(some 14), none, .cv .i64 (.t 13)⟩,
    ⟨(some 15), none, .ib .sub (.t 14) (.c (.int .i64 1))⟩,
    ⟨(some 4), none, .mv (.t 15)⟩])
  .rt)))⟩
theorem k199 : cF Tryz.prog Tryz.f199 = some c199 := by kernel_rfl
/-- rundale/rundaleref1.GetHead -/
def c200 : Fu := ⟨11, [.c 2 2 true],
  (.sq (.rg [⟨(some 2), none, .al 264 [(.int .i64 0), (.int .i64 0)]⟩])
  (.sq (.rg [⟨(some 3), none, .mv (.t 0)⟩,
    ⟨(some 4), none, .ib .rem (.t 3) (.c (.int .u64 4294967296))⟩,
    ⟨(some 5), none, .cv .i64 (.t 4)⟩,
    ⟨(some 6), none, .ib .sub (.t 5) (.c (.int .i64 1))⟩,
    ⟨(some 7), none, .mv (.t 0)⟩,
    ⟨(some 8), none, .ib .quo (.t 7) (.c (.int .u64 4294967296))⟩,
    ⟨(some 9), none, .cv .i64 (.t 8)⟩,
    ⟨(some 10), none, .bd [(.int .i64 0), (.int .i64 0)] [(0, 1, (.t 6)), (1, 1, (.t 9))]⟩,
    ⟨none, none, .st (.t 2) (.t 10) 2⟩])
  .rt))⟩
theorem k200 : cF Tryz.prog Tryz.f200 = some c200 := by kernel_rfl
/-- rundale/stack.New$1 -/
def c202 : Fu := ⟨12, [.t 3],
  (.sq (.rg [⟨(some 3), none, .mv (.c (.bool false))⟩])
  (.sq (.rg [⟨(some 4), none, .mv (.t 0)⟩,
    ⟨(some 5), none, .ib .geq (.t 4) (.c (.int .i64 0))⟩,
    ⟨(some 6), none, .mv (.t 5)⟩,
    ⟨(some 7), (some (6, true)), .mv (.t 0)⟩,
    ⟨(some 8), (some (6, true)), .ld (.t 1) 1 false⟩,
    ⟨(some 9), (some (6, true)), .ca 137 [(.t 8)]⟩,
    ⟨(some 10), (some (6, true)), .ib .lss (.t 7) (.t 9)⟩,
    ⟨(some 11), none, .pk (.t 6) (.t 10) (.c (.bool false))⟩,
    ⟨(some 3), none, .mv (.t 11)⟩])
  .rt))⟩
theorem k202 : cF Tryz.prog Tryz.f202 = some c202 := by kernel_rfl
/-- rundale/word.PutHead -/
def c203 : Fu := ⟨31, [.t 2, .t 3],
  (.sq (.rg [⟨(some 1), none, .bx 238 (.t 0)⟩,
    ⟨(some 2), none, .mv (.c (.int .u64 0))⟩,
    ⟨(some 3), none, .mv (.c (.bool false))⟩])
  (.sq (.sq (.rg [⟨(some 6), none, .fa (.t 1) 0⟩,
    ⟨(some 7), none, .ld (.t 6) 1 false⟩,
    ⟨(some 8), none, .ca 243 [(.t 7), (.c (.int .i64 (-1))), (.c (.int .i64 4294967294))]⟩,
    ⟨(some 9), none, .nt (.t 8)⟩,
    ⟨(some 10), none, .mv (.t 9)⟩,
    ⟨(some 11), (some (10, false)), .fa (.t 1) 1⟩,
    ⟨(some 12), (some (10, false)), .ld (.t 11) 1 false⟩,
    ⟨(some 13), (some (10, false)), .ca 243 [(.t 12), (.c (.int .i64 0)), (.c (.int .i64 4294967295))]⟩,
    ⟨(some 14), (some (10, false)), .nt (.t 13)⟩,
    ⟨(some 15), none, .pk (.t 10) (.c (.bool true)) (.t 14)⟩])
  (.cd (.t 15)
  (.sq (.rg [⟨(some 2), none, .mv (.c (.int .u64 0))⟩,
    ⟨(some 3), none, .mv (.c (.bool false))⟩])
  .rt)
  .sk))
  (.sq (.rg [⟨(some 17), none, .fa (.t 1) 0⟩,
    ⟨(some 18), none, .ld (.t 17) 1 false⟩,
    ⟨(some 19), none, .ib .add (.t 18) (.c (.int .i64 1))⟩,
    ⟨(some 20), none, .cv .u64 (.t 19)⟩,
    ⟨(some 21), none, .ca 244 [(.c (.int .u64 0)), (.c (.int .i64 0)), (.c (.int .i64 32)), (.t 20)]⟩,
    ⟨(some 16), none, .mv (.t 21)⟩,
    ⟨(some 22), none, .ex (.t 16) 0⟩,
    ⟨(some 23), none, .ex (.t 16) 1⟩,
    ⟨(some 4), none, .mv (.t 22)⟩,
    ⟨(some 5), none, .mv (.t 23)⟩])
  (.sq (.rg [⟨(some 24), none, .mv (.t 4)⟩,
    ⟨(some 25), none, .fa (.t 1) 1⟩,
    ⟨(some 26), none, .ld (.t 25) 1 false⟩,
    ⟨(some 27), none, .cv .u64 (.t 26)⟩,
    ⟨(some 28), none, .ca 244 [(.t 24), (.c (.int .i64 32)), (.c (.int .i64 32)), (.t 27)]⟩,
    ⟨(some 29), none, .ex (.t 28) 0⟩,
    ⟨(some 30), none, .ex (.t 28) 1⟩,
    ⟨(some 2), none, .mv (.t 29)⟩,
    ⟨(some 3), none, .mv (.t 30)⟩])
  .rt))))⟩
theorem k203 : cF Tryz.prog Tryz.f203 = some c203 := by kernel_rfl
/-- rundale/rundaleref1.PutHead -/
def c204 : Fu := ⟨31, [.t 2, .t 3],
  (.sq (.rg [⟨(some 1), none, .bx 264 (.t 0)⟩,
    ⟨(some 2), none, .mv (.c (.int .u64 0))⟩,
    ⟨(some 3), none, .mv (.c (.bool false))⟩])
  (.sq (.sq (.rg [⟨(some 4), none, .fa (.t 1) 0⟩,
    ⟨(some 5), none, .ld (.t 4) 1 false⟩,
    ⟨(some 6), none, .ib .lss (.t 5) (.c (.int .i64 (-1)))⟩,
    ⟨(some 7), none, .mv (.t 6)⟩,
    ⟨(some 8), (some (7, false)), .fa (.t 1) 0⟩,
    ⟨(some 9), (some (7, false)), .ld (.t 8) 1 false⟩,
    ⟨(some 10), (some (7, false)), .ib .geq (.t 9) (.c (.int .i64 4294967295))⟩,
    ⟨(some 11), none, .pk (.t 7) (.c (.bool true)) (.t 10)⟩,
    ⟨(some 12), none, .mv (.t 11)⟩,
    ⟨(some 13), (some (12, false)), .fa (.t 1) 1⟩,
    ⟨(some 14), (some (12, false)), .ld (.t 13) 1 false⟩,
    ⟨(some 15), (some (12, false)), .ib .lss (.t 14) (.c (.int .i64 0))⟩,
    ⟨(some 16), none, .pk (.t 12) (.c (.bool true)) (.t 15)⟩,
    ⟨(some 17), none, .mv (.t 16)⟩,
    ⟨(some 18), (some (17, false)), .fa (.t 1) 1⟩,
    ⟨(some 19), (some (17, false)), .ld (.t 18) 1 false⟩,
    ⟨(some 20), (some (17, false)), .ib .gtr (.t 19) (.c (.int .i64 4294967295))⟩,
    ⟨(some 21), none, .pk (.t 17) (.c (.bool true)) (.t 20)⟩])
  (.cd (.t 21)
  (.sq (.rg [⟨(some 2), none, .mv (.c (.int .u64 0))⟩,
    ⟨(some 3), none, .mv (.c (.bool false))⟩])
  .rt)
  .sk))
  (.sq (.rg [⟨(some 22), none, .fa (.t 1) 1⟩,
    ⟨(some 23), none, .ld (.t 22) 1 false⟩,
    ⟨(some 24), none, .cv .u64 (.t 23)⟩,
    ⟨(some 25), none, .ib .mul (.t 24) (.c (.int .u64 4294967296))⟩,
    ⟨(some 26), none, .fa (.t 1) 0⟩,
    ⟨(some 27), none, .ld (.t 26) 1 false⟩,
    ⟨(some 28), none, .ib .add (.t 27) (.c (.int .i64 1))⟩,
    ⟨(some 29), none, .cv .u64 (.t 28)⟩,
    ⟨(some 30), none, .ib .add (.t 25) (.t 29)⟩,
    ⟨(some 2), none, .mv (.t 30)⟩,
    ⟨(some 3), none, .mv (.c (.bool true))⟩])
  .rt)))⟩
theorem k204 : cF Tryz.prog Tryz.f204 = some c204 := by kernel_rfl
/-- (*rundale/cells.Cells).stroke -/
def c205 : Fu := ⟨43, [.t 10],
  (.sq (.rg [⟨(some 10), none, .mv (.c (.int .u64 0))⟩])
  (.sq (.rg [⟨(some 12), none, .mv (.t 0)⟩,
    ⟨(some 13), none, .nc (.t 12)⟩,
    ⟨(some 14), none, .fa (.t 13) 0⟩,
    ⟨(some 15), none, .ld (.t 14) 1 false⟩,
    ⟨(some 16), none, .mv (.t 2)⟩,
    ⟨(some 17), none, .ia (.t 15) (.t 16) 1⟩,
    ⟨(some 18), none, .ld (.t 17) 1 false⟩,
    ⟨(some 11), none, .mv (.t 18)⟩])
  (.sq (.rg [⟨(some 19), none, .mv (.t 0)⟩,
    ⟨(some 20), none, .nc (.t 19)⟩,
    ⟨(some 21), none, .fa (.t 20) 0⟩,
    ⟨(some 22), none, .ld (.t 21) 1 false⟩,
    ⟨(some 23), none, .mv (.t 2)⟩,
    ⟨(some 24), none, .mv (.t 3)⟩,
    ⟨(some 25), none, .ia (.t 22) (.t 23) 1⟩,
    ⟨none, none, .st (.t 25) (.t 24) 1⟩])
  (.sq (.rg [⟨(some 26), none, .mv (.t 0)⟩,
    ⟨(some 27), none, .nc (.t 26)⟩,
    ⟨(some 28), none, .fa (.t 27) 1⟩,
    ⟨(some 29), none, .ld (.t 28) 1 false⟩,
    ⟨(some 30), none, .ib .add (.t 29) (.c (.int .i64 1))⟩,
    ⟨(some 31), none, .nc (.t 26)⟩,
    ⟨(some 32), none, .fa (.t 31) 1⟩,
    ⟨none, none, .st (.t 32) (.t 30) 1⟩])
  (.sq (.rg [⟨(some 33), none, .mv (.t 0)⟩,
    ⟨(some 34), none, .mv (.t 1)⟩,
    ⟨(some 35), none, .mv (.t 2)⟩,
    ⟨(some 36), none, .mv (.t 11)⟩,
    ⟨(some 37), none, .mv (.t 3)⟩,
    ⟨(some 38), none, .mv (.t 4)⟩,
    ⟨(some 39), none, .bd [(.int .i64 0), (.int .i64 0), (.int .u64 0), (.int .u64 0), (.bool false)] [(0, 1, (.t 34)), (1, 1, (.t 35)), (2, 1, (.t 36)), (3, 1, (.t 37)), (4, 1, (.t 38))]⟩,
    ⟨(some 40), none, .nc (.t 33)⟩,
    ⟨(some 41), none, .fa (.t 40) 2⟩,
    ⟨none, none, .st (.t 41) (.t 39) 5⟩])
  (.sq (.rg [⟨(some 42), none, .mv (.t 11)⟩,
    ⟨(some 10), none, .mv (.t 42)⟩])
  .rt))))))⟩
theorem k205 : cF Tryz.prog Tryz.f205 = some c205 := by kernel_rfl
/-- (*rundale/supply.Supply).Spill -/
def c207 : Fu := ⟨10, [.t 2],
  (.sq (.rg [⟨(some 2), none, .mv (.c (.pointer none))⟩])
  (.sq (.rg [⟨(some 3), none, .mv (.t 0)⟩,
    ⟨(some 4), none, .mv (.t 0)⟩,
    ⟨(some 5), none, .nc (.t 4)⟩,
    ⟨(some 6), none, .fa (.t 5) 8⟩,
    ⟨(some 7), none, .ld (.t 6) 1 false⟩,
    ⟨(some 8), none, .ca 246 [(.t 7)]⟩,
    ⟨(some 9), none, .ca 245 [(.t 3), (.t 8)]⟩,
    ⟨(some 2), none, .mv (.t 9)⟩])
  .rt))⟩
theorem k207 : cF Tryz.prog Tryz.f207 = some c207 := by kernel_rfl
/-- (*rundale/supply.Give).Step -/
def c208 : Fu := ⟨7, [.t 2],
  (.sq (.rg [⟨(some 2), none, .mv (.c (.bool false))⟩])
  (.sq (.rg [⟨(some 3), none, .mv (.t 0)⟩,
    ⟨(some 4), none, .nc (.t 3)⟩,
    ⟨(some 5), none, .fa (.t 4) 0⟩,
    ⟨(some 6), none, .ca 91 [(.t 5)]⟩,
    ⟨(some 2), none, .mv (.t 6)⟩])
  .rt))⟩
theorem k208 : cF Tryz.prog Tryz.f208 = some c208 := by kernel_rfl
/-- rundale/word.Chunk -/
def c213 : Fu := ⟨9, [.t 2],
  (.sq (.rg [⟨(some 1), none, .bx 68 (.t 0)⟩,
    ⟨(some 2), none, .mv (.c (.int .i64 0))⟩])
  (.sq (.sq (.rg [⟨(some 3), none, .fa (.t 1) 1⟩,
    ⟨(some 4), none, .ld (.t 3) 1 false⟩,
    ⟨(some 5), none, .ib .lss (.t 4) (.c (.int .i64 2))⟩])
  (.cd (.t 5)
  (.sq (.rg [⟨(some 2), none, .mv (.c (.int .i64 (-1)))⟩])
  .rt)
  .sk))
  (.sq (.rg [⟨(some 6), none, .fa (.t 1) 1⟩,
    ⟨(some 7), none, .ld (.t 6) 1 false⟩,
    ⟨(some 8), none, .ib .sub (.t 7) (.c (.int .i64 2))⟩,
    ⟨(some 2), none, .mv (.t 8)⟩])
  .rt)))⟩
theorem k213 : cF Tryz.prog Tryz.f213 = some c213 := by kernel_rfl
/-- (*rundale/cells.Cells).Store -/
def c214 : Fu := ⟨15, [.t 6],
  (.sq (.rg [⟨(some 6), none, .mv (.c (.int .i64 0))⟩])
  (.sq (.sq (.rg [⟨(some 7), none, .mv (.t 0)⟩,
    ⟨(some 8), none, .mv (.t 1)⟩,
    ⟨(some 9), none, .ca 81 [(.t 7), (.t 8)]⟩,
    ⟨(some 10), none, .nt (.t 9)⟩])
  (.cd (.t 10)
  (.sq (.rg [⟨(some 6), none, .mv (.c (.int .i64 1))⟩])
  .rt)
  .sk))
  (.sq (.rg [⟨(some 11), none, .mv (.t 0)⟩,
    ⟨(some 12), none, .mv (.t 1)⟩,
    ⟨(some 13), none, .mv (.t 2)⟩,
    ⟨(some 14), none, .ca 205 [(.t 11), (.c (.int .i64 2)), (.t 12), (.t 13), (.c (.bool true))]⟩])
  (.sq (.rg [⟨(some 6), none, .mv (.c (.int .i64 0))⟩])
  .rt))))⟩
theorem k214 : cF Tryz.prog Tryz.f214 = some c214 := by kernel_rfl
/-- (*rundale/stack.Pop).load -/
def c222 : Fu := ⟨54, [],
  (.sq (.rd [⟨0, 0, [0], ⟨(some 4), none, .mv (.t 0)⟩⟩,
    ⟨1, 0, [0], ⟨(some 5), none, .mv (.t 0)⟩⟩,
    ⟨2, 2, [5], ⟨(some 6), none, .nc (.t 5)⟩⟩,
    ⟨3, 6, [6], ⟨(some 7), none, .fa (.t 6) 5⟩⟩,
    ⟨4, 14, [7], ⟨(some 8), none, .ld (.t 7) 1 false⟩⟩,
    ⟨5, 30, [8], ⟨(some 9), none, .nc (.t 8)⟩⟩,
    ⟨6, 62, [9], ⟨(some 10), none, .fa (.t 9) 0⟩⟩,
    ⟨7, 126, [10], ⟨(some 11), none, .ld (.t 10) 1 false⟩⟩,
    ⟨8, 0, [0], ⟨(some 12), none, .mv (.t 0)⟩⟩,
    ⟨9, 256, [12], ⟨(some 13), none, .nc (.t 12)⟩⟩,
    ⟨10, 768, [13], ⟨(some 14), none, .fa (.t 13) 5⟩⟩,
    ⟨11, 1792, [14], ⟨(some 15), none, .ld (.t 14) 1 false⟩⟩,
    ⟨12, 3840, [15], ⟨(some 16), none, .nc (.t 15)⟩⟩,
    ⟨13, 7936, [16], ⟨(some 17), none, .fa (.t 16) 1⟩⟩,
    ⟨14, 16128, [17], ⟨(some 18), none, .ld (.t 17) 1 false⟩⟩,
    ⟨15, 32766, [11, 18], ⟨(some 19), none, .ca 151 [(.t 11), (.t 18)]⟩⟩,
    ⟨16, 65534, [19], ⟨(some 3), none, .mv (.t 19)⟩⟩,
    ⟨17, 131070, [3], ⟨(some 20), none, .ex (.t 3) 0⟩⟩,
    ⟨18, 131070, [3], ⟨(some 21), none, .ex (.t 3) 1⟩⟩,
    ⟨19, 262143, [4], ⟨(some 22), none, .nc (.t 4)⟩⟩,
    ⟨20, 786431, [22], ⟨(some 23), none, .fa (.t 22) 8⟩⟩,
    ⟨21, 1835007, [23, 20], ⟨none, none, .st (.t 23) (.t 20) 1⟩⟩])
  (.sq (.rg [⟨(some 24), none, .mv (.t 0)⟩,
    ⟨(some 25), none, .nc (.t 24)⟩,
    ⟨(some 26), none, .fa (.t 25) 9⟩,
    ⟨none, none, .st (.t 26) (.c (.slice none 0 0)) 1⟩])
  (.sq (.rd [⟨0, 0, [0], ⟨(some 27), none, .mv (.t 0)⟩⟩,
    ⟨1, 1, [27], ⟨(some 28), none, .nc (.t 27)⟩⟩,
    ⟨2, 3, [28], ⟨(some 29), none, .fa (.t 28) 5⟩⟩,
    ⟨3, 7, [29], ⟨(some 30), none, .ld (.t 29) 1 false⟩⟩,
    ⟨4, 0, [0], ⟨(some 31), none, .mv (.t 0)⟩⟩,
    ⟨5, 16, [31], ⟨(some 32), none, .nc (.t 31)⟩⟩,
    ⟨6, 48, [32], ⟨(some 33), none, .fa (.t 32) 8⟩⟩,
    ⟨7, 112, [33], ⟨(some 34), none, .ld (.t 33) 1 false⟩⟩,
    ⟨8, 255, [30, 34], ⟨(some 35), none, .ca 95 [(.t 30), (.t 34)]⟩⟩,
    ⟨9, 511, [35], ⟨(some 2), none, .mv (.t 35)⟩⟩])
  (.sq (.rg [⟨(some 36), none, .mv (.t 2)⟩,
    ⟨(some 37), none, .ib .geq (.t 36) (.c (.int .i64 0))⟩])
  (.cd (.t 37)
  (.sq (.rg [⟨(some 38), none, .mv (.t 0)⟩,
    ⟨(some 39), none, .mv (.t 0)⟩,
    ⟨(some 40), none, .nc (.t 39)⟩,
    ⟨(some 41), none, .fa (.t 40) 9⟩,
    ⟨(some 42), none, .ld (.t 41) 1 false⟩,
    ⟨(some 43), none, .mv (.t 2)⟩,
    ⟨(some 44), none, .bs 3 1 [(.int .i64 0)] [(0, 1, (.t 43))]⟩,
    ⟨(some 45), none, .ap 53 3 1 8 [(.int .i64 0)] (.t 42) (.t 44)⟩,
    ⟨(some 46), none, .nc (.t 38)⟩,
    ⟨(some 47), none, .fa (.t 46) 9⟩,
    ⟨none, none, .st (.t 47) (.t 45) 1⟩])
  (.rg [⟨(some 48), none, .mv (.t 0)⟩,
    ⟨(some 49), none, .nc (.t 48)⟩,
    ⟨(some 50), none, .fa (.t 49) 0⟩,
    ⟨(some 51), none, .mv (.t 0)⟩,
    ⟨(some 52), none, .mf (.func 250) [(.t 51)] []⟩,
    ⟨(some 53), none, .ca 79 [(.t 50), (.t 52)]⟩]))
  .sk)))))⟩
theorem k222 : cF Tryz.prog Tryz.f222 = some c222 := by kernel_rfl
/-- (*rundale/stack.Pop).Got -/
def c223 : Fu := ⟨11, [.t 2],
  (.sq (.rg [⟨(some 2), none, .mv (.c (.slice none 0 0))⟩])
  (.sq (.sq (.rg [⟨(some 3), none, .mv (.t 0)⟩,
    ⟨(some 4), none, .ca 164 [(.t 3)]⟩,
    ⟨(some 5), none, .nt (.t 4)⟩])
  (.cd (.t 5)
  (.sq (.rg [⟨(some 2), none, .mv (.c (.slice none 0 0))⟩])
  .rt)
  .sk))
  (.sq (.rg [⟨(some 6), none, .mv (.t 0)⟩,
    ⟨(some 7), none, .nc (.t 6)⟩,
    ⟨(some 8), none, .fa (.t 7) 9⟩,
    ⟨(some 9), none, .ld (.t 8) 1 false⟩,
    ⟨(some 10), none, .ca 189 [(.t 9)]⟩,
    ⟨(some 2), none, .mv (.t 10)⟩])
  .rt)))⟩
theorem k223 : cF Tryz.prog Tryz.f223 = some c223 := by kernel_rfl
/-- (*rundale/roots.Create).load -/
def c224 : Fu := ⟨28, [],
  (.sq (.rd [⟨0, 0, [0], ⟨(some 5), none, .mv (.t 0)⟩⟩,
    ⟨1, 1, [5], ⟨(some 6), none, .nc (.t 5)⟩⟩,
    ⟨2, 3, [6], ⟨(some 7), none, .fa (.t 6) 5⟩⟩,
    ⟨3, 7, [7], ⟨(some 8), none, .ld (.t 7) 1 false⟩⟩,
    ⟨4, 0, [0], ⟨(some 9), none, .mv (.t 0)⟩⟩,
    ⟨5, 16, [9], ⟨(some 10), none, .nc (.t 9)⟩⟩,
    ⟨6, 48, [10], ⟨(some 11), none, .fa (.t 10) 8⟩⟩,
    ⟨7, 112, [11], ⟨(some 12), none, .ld (.t 11) 1 false⟩⟩,
    ⟨8, 255, [8, 12], ⟨(some 13), none, .ca 174 [(.t 8), (.t 12)]⟩⟩,
    ⟨9, 511, [13], ⟨(some 4), none, .mv (.t 13)⟩⟩,
    ⟨10, 1023, [4], ⟨(some 14), none, .ex (.t 4) 0⟩⟩,
    ⟨11, 1023, [4], ⟨(some 15), none, .ex (.t 4) 1⟩⟩,
    ⟨12, 0, [], ⟨(some 3), none, .al 68 [(.int .i64 0), (.int .i64 0), (.int .i64 0), (.int .i64 0)]⟩⟩,
    ⟨13, 6143, [14], ⟨(some 2), none, .mv (.t 14)⟩⟩,
    ⟨14, 16383, [3, 15], ⟨none, none, .st (.t 3) (.t 15) 4⟩⟩])
  (.sq (.rg [⟨(some 16), none, .mv (.t 0)⟩,
    ⟨(some 17), none, .mv (.t 0)⟩,
    ⟨(some 18), none, .ld (.t 3) 4 true⟩,
    ⟨(some 19), none, .ca 251 [(.t 17), (.t 18)]⟩,
    ⟨(some 20), none, .nc (.t 16)⟩,
    ⟨(some 21), none, .fa (.t 20) 10⟩,
    ⟨none, none, .st (.t 21) (.t 19) 4⟩])
  (.rg [⟨(some 22), none, .mv (.t 0)⟩,
    ⟨(some 23), none, .nc (.t 22)⟩,
    ⟨(some 24), none, .fa (.t 23) 0⟩,
    ⟨(some 25), none, .mv (.t 0)⟩,
    ⟨(some 26), none, .mf (.func 252) [(.t 25)] []⟩,
    ⟨(some 27), none, .ca 79 [(.t 24), (.t 26)]⟩])))⟩
theorem k224 : cF Tryz.prog Tryz.f224 = some c224 := by kernel_rfl
/-- rundale/bits.field -/
def c225 : Fu := ⟨21, [.t 4],
  (.sq (.rg [⟨(some 4), none, .mv (.c (.bool false))⟩])
  (.sq (.rg [⟨(some 5), none, .mv (.t 1)⟩,
    ⟨(some 6), none, .ib .geq (.t 5) (.c (.int .i64 0))⟩,
    ⟨(some 7), none, .mv (.t 6)⟩,
    ⟨(some 8), (some (7, true)), .mv (.t 1)⟩,
    ⟨(some 9), (some (7, true)), .ib .leq (.t 8) (.c (.int .i64 64))⟩,
    ⟨(some 10), none, .pk (.t 7) (.t 9) (.c (.bool false))⟩,
    ⟨(some 11), none, .mv (.t 10)⟩,
    ⟨(some 12), (some (11, true)), .mv (.t 0)⟩,
    ⟨(some 13), (some (11, true)), .ib .geq (.t 12) (.c (.int .i64 0))⟩,
    ⟨(some 14), none, .pk (.t 11) (.t 13) (.c (.bool false))⟩,
    ⟨(some 15), none, .mv (.t 14)⟩,
    ⟨(some 16), (some (15, true)), .mv (.t 0)⟩,
    ⟨(some 17), (some (15, true)), .mv (.t 1)⟩,
    ⟨(some 18), (some (15, true)), .ib .sub (.c (.int .i64 64)) (.t 17)⟩,
    ⟨(some 19), (some (15, true)), .ib .leq (.t 16) (.t 18)⟩,
    ⟨(some 20), none, .pk (.t 15) (.t 19) (.c (.bool false))⟩,
    ⟨(some 4), none, .mv (.t 20)⟩])
  .rt))⟩
theorem k225 : cF Tryz.prog Tryz.f225 = some c225 := by kernel_rfl
/-- rundale/bits.Mask -/
def c226 : Fu := ⟨8, [.t 2],
  (.sq (.rg [⟨(some 2), none, .mv (.c (.int .u64 0))⟩])
  (.sq (.rg [⟨(some 3), none, .mv (.t 0)⟩,
    ⟨(some 4), none, .mm true (.t 3) (.c (.int .i64 0))⟩,
    ⟨(some 5), none, .mm false (.t 4) (.c (.int .i64 64))⟩,
    ⟨(some 6), none, .ib .shl (.c (.int .u64 1)) (.t 5)⟩,
    ⟨(some 7), none, .ib .sub (.t 6) (.c (.int .u64 1))⟩,
    ⟨(some 2), none, .mv (.t 7)⟩])
  .rt))⟩
theorem k226 : cF Tryz.prog Tryz.f226 = some c226 := by kernel_rfl
/-- rundale/word.PutRoot -/
def c227 : Fu := ⟨58, [.t 2, .t 3],
  (.sq (.rg [⟨(some 1), none, .bx 68 (.t 0)⟩,
    ⟨(some 2), none, .mv (.c (.int .u64 0))⟩,
    ⟨(some 3), none, .mv (.c (.bool false))⟩])
  (.sq (.sq (.rg [⟨(some 6), none, .fa (.t 1) 0⟩,
    ⟨(some 7), none, .ld (.t 6) 1 false⟩,
    ⟨(some 8), none, .ca 243 [(.t 7), (.c (.int .i64 0)), (.c (.int .i64 4294967295))]⟩,
    ⟨(some 9), none, .nt (.t 8)⟩,
    ⟨(some 10), none, .mv (.t 9)⟩,
    ⟨(some 11), (some (10, false)), .fa (.t 1) 1⟩,
    ⟨(some 12), (some (10, false)), .ld (.t 11) 1 false⟩,
    ⟨(some 13), (some (10, false)), .ca 243 [(.t 12), (.c (.int .i64 0)), (.c (.int .i64 4097))]⟩,
    ⟨(some 14), (some (10, false)), .nt (.t 13)⟩,
    ⟨(some 15), none, .pk (.t 10) (.c (.bool true)) (.t 14)⟩,
    ⟨(some 16), none, .mv (.t 15)⟩,
    ⟨(some 17), (some (16, false)), .fa (.t 1) 2⟩,
    ⟨(some 18), (some (16, false)), .ld (.t 17) 1 false⟩,
    ⟨(some 19), (some (16, false)), .ca 243 [(.t 18), (.c (.int .i64 0)), (.c (.int .i64 3))]⟩,
    ⟨(some 20), (some (16, false)), .nt (.t 19)⟩,
    ⟨(some 21), none, .pk (.t 16) (.c (.bool true)) (.t 20)⟩,
    ⟨(some 22), none, .mv (.t 21)⟩,
    ⟨(some 23), (some (22, false)), .fa (.t 1) 3⟩,
    ⟨(some 24), (some (22, false)), .ld (.t 23) 1 false⟩,
    ⟨(some 25), (some (22, false)), .ca 243 [(.t 24), (.c (.int .i64 0)), (.c (.int .i64 1024))]⟩,
    ⟨(some 26), (some (22, false)), .nt (.t 25)⟩,
    ⟨(some 27), none, .pk (.t 22) (.c (.bool true)) (.t 26)⟩])
  (.cd (.t 27)
  (.sq (.rg [⟨(some 2), none, .mv (.c (.int .u64 0))⟩,
    ⟨(some 3), none, .mv (.c (.bool false))⟩])
  .rt)
  .sk))
  (.sq (.rg [⟨(some 29), none, .fa (.t 1) 3⟩,
    ⟨(some 30), none, .ld (.t 29) 1 false⟩,
    ⟨(some 31), none, .cv .u64 (.t 30)⟩,
    ⟨(some 32), none, .ca 244 [(.c (.int .u64 0)), (.c (.int .i64 0)), (.c (.int .i64 12)), (.t 31)]⟩,
    ⟨(some 28), none, .mv (.t 32)⟩,
    ⟨(some 33), none, .ex (.t 28) 0⟩,
    ⟨(some 34), none, .ex (.t 28) 1⟩,
    ⟨(some 4), none, .mv (.t 33)⟩,
    ⟨(some 5), none, .mv (.t 34)⟩])
  (.sq (.rg [⟨(some 36), none, .mv (.t 4)⟩,
    ⟨(some 37), none, .fa (.t 1) 2⟩,
    ⟨(some 38), none, .ld (.t 37) 1 false⟩,
    ⟨(some 39), none, .cv .u64 (.t 38)⟩,
    ⟨(some 40), none, .ca 244 [(.t 36), (.c (.int .i64 12)), (.c (.int .i64 4)), (.t 39)]⟩,
    ⟨(some 35), none, .mv (.t 40)⟩,
    ⟨(some 41), none, .ex (.t 35) 0⟩,
    ⟨(some 42), none, .ex (.t 35) 1⟩,
    ⟨(some 4), none, .mv (.t 41)⟩])
  (.sq (.rg [⟨(some 44), none, .mv (.t 4)⟩,
    ⟨(some 45), none, .fa (.t 1) 1⟩,
    ⟨(some 46), none, .ld (.t 45) 1 false⟩,
    ⟨(some 47), none, .cv .u64 (.t 46)⟩,
    ⟨(some 48), none, .ca 244 [(.t 44), (.c (.int .i64 16)), (.c (.int .i64 16)), (.t 47)]⟩,
    ⟨(some 43), none, .mv (.t 48)⟩,
    ⟨(some 49), none, .ex (.t 43) 0⟩,
    ⟨(some 50), none, .ex (.t 43) 1⟩,
    ⟨(some 4), none, .mv (.t 49)⟩])
  (.sq (.rg [⟨(some 51), none, .mv (.t 4)⟩,
    ⟨(some 52), none, .fa (.t 1) 0⟩,
    ⟨(some 53), none, .ld (.t 52) 1 false⟩,
    ⟨(some 54), none, .cv .u64 (.t 53)⟩,
    ⟨(some 55), none, .ca 244 [(.t 51), (.c (.int .i64 32)), (.c (.int .i64 32)), (.t 54)]⟩,
    ⟨(some 56), none, .ex (.t 55) 0⟩,
    ⟨(some 57), none, .ex (.t 55) 1⟩,
    ⟨(some 2), none, .mv (.t 56)⟩,
    ⟨(some 3), none, .mv (.t 57)⟩])
  .rt))))))⟩
theorem k227 : cF Tryz.prog Tryz.f227 = some c227 := by kernel_rfl
/-- (*rundale/cells.Cells).Cas -/
def c228 : Fu := ⟨37, [.t 8, .t 9],
  (.sq (.rg [⟨(some 8), none, .mv (.c (.bool false))⟩,
    ⟨(some 9), none, .mv (.c (.int .i64 0))⟩])
  (.sq (.sq (.rg [⟨(some 10), none, .mv (.t 0)⟩,
    ⟨(some 11), none, .mv (.t 1)⟩,
    ⟨(some 12), none, .ca 81 [(.t 10), (.t 11)]⟩,
    ⟨(some 13), none, .nt (.t 12)⟩])
  (.cd (.t 13)
  (.sq (.rg [⟨(some 8), none, .mv (.c (.bool false))⟩,
    ⟨(some 9), none, .mv (.c (.int .i64 1))⟩])
  .rt)
  .sk))
  (.sq (.sq (.rg [⟨(some 14), none, .mv (.t 0)⟩,
    ⟨(some 15), none, .nc (.t 14)⟩,
    ⟨(some 16), none, .fa (.t 15) 0⟩,
    ⟨(some 17), none, .ld (.t 16) 1 false⟩,
    ⟨(some 18), none, .mv (.t 1)⟩,
    ⟨(some 19), none, .ia (.t 17) (.t 18) 1⟩,
    ⟨(some 20), none, .ld (.t 19) 1 false⟩,
    ⟨(some 21), none, .mv (.t 2)⟩,
    ⟨(some 22), none, .ib .neq (.t 20) (.t 21)⟩])
  (.cd (.t 22)
  (.sq (.rg [⟨(some 23), none, .mv (.t 0)⟩,
    ⟨(some 24), none, .mv (.t 1)⟩,
    ⟨(some 25), none, .mv (.t 0)⟩,
    ⟨(some 26), none, .nc (.t 25)⟩,
    ⟨(some 27), none, .fa (.t 26) 0⟩,
    ⟨(some 28), none, .ld (.t 27) 1 false⟩,
    ⟨(some 29), none, .mv (.t 1)⟩,
    ⟨(some 30), none, .ia (.t 28) (.t 29) 1⟩,
    ⟨(some 31), none, .ld (.t 30) 1 false⟩,
    ⟨(some 32), none, .ca 205 [(.t 23), (.c (.int .i64 3)), (.t 24), (.t 31), (.c (.bool false))]⟩])
  (.sq (.rg [⟨(some 8), none, .mv (.c (.bool false))⟩,
    ⟨(some 9), none, .mv (.c (.int .i64 0))⟩])
  .rt))
  .sk))
  (.sq (.rg [⟨(some 33), none, .mv (.t 0)⟩,
    ⟨(some 34), none, .mv (.t 1)⟩,
    ⟨(some 35), none, .mv (.t 3)⟩,
    ⟨(some 36), none, .ca 205 [(.t 33), (.c (.int .i64 3)), (.t 34), (.t 35), (.c (.bool true))]⟩])
  (.sq (.rg [⟨(some 8), none, .mv (.c (.bool true))⟩,
    ⟨(some 9), none, .mv (.c (.int .i64 0))⟩])
  .rt)))))⟩
theorem k228 : cF Tryz.prog Tryz.f228 = some c228 := by kernel_rfl
/-- (*rundale/run.Machine).through -/
def c232 : Fu := ⟨9, [],
  (.sq (.rg [⟨(some 2), none, .mv (.t 0)⟩,
    ⟨(some 3), none, .nc (.t 2)⟩,
    ⟨(some 4), none, .fa (.t 3) 1⟩,
    ⟨(some 5), none, .ld (.t 4) 1 false⟩,
    ⟨(some 6), none, .cl (.t 5) []⟩])
  (.rg [⟨(some 7), none, .mv (.t 0)⟩,
    ⟨(some 8), none, .ca 190 [(.t 7)]⟩]))⟩
theorem k232 : cF Tryz.prog Tryz.f232 = some c232 := by kernel_rfl
/-- rundale/epoch.Cut -/
def c233 : Fu := ⟨6, [.t 2],
  (.sq (.rg [⟨(some 2), none, .mv (.c (.int .i64 0))⟩])
  (.sq (.rg [⟨(some 3), none, .mv (.t 0)⟩,
    ⟨(some 4), none, .mm false (.t 3) (.c (.int .u64 4611686018427387903))⟩,
    ⟨(some 5), none, .cv .i64 (.t 4)⟩,
    ⟨(some 2), none, .mv (.t 5)⟩])
  .rt))⟩
theorem k233 : cF Tryz.prog Tryz.f233 = some c233 := by kernel_rfl
/-- (*rundale/chain.Chains).Walk -/
def c234 : Fu := ⟨23, [.t 4, .t 5],
  (.sq (.rg [⟨(some 4), none, .mv (.c (.pointer none))⟩,
    ⟨(some 5), none, .mv (.c (.int .i64 0))⟩])
  (.sq (.sq (.rg [⟨(some 7), none, .mv (.t 0)⟩,
    ⟨(some 8), none, .mv (.t 1)⟩,
    ⟨(some 9), none, .ca 198 [(.t 7), (.t 8)]⟩,
    ⟨(some 10), none, .nt (.t 9)⟩])
  (.cd (.t 10)
  (.sq (.rg [⟨(some 4), none, .mv (.c (.pointer none))⟩,
    ⟨(some 5), none, .mv (.c (.int .i64 1))⟩])
  .rt)
  .sk))
  (.sq (.rg [⟨(some 11), none, .mv (.t 0)⟩,
    ⟨(some 12), none, .mv (.t 1)⟩,
    ⟨(some 13), none, .bs 3 1 [(.int .i64 0)] [(0, 1, (.t 12))]⟩,
    ⟨(some 14), none, .bd [.nilFunc, .nilFunc, .nilFunc, .nilFunc, (.int .i64 0), (.pointer none), (.slice none 0 0)] [(5, 1, (.t 11)), (6, 1, (.t 13))]⟩,
    ⟨(some 15), none, .bx 292 (.t 14)⟩,
    ⟨(some 6), none, .mv (.t 15)⟩])
  (.sq (.rg [⟨(some 16), none, .mv (.t 6)⟩,
    ⟨(some 17), none, .nc (.t 16)⟩,
    ⟨(some 18), none, .fa (.t 17) 0⟩,
    ⟨(some 19), none, .mv (.t 6)⟩,
    ⟨(some 20), none, .mf (.func 255) [(.t 19)] []⟩,
    ⟨(some 21), none, .ca 79 [(.t 18), (.t 20)]⟩])
  (.sq (.rg [⟨(some 22), none, .mv (.t 6)⟩,
    ⟨(some 4), none, .mv (.t 22)⟩,
    ⟨(some 5), none, .mv (.c (.int .i64 0))⟩])
  .rt)))))⟩
theorem k234 : cF Tryz.prog Tryz.f234 = some c234 := by kernel_rfl
/-- (*rundale/chain.Walk).Step -/
def c235 : Fu := ⟨7, [.t 2],
  (.sq (.rg [⟨(some 2), none, .mv (.c (.bool false))⟩])
  (.sq (.rg [⟨(some 3), none, .mv (.t 0)⟩,
    ⟨(some 4), none, .nc (.t 3)⟩,
    ⟨(some 5), none, .fa (.t 4) 0⟩,
    ⟨(some 6), none, .ca 91 [(.t 5)]⟩,
    ⟨(some 2), none, .mv (.t 6)⟩])
  .rt))⟩
theorem k235 : cF Tryz.prog Tryz.f235 = some c235 := by kernel_rfl
/-- (*rundale/chain.Walk).Done -/
def c236 : Fu := ⟨7, [.t 2],
  (.sq (.rg [⟨(some 2), none, .mv (.c (.bool false))⟩])
  (.sq (.rg [⟨(some 3), none, .mv (.t 0)⟩,
    ⟨(some 4), none, .nc (.t 3)⟩,
    ⟨(some 5), none, .fa (.t 4) 0⟩,
    ⟨(some 6), none, .ca 92 [(.t 5)]⟩,
    ⟨(some 2), none, .mv (.t 6)⟩])
  .rt))⟩
theorem k236 : cF Tryz.prog Tryz.f236 = some c236 := by kernel_rfl
/-- (*rundale/ending.Free).walked -/
def c237 : Fu := ⟨18, [],
  (.sq (.rd [⟨0, 0, [0], ⟨(some 2), none, .mv (.t 0)⟩⟩,
    ⟨1, 1, [2], ⟨(some 3), none, .nc (.t 2)⟩⟩,
    ⟨2, 3, [3], ⟨(some 4), none, .fa (.t 3) 6⟩⟩,
    ⟨3, 7, [4], ⟨(some 5), none, .ld (.t 4) 1 false⟩⟩,
    ⟨4, 0, [0], ⟨(some 6), none, .mv (.t 0)⟩⟩,
    ⟨5, 16, [6], ⟨(some 7), none, .nc (.t 6)⟩⟩,
    ⟨6, 48, [7], ⟨(some 8), none, .fa (.t 7) 11⟩⟩,
    ⟨7, 112, [8], ⟨(some 9), none, .ld (.t 8) 1 false⟩⟩,
    ⟨8, 0, [0], ⟨(some 10), none, .mv (.t 0)⟩⟩,
    ⟨9, 256, [10], ⟨(some 11), none, .nc (.t 10)⟩⟩,
    ⟨10, 768, [11], ⟨(some 12), none, .fa (.t 11) 9⟩⟩,
    ⟨11, 1792, [12], ⟨(some 13), none, .ld (.t 12) 1 false⟩⟩,
    ⟨12, 3840, [13], ⟨(some 14), none, .ca 257 [(.t 13)]⟩⟩,
    ⟨13, 8191, [5, 9, 14], ⟨(some 15), none, .ca 256 [(.t 5), (.t 9), (.t 14)]⟩⟩])
  (.rg [⟨(some 16), none, .mv (.t 0)⟩,
    ⟨(some 17), none, .ca 192 [(.t 16)]⟩]))⟩
theorem k237 : cF Tryz.prog Tryz.f237 = some c237 := by kernel_rfl
/-- (*rundale/roots.Roots).Back -/
def c238 : Fu := ⟨15, [.t 4, .t 5],
  (.sq (.rg [⟨(some 4), none, .mv (.c (.pointer none))⟩,
    ⟨(some 5), none, .mv (.c (.int .i64 0))⟩])
  (.sq (.rg [⟨(some 6), none, .mv (.t 0)⟩,
    ⟨(some 7), none, .nc (.t 6)⟩,
    ⟨(some 8), none, .fa (.t 7) 7⟩,
    ⟨(some 9), none, .ld (.t 8) 1 false⟩,
    ⟨(some 10), none, .mv (.t 1)⟩,
    ⟨(some 11), none, .bs 3 1 [(.int .i64 0)] [(0, 1, (.t 10))]⟩,
    ⟨(some 12), none, .ca 258 [(.t 9), (.t 11)]⟩,
    ⟨(some 13), none, .ex (.t 12) 0⟩,
    ⟨(some 14), none, .ex (.t 12) 1⟩,
    ⟨(some 4), none, .mv (.t 13)⟩,
    ⟨(some 5), none, .mv (.t 14)⟩])
  .rt))⟩
theorem k238 : cF Tryz.prog Tryz.f238 = some c238 := by kernel_rfl
/-- (*rundale/stack.Push).Step -/
def c239 : Fu := ⟨7, [.t 2],
  (.sq (.rg [⟨(some 2), none, .mv (.c (.bool false))⟩])
  (.sq (.rg [⟨(some 3), none, .mv (.t 0)⟩,
    ⟨(some 4), none, .nc (.t 3)⟩,
    ⟨(some 5), none, .fa (.t 4) 0⟩,
    ⟨(some 6), none, .ca 91 [(.t 5)]⟩,
    ⟨(some 2), none, .mv (.t 6)⟩])
  .rt))⟩
theorem k239 : cF Tryz.prog Tryz.f239 = some c239 := by kernel_rfl
/-- (*rundale/stack.Push).Done -/
def c240 : Fu := ⟨7, [.t 2],
  (.sq (.rg [⟨(some 2), none, .mv (.c (.bool false))⟩])
  (.sq (.rg [⟨(some 3), none, .mv (.t 0)⟩,
    ⟨(some 4), none, .nc (.t 3)⟩,
    ⟨(some 5), none, .fa (.t 4) 0⟩,
    ⟨(some 6), none, .ca 92 [(.t 5)]⟩,
    ⟨(some 2), none, .mv (.t 6)⟩])
  .rt))⟩
theorem k240 : cF Tryz.prog Tryz.f240 = some c240 := by kernel_rfl
/-- (*rundale/ending.Free).left -/
def c241 : Fu := ⟨36, [],
  (.sq (.rg [⟨(some 2), none, .mv (.t 0)⟩,
    ⟨(some 3), none, .mv (.t 0)⟩,
    ⟨(some 4), none, .mv (.t 0)⟩,
    ⟨(some 5), none, .nc (.t 4)⟩,
    ⟨(some 6), none, .fa (.t 5) 0⟩,
    ⟨(some 7), none, .ca 175 [(.t 6)]⟩,
    ⟨(some 8), none, .nc (.t 2)⟩,
    ⟨(some 9), none, .fa (.t 8) 15⟩,
    ⟨none, none, .st (.t 9) (.t 7) 1⟩,
    ⟨(some 10), none, .nc (.t 3)⟩,
    ⟨(some 11), none, .fa (.t 10) 13⟩,
    ⟨none, none, .st (.t 11) (.c (.int .i64 (-1))) 1⟩])
  (.sq (.rg [⟨(some 12), none, .mv (.t 0)⟩,
    ⟨(some 13), none, .mv (.t 0)⟩,
    ⟨(some 14), none, .nc (.t 13)⟩,
    ⟨(some 15), none, .fa (.t 14) 6⟩,
    ⟨(some 16), none, .ld (.t 15) 1 false⟩,
    ⟨(some 17), none, .ca 207 [(.t 16)]⟩,
    ⟨(some 18), none, .nc (.t 12)⟩,
    ⟨(some 19), none, .fa (.t 18) 10⟩,
    ⟨none, none, .st (.t 19) (.t 17) 1⟩])
  (.rd [⟨0, 0, [0], ⟨(some 20), none, .mv (.t 0)⟩⟩,
    ⟨1, 1, [20], ⟨(some 21), none, .nc (.t 20)⟩⟩,
    ⟨2, 3, [21], ⟨(some 22), none, .fa (.t 21) 0⟩⟩,
    ⟨3, 0, [0], ⟨(some 23), none, .mv (.t 0)⟩⟩,
    ⟨4, 8, [23], ⟨(some 24), none, .nc (.t 23)⟩⟩,
    ⟨5, 24, [24], ⟨(some 25), none, .fa (.t 24) 10⟩⟩,
    ⟨6, 56, [25], ⟨(some 26), none, .ld (.t 25) 1 false⟩⟩,
    ⟨7, 120, [26], ⟨(some 27), none, .mf (.func 208) [(.t 26)] []⟩⟩,
    ⟨8, 0, [0], ⟨(some 28), none, .mv (.t 0)⟩⟩,
    ⟨9, 256, [28], ⟨(some 29), none, .nc (.t 28)⟩⟩,
    ⟨10, 768, [29], ⟨(some 30), none, .fa (.t 29) 10⟩⟩,
    ⟨11, 1792, [30], ⟨(some 31), none, .ld (.t 30) 1 false⟩⟩,
    ⟨12, 3840, [31], ⟨(some 32), none, .mf (.func 188) [(.t 31)] []⟩⟩,
    ⟨13, 0, [0], ⟨(some 33), none, .mv (.t 0)⟩⟩,
    ⟨14, 8192, [33], ⟨(some 34), none, .mf (.func 259) [(.t 33)] []⟩⟩,
    ⟨15, 32767, [22, 27, 32, 34], ⟨(some 35), none, .ca 119 [(.t 22), (.t 27), (.t 32), (.t 34)]⟩⟩])))⟩
theorem k241 : cF Tryz.prog Tryz.f241 = some c241 := by kernel_rfl
/-- rundale/rundaleref1.Next -/
def c242 : Fu := ⟨20, [.c 4 2 true],
  (.sq (.rg [⟨(some 2), none, .bx 264 (.t 0)⟩,
    ⟨(some 4), none, .al 264 [(.int .i64 0), (.int .i64 0)]⟩])
  (.sq (.sq (.rg [⟨(some 5), none, .fa (.t 2) 1⟩,
    ⟨(some 6), none, .ld (.t 5) 1 false⟩,
    ⟨(some 7), none, .ib .lss (.t 6) (.c (.int .i64 0))⟩,
    ⟨(some 8), none, .mv (.t 7)⟩,
    ⟨(some 9), (some (8, false)), .fa (.t 2) 1⟩,
    ⟨(some 10), (some (8, false)), .ld (.t 9) 1 false⟩,
    ⟨(some 11), (some (8, false)), .ib .geq (.t 10) (.c (.int .i64 4294967295))⟩,
    ⟨(some 12), none, .pk (.t 8) (.c (.bool true)) (.t 11)⟩])
  (.cd (.t 12)
  (.sq (.rg [⟨(some 13), none, .mv (.t 1)⟩,
    ⟨(some 14), none, .bd [(.int .i64 0), (.int .i64 0)] [(0, 1, (.t 13)), (1, 1, (.c (.int .i64 0)))]⟩,
    ⟨none, none, .st (.t 4) (.t 14) 2⟩])
  .rt)
  .sk))
  (.sq (.rg [⟨(some 15), none, .mv (.t 1)⟩,
    ⟨(some 16), none, .fa (.t 2) 1⟩,
    ⟨(some 17), none, .ld (.t 16) 1 false⟩,
    ⟨(some 18), none, .ib .add (.t 17) (.c (.int .i64 1))⟩,
    ⟨(some 19), none, .bd [(.int .i64 0), (.int .i64 0)] [(0, 1, (.t 15)), (1, 1, (.t 18))]⟩,
    ⟨none, none, .st (.t 4) (.t 19) 2⟩])
  .rt)))⟩
theorem k242 : cF Tryz.prog Tryz.f242 = some c242 := by kernel_rfl
/-- rundale/word.within -/
def c243 : Fu := ⟨15, [.t 6],
  (.sq (.rg [⟨(some 6), none, .mv (.c (.bool false))⟩])
  (.sq (.rg [⟨(some 7), none, .mv (.t 0)⟩,
    ⟨(some 8), none, .mv (.t 1)⟩,
    ⟨(some 9), none, .ib .geq (.t 7) (.t 8)⟩,
    ⟨(some 10), none, .mv (.t 9)⟩,
    ⟨(some 11), (some (10, true)), .mv (.t 0)⟩,
    ⟨(some 12), (some (10, true)), .mv (.t 2)⟩,
    ⟨(some 13), (some (10, true)), .ib .leq (.t 11) (.t 12)⟩,
    ⟨(some 14), none, .pk (.t 10) (.t 13) (.c (.bool false))⟩,
    ⟨(some 6), none, .mv (.t 14)⟩])
  .rt))⟩
theorem k243 : cF Tryz.prog Tryz.f243 = some c243 := by kernel_rfl
/-- rundale/bits.Put -/
def c244 : Fu := ⟨30, [.t 8, .t 9],
  (.sq (.rg [⟨(some 8), none, .mv (.c (.int .u64 0))⟩,
    ⟨(some 9), none, .mv (.c (.bool false))⟩])
  (.sq (.sq (.rg [⟨(some 10), none, .mv (.t 1)⟩,
    ⟨(some 11), none, .mv (.t 2)⟩,
    ⟨(some 12), none, .ca 225 [(.t 10), (.t 11)]⟩,
    ⟨(some 13), none, .nt (.t 12)⟩,
    ⟨(some 14), none, .mv (.t 13)⟩,
    ⟨(some 15), (some (14, false)), .mv (.t 3)⟩,
    ⟨(some 16), (some (14, false)), .mv (.t 2)⟩,
    ⟨(some 17), (some (14, false)), .ca 260 [(.t 15), (.t 16)]⟩,
    ⟨(some 18), (some (14, false)), .nt (.t 17)⟩,
    ⟨(some 19), none, .pk (.t 14) (.c (.bool true)) (.t 18)⟩])
  (.cd (.t 19)
  (.sq (.rg [⟨(some 8), none, .mv (.c (.int .u64 0))⟩,
    ⟨(some 9), none, .mv (.c (.bool false))⟩])
  .rt)
  .sk))
  (.sq (.rd [⟨0, 0, [0], ⟨(some 20), none, .mv (.t 0)⟩⟩,
    ⟨1, 0, [2], ⟨(some 21), none, .mv (.t 2)⟩⟩,
    ⟨2, 2, [21], ⟨(some 22), none, .ca 226 [(.t 21)]⟩⟩,
    ⟨3, 0, [1], ⟨(some 23), none, .mv (.t 1)⟩⟩,
    ⟨4, 14, [22, 23], ⟨(some 24), none, .ib .shl (.t 22) (.t 23)⟩⟩,
    ⟨5, 31, [20, 24], ⟨(some 25), none, .ib .andNot (.t 20) (.t 24)⟩⟩,
    ⟨6, 0, [3], ⟨(some 26), none, .mv (.t 3)⟩⟩,
    ⟨7, 0, [1], ⟨(some 27), none, .mv (.t 1)⟩⟩,
    ⟨8, 192, [26, 27], ⟨(some 28), none, .ib .shl (.t 26) (.t 27)⟩⟩,
    ⟨9, 511, [25, 28], ⟨(some 29), none, .ib .or (.t 25) (.t 28)⟩⟩,
    ⟨10, 1023, [29], ⟨(some 8), none, .mv (.t 29)⟩⟩,
    ⟨11, 2047, [], ⟨(some 9), none, .mv (.c (.bool true))⟩⟩])
  .rt)))⟩
theorem k244 : cF Tryz.prog Tryz.f244 = some c244 := by kernel_rfl
end Go.Proofs.YtflalhdofhobmaaGreat

/-
  The functions' small code, as a program printed it off the translation; each held against the model's own code by the kernel.
-/
namespace Go.Proofs.YtflalhdofhobmaaGreat
open Go
set_option maxRecDepth 100000
/-- (*rundale/supply.Supply).give -/
def c245 : Fu := ⟨33, [.t 4],
  (.sq (.rg [⟨(some 4), none, .mv (.c (.pointer none))⟩])
  (.sq (.rg [⟨(some 8), none, .mv (.t 1)⟩,
    ⟨(some 9), none, .bd [.nilFunc, .nilFunc, .nilFunc, .nilFunc, (.int .i64 0), (.slice none 0 0)] [(5, 1, (.t 8))]⟩,
    ⟨(some 10), none, .bx 248 (.t 9)⟩,
    ⟨(some 5), none, .mv (.t 10)⟩])
  (.sq (.sq (.rg [⟨(some 12), none, .mv (.t 0)⟩,
    ⟨(some 13), none, .nc (.t 12)⟩,
    ⟨(some 14), none, .fa (.t 13) 7⟩,
    ⟨(some 15), none, .ld (.t 14) 1 false⟩,
    ⟨(some 16), none, .mv (.t 1)⟩,
    ⟨(some 17), none, .ca 258 [(.t 15), (.t 16)]⟩,
    ⟨(some 11), none, .mv (.t 17)⟩,
    ⟨(some 18), none, .ex (.t 11) 0⟩,
    ⟨(some 19), none, .ex (.t 11) 1⟩,
    ⟨(some 6), none, .mv (.t 18)⟩,
    ⟨(some 7), none, .mv (.t 19)⟩])
  (.sq (.rg [⟨(some 20), none, .mv (.t 7)⟩,
    ⟨(some 21), none, .ib .eql (.t 20) (.c (.int .i64 0))⟩])
  (.cd (.t 21)
  (.rg [⟨(some 22), none, .mv (.t 5)⟩,
    ⟨(some 23), none, .nc (.t 22)⟩,
    ⟨(some 24), none, .fa (.t 23) 0⟩,
    ⟨(some 25), none, .mv (.t 6)⟩,
    ⟨(some 26), none, .mf (.func 239) [(.t 25)] []⟩,
    ⟨(some 27), none, .mv (.t 6)⟩,
    ⟨(some 28), none, .mf (.func 240) [(.t 27)] []⟩,
    ⟨(some 29), none, .mv (.t 5)⟩,
    ⟨(some 30), none, .mf (.func 261) [(.t 29)] []⟩,
    ⟨(some 31), none, .ca 119 [(.t 24), (.t 26), (.t 28), (.t 30)]⟩])
  .sk)))
  (.sq (.rg [⟨(some 32), none, .mv (.t 5)⟩,
    ⟨(some 4), none, .mv (.t 32)⟩])
  .rt))))⟩
theorem k245 : cF Tryz.prog Tryz.f245 = some c245 := by kernel_rfl
/-- (*rundale/stash.Stash).Over -/
def c246 : Fu := ⟨16, [.t 2],
  (.sq (.rg [⟨(some 2), none, .mv (.c (.slice none 0 0))⟩])
  (.sq (.rd [⟨0, 0, [0], ⟨(some 3), none, .mv (.t 0)⟩⟩,
    ⟨1, 0, [0], ⟨(some 4), none, .mv (.t 0)⟩⟩,
    ⟨2, 2, [4], ⟨(some 5), none, .nc (.t 4)⟩⟩,
    ⟨3, 6, [5], ⟨(some 6), none, .fa (.t 5) 1⟩⟩,
    ⟨4, 14, [6], ⟨(some 7), none, .ld (.t 6) 1 false⟩⟩,
    ⟨5, 30, [7], ⟨(some 8), none, .len (.t 7)⟩⟩,
    ⟨6, 0, [0], ⟨(some 9), none, .mv (.t 0)⟩⟩,
    ⟨7, 64, [9], ⟨(some 10), none, .nc (.t 9)⟩⟩,
    ⟨8, 192, [10], ⟨(some 11), none, .fa (.t 10) 0⟩⟩,
    ⟨9, 448, [11], ⟨(some 12), none, .ld (.t 11) 1 false⟩⟩,
    ⟨10, 1022, [8, 12], ⟨(some 13), none, .ib .sub (.t 8) (.t 12)⟩⟩,
    ⟨11, 2046, [13], ⟨(some 14), none, .mm true (.t 13) (.c (.int .i64 0))⟩⟩,
    ⟨12, 4095, [3, 14], ⟨(some 15), none, .ca 262 [(.t 3), (.t 14)]⟩⟩,
    ⟨13, 8191, [15], ⟨(some 2), none, .mv (.t 15)⟩⟩])
  .rt))⟩
theorem k246 : cF Tryz.prog Tryz.f246 = some c246 := by kernel_rfl
/-- (*rundale/stack.Pop).link -/
def c250 : Fu := ⟨86, [],
  (.sq (.rd [⟨0, 0, [0], ⟨(some 5), none, .mv (.t 0)⟩⟩,
    ⟨1, 1, [5], ⟨(some 6), none, .nc (.t 5)⟩⟩,
    ⟨2, 3, [6], ⟨(some 7), none, .fa (.t 6) 5⟩⟩,
    ⟨3, 7, [7], ⟨(some 8), none, .ld (.t 7) 1 false⟩⟩,
    ⟨4, 15, [8], ⟨(some 9), none, .nc (.t 8)⟩⟩,
    ⟨5, 31, [9], ⟨(some 10), none, .fa (.t 9) 0⟩⟩,
    ⟨6, 63, [10], ⟨(some 11), none, .ld (.t 10) 1 false⟩⟩,
    ⟨7, 0, [0], ⟨(some 12), none, .mv (.t 0)⟩⟩,
    ⟨8, 128, [12], ⟨(some 13), none, .nc (.t 12)⟩⟩,
    ⟨9, 384, [13], ⟨(some 14), none, .fa (.t 13) 5⟩⟩,
    ⟨10, 896, [14], ⟨(some 15), none, .ld (.t 14) 1 false⟩⟩,
    ⟨11, 1920, [15], ⟨(some 16), none, .nc (.t 15)⟩⟩,
    ⟨12, 3968, [16], ⟨(some 17), none, .fa (.t 16) 2⟩⟩,
    ⟨13, 8064, [17], ⟨(some 18), none, .ld (.t 17) 1 false⟩⟩,
    ⟨14, 0, [0], ⟨(some 19), none, .mv (.t 0)⟩⟩,
    ⟨15, 16384, [19], ⟨(some 20), none, .nc (.t 19)⟩⟩,
    ⟨16, 49152, [20], ⟨(some 21), none, .fa (.t 20) 9⟩⟩,
    ⟨17, 114688, [21], ⟨(some 22), none, .ld (.t 21) 1 false⟩⟩,
    ⟨18, 0, [0], ⟨(some 23), none, .mv (.t 0)⟩⟩,
    ⟨19, 262144, [23], ⟨(some 24), none, .nc (.t 23)⟩⟩,
    ⟨20, 786432, [24], ⟨(some 25), none, .fa (.t 24) 9⟩⟩,
    ⟨21, 1835008, [25], ⟨(some 26), none, .ld (.t 25) 1 false⟩⟩,
    ⟨22, 3932160, [26], ⟨(some 27), none, .len (.t 26)⟩⟩,
    ⟨23, 8126464, [27], ⟨(some 28), none, .ib .sub (.t 27) (.c (.int .i64 1))⟩⟩,
    ⟨24, 16760832, [22, 28], ⟨(some 29), none, .ia (.t 22) (.t 28) 1⟩⟩,
    ⟨25, 33538048, [29], ⟨(some 30), none, .ld (.t 29) 1 false⟩⟩,
    ⟨26, 67108736, [18, 30], ⟨(some 31), none, .ib .add (.t 18) (.t 30)⟩⟩,
    ⟨27, 134217727, [11, 31], ⟨(some 32), none, .ca 151 [(.t 11), (.t 31)]⟩⟩,
    ⟨28, 268435455, [32], ⟨(some 4), none, .mv (.t 32)⟩⟩,
    ⟨29, 536870911, [4], ⟨(some 33), none, .ex (.t 4) 0⟩⟩,
    ⟨30, 536870911, [4], ⟨(some 34), none, .ex (.t 4) 1⟩⟩,
    ⟨31, 1073741823, [33], ⟨(some 2), none, .mv (.t 33)⟩⟩,
    ⟨32, 4294967295, [34], ⟨(some 3), none, .mv (.t 34)⟩⟩])
  (.sq (.rg [⟨(some 35), none, .mv (.t 0)⟩,
    ⟨(some 36), none, .mv (.t 0)⟩,
    ⟨(some 37), none, .nc (.t 36)⟩,
    ⟨(some 38), none, .fa (.t 37) 5⟩,
    ⟨(some 39), none, .ld (.t 38) 1 false⟩,
    ⟨(some 40), none, .mv (.t 2)⟩,
    ⟨(some 41), none, .ca 96 [(.t 39), (.t 40)]⟩,
    ⟨(some 42), none, .nc (.t 35)⟩,
    ⟨(some 43), none, .fa (.t 42) 7⟩,
    ⟨none, none, .st (.t 43) (.t 41) 1⟩])
  (.sq (.rd [⟨0, 0, [0], ⟨(some 44), none, .mv (.t 0)⟩⟩,
    ⟨1, 1, [44], ⟨(some 45), none, .nc (.t 44)⟩⟩,
    ⟨2, 3, [45], ⟨(some 46), none, .fa (.t 45) 7⟩⟩,
    ⟨3, 7, [46], ⟨(some 47), none, .ld (.t 46) 1 false⟩⟩,
    ⟨4, 15, [47], ⟨(some 48), none, .ib .geq (.t 47) (.c (.int .i64 0))⟩⟩,
    ⟨5, 31, [48], ⟨(some 49), none, .mv (.t 48)⟩⟩,
    ⟨6, 63, [0, 49], ⟨(some 50), (some (49, true)), .mv (.t 0)⟩⟩,
    ⟨7, 127, [50, 49], ⟨(some 51), (some (49, true)), .nc (.t 50)⟩⟩,
    ⟨8, 255, [51, 49], ⟨(some 52), (some (49, true)), .fa (.t 51) 9⟩⟩,
    ⟨9, 511, [52, 49], ⟨(some 53), (some (49, true)), .ld (.t 52) 1 false⟩⟩,
    ⟨10, 1023, [53, 49], ⟨(some 54), (some (49, true)), .len (.t 53)⟩⟩,
    ⟨11, 63, [0, 49], ⟨(some 55), (some (49, true)), .mv (.t 0)⟩⟩,
    ⟨12, 2111, [55, 49], ⟨(some 56), (some (49, true)), .nc (.t 55)⟩⟩,
    ⟨13, 6207, [56, 49], ⟨(some 57), (some (49, true)), .fa (.t 56) 6⟩⟩,
    ⟨14, 14399, [57, 49], ⟨(some 58), (some (49, true)), .ld (.t 57) 1 false⟩⟩,
    ⟨15, 32767, [54, 58, 49], ⟨(some 59), (some (49, true)), .ib .lss (.t 54) (.t 58)⟩⟩,
    ⟨16, 65535, [49, 59], ⟨(some 60), none, .pk (.t 49) (.t 59) (.c (.bool false))⟩⟩])
  (.cd (.t 60)
  (.sq (.rd [⟨0, 0, [0], ⟨(some 61), none, .mv (.t 0)⟩⟩,
    ⟨1, 0, [0], ⟨(some 62), none, .mv (.t 0)⟩⟩,
    ⟨2, 2, [62], ⟨(some 63), none, .nc (.t 62)⟩⟩,
    ⟨3, 6, [63], ⟨(some 64), none, .fa (.t 63) 9⟩⟩,
    ⟨4, 14, [64], ⟨(some 65), none, .ld (.t 64) 1 false⟩⟩,
    ⟨5, 0, [0], ⟨(some 66), none, .mv (.t 0)⟩⟩,
    ⟨6, 32, [66], ⟨(some 67), none, .nc (.t 66)⟩⟩,
    ⟨7, 96, [67], ⟨(some 68), none, .fa (.t 67) 7⟩⟩,
    ⟨8, 224, [68], ⟨(some 69), none, .ld (.t 68) 1 false⟩⟩,
    ⟨9, 480, [69], ⟨(some 70), none, .bs 3 1 [(.int .i64 0)] [(0, 1, (.t 69))]⟩⟩,
    ⟨10, 1022, [65, 70], ⟨(some 71), none, .ap 53 3 1 8 [(.int .i64 0)] (.t 65) (.t 70)⟩⟩,
    ⟨11, 2047, [61], ⟨(some 72), none, .nc (.t 61)⟩⟩,
    ⟨12, 4095, [72], ⟨(some 73), none, .fa (.t 72) 9⟩⟩,
    ⟨13, 8191, [73, 71], ⟨none, none, .st (.t 73) (.t 71) 1⟩⟩])
  (.rg [⟨(some 74), none, .mv (.t 0)⟩,
    ⟨(some 75), none, .nc (.t 74)⟩,
    ⟨(some 76), none, .fa (.t 75) 0⟩,
    ⟨(some 77), none, .mv (.t 0)⟩,
    ⟨(some 78), none, .mf (.func 250) [(.t 77)] []⟩,
    ⟨(some 79), none, .ca 79 [(.t 76), (.t 78)]⟩]))
  (.rg [⟨(some 80), none, .mv (.t 0)⟩,
    ⟨(some 81), none, .nc (.t 80)⟩,
    ⟨(some 82), none, .fa (.t 81) 0⟩,
    ⟨(some 83), none, .mv (.t 0)⟩,
    ⟨(some 84), none, .mf (.func 263) [(.t 83)] []⟩,
    ⟨(some 85), none, .ca 79 [(.t 82), (.t 84)]⟩])))))⟩
theorem k250 : cF Tryz.prog Tryz.f250 = some c250 := by kernel_rfl
/-- (*rundale/roots.Create).next -/
def c251 : Fu := ⟨18, [.c 4 4 true],
  (.sq (.rg [⟨(some 3), none, .bx 68 (.t 1)⟩,
    ⟨(some 4), none, .al 68 [(.int .i64 0), (.int .i64 0), (.int .i64 0), (.int .i64 0)]⟩])
  (.sq (.rg [⟨(some 5), none, .mv (.c (.int .i64 0))⟩])
  (.sq (.sq (.rg [⟨(some 6), none, .fa (.t 3) 0⟩,
    ⟨(some 7), none, .ld (.t 6) 1 false⟩,
    ⟨(some 8), none, .ib .lss (.t 7) (.c (.int .i64 4294967295))⟩])
  (.cd (.t 8)
  (.rg [⟨(some 9), none, .fa (.t 3) 0⟩,
    ⟨(some 10), none, .ld (.t 9) 1 false⟩,
    ⟨(some 11), none, .ib .add (.t 10) (.c (.int .i64 1))⟩,
    ⟨(some 5), none, .mv (.t 11)⟩])
  .sk))
  (.sq (.rg [⟨(some 12), none, .mv (.t 5)⟩,
    ⟨(some 13), none, .mv (.t 0)⟩,
    ⟨(some 14), none, .nc (.t 13)⟩,
    ⟨(some 15), none, .fa (.t 14) 6⟩,
    ⟨(some 16), none, .ld (.t 15) 1 false⟩,
    ⟨(some 17), none, .bd [(.int .i64 0), (.int .i64 0), (.int .i64 0), (.int .i64 0)] [(0, 1, (.t 12)), (1, 1, (.c (.int .i64 1))), (2, 1, (.t 16))]⟩,
    ⟨none, none, .st (.t 4) (.t 17) 4⟩])
  .rt))))⟩
theorem k251 : cF Tryz.prog Tryz.f251 = some c251 := by kernel_rfl
/-- (*rundale/roots.Create).store -/
def c252 : Fu := ⟨33, [],
  (.sq (.rg [⟨(some 5), none, .mv (.t 0)⟩,
    ⟨(some 6), none, .nc (.t 5)⟩,
    ⟨(some 7), none, .fa (.t 6) 10⟩,
    ⟨(some 8), none, .ld (.t 7) 4 true⟩,
    ⟨(some 9), none, .ca 227 [(.t 8)]⟩,
    ⟨(some 4), none, .mv (.t 9)⟩,
    ⟨(some 10), none, .ex (.t 4) 0⟩,
    ⟨(some 11), none, .ex (.t 4) 1⟩,
    ⟨(some 2), none, .mv (.t 10)⟩,
    ⟨(some 3), none, .mv (.t 11)⟩])
  (.rd [⟨0, 0, [0], ⟨(some 12), none, .mv (.t 0)⟩⟩,
    ⟨1, 1, [12], ⟨(some 13), none, .nc (.t 12)⟩⟩,
    ⟨2, 3, [13], ⟨(some 14), none, .fa (.t 13) 5⟩⟩,
    ⟨3, 7, [14], ⟨(some 15), none, .ld (.t 14) 1 false⟩⟩,
    ⟨4, 15, [15], ⟨(some 16), none, .nc (.t 15)⟩⟩,
    ⟨5, 31, [16], ⟨(some 17), none, .fa (.t 16) 0⟩⟩,
    ⟨6, 63, [17], ⟨(some 18), none, .ld (.t 17) 1 false⟩⟩,
    ⟨7, 0, [0], ⟨(some 19), none, .mv (.t 0)⟩⟩,
    ⟨8, 128, [19], ⟨(some 20), none, .nc (.t 19)⟩⟩,
    ⟨9, 384, [20], ⟨(some 21), none, .fa (.t 20) 5⟩⟩,
    ⟨10, 896, [21], ⟨(some 22), none, .ld (.t 21) 1 false⟩⟩,
    ⟨11, 1920, [22], ⟨(some 23), none, .nc (.t 22)⟩⟩,
    ⟨12, 3968, [23], ⟨(some 24), none, .fa (.t 23) 1⟩⟩,
    ⟨13, 8064, [24], ⟨(some 25), none, .ld (.t 24) 6 true⟩⟩,
    ⟨14, 0, [0], ⟨(some 26), none, .mv (.t 0)⟩⟩,
    ⟨15, 16384, [26], ⟨(some 27), none, .nc (.t 26)⟩⟩,
    ⟨16, 49152, [27], ⟨(some 28), none, .fa (.t 27) 8⟩⟩,
    ⟨17, 114688, [28], ⟨(some 29), none, .ld (.t 28) 1 false⟩⟩,
    ⟨18, 262016, [25, 29], ⟨(some 30), none, .ca 94 [(.t 25), (.t 29)]⟩⟩,
    ⟨19, 0, [2], ⟨(some 31), none, .mv (.t 2)⟩⟩,
    ⟨20, 1048575, [18, 30, 31], ⟨(some 32), none, .ca 214 [(.t 18), (.t 30), (.t 31)]⟩⟩]))⟩
theorem k252 : cF Tryz.prog Tryz.f252 = some c252 := by kernel_rfl
/-- (*rundale/chain.Walk).load -/
def c255 : Fu := ⟨76, [],
  (.sq (.rd [⟨0, 0, [0], ⟨(some 6), none, .mv (.t 0)⟩⟩,
    ⟨1, 1, [6], ⟨(some 7), none, .nc (.t 6)⟩⟩,
    ⟨2, 3, [7], ⟨(some 8), none, .fa (.t 7) 5⟩⟩,
    ⟨3, 7, [8], ⟨(some 9), none, .ld (.t 8) 1 false⟩⟩,
    ⟨4, 15, [9], ⟨(some 10), none, .nc (.t 9)⟩⟩,
    ⟨5, 31, [10], ⟨(some 11), none, .fa (.t 10) 0⟩⟩,
    ⟨6, 63, [11], ⟨(some 12), none, .ld (.t 11) 1 false⟩⟩,
    ⟨7, 0, [0], ⟨(some 13), none, .mv (.t 0)⟩⟩,
    ⟨8, 128, [13], ⟨(some 14), none, .nc (.t 13)⟩⟩,
    ⟨9, 384, [14], ⟨(some 15), none, .fa (.t 14) 5⟩⟩,
    ⟨10, 896, [15], ⟨(some 16), none, .ld (.t 15) 1 false⟩⟩,
    ⟨11, 1920, [16], ⟨(some 17), none, .nc (.t 16)⟩⟩,
    ⟨12, 3968, [17], ⟨(some 18), none, .fa (.t 17) 1⟩⟩,
    ⟨13, 8064, [18], ⟨(some 19), none, .ld (.t 18) 6 true⟩⟩,
    ⟨14, 0, [0], ⟨(some 20), none, .mv (.t 0)⟩⟩,
    ⟨15, 16384, [20], ⟨(some 21), none, .nc (.t 20)⟩⟩,
    ⟨16, 49152, [21], ⟨(some 22), none, .fa (.t 21) 6⟩⟩,
    ⟨17, 114688, [22], ⟨(some 23), none, .ld (.t 22) 1 false⟩⟩,
    ⟨18, 0, [0], ⟨(some 24), none, .mv (.t 0)⟩⟩,
    ⟨19, 262144, [24], ⟨(some 25), none, .nc (.t 24)⟩⟩,
    ⟨20, 786432, [25], ⟨(some 26), none, .fa (.t 25) 6⟩⟩,
    ⟨21, 1835008, [26], ⟨(some 27), none, .ld (.t 26) 1 false⟩⟩,
    ⟨22, 3932160, [27], ⟨(some 28), none, .len (.t 27)⟩⟩,
    ⟨23, 8126464, [28], ⟨(some 29), none, .ib .sub (.t 28) (.c (.int .i64 1))⟩⟩,
    ⟨24, 16760832, [23, 29], ⟨(some 30), none, .ia (.t 23) (.t 29) 1⟩⟩,
    ⟨25, 33538048, [30], ⟨(some 31), none, .ld (.t 30) 1 false⟩⟩,
    ⟨26, 67108736, [19, 31], ⟨(some 32), none, .ca 139 [(.t 19), (.t 31)]⟩⟩,
    ⟨27, 134217727, [12, 32], ⟨(some 33), none, .ca 151 [(.t 12), (.t 32)]⟩⟩,
    ⟨28, 268435455, [33], ⟨(some 5), none, .mv (.t 33)⟩⟩,
    ⟨29, 536870911, [5], ⟨(some 34), none, .ex (.t 5) 0⟩⟩,
    ⟨30, 536870911, [5], ⟨(some 35), none, .ex (.t 5) 1⟩⟩,
    ⟨31, 1073741823, [34], ⟨(some 2), none, .mv (.t 34)⟩⟩,
    ⟨32, 4294967295, [35], ⟨(some 3), none, .mv (.t 35)⟩⟩])
  (.sq (.rg [⟨(some 36), none, .mv (.t 0)⟩,
    ⟨(some 37), none, .nc (.t 36)⟩,
    ⟨(some 38), none, .fa (.t 37) 5⟩,
    ⟨(some 39), none, .ld (.t 38) 1 false⟩,
    ⟨(some 40), none, .mv (.t 2)⟩,
    ⟨(some 41), none, .ca 199 [(.t 39), (.t 40)]⟩,
    ⟨(some 4), none, .mv (.t 41)⟩])
  (.sq (.rd [⟨0, 0, [4], ⟨(some 42), none, .mv (.t 4)⟩⟩,
    ⟨1, 1, [42], ⟨(some 43), none, .ib .geq (.t 42) (.c (.int .i64 0))⟩⟩,
    ⟨2, 3, [43], ⟨(some 44), none, .mv (.t 43)⟩⟩,
    ⟨3, 7, [0, 44], ⟨(some 45), (some (44, true)), .mv (.t 0)⟩⟩,
    ⟨4, 15, [45, 44], ⟨(some 46), (some (44, true)), .nc (.t 45)⟩⟩,
    ⟨5, 31, [46, 44], ⟨(some 47), (some (44, true)), .fa (.t 46) 6⟩⟩,
    ⟨6, 63, [47, 44], ⟨(some 48), (some (44, true)), .ld (.t 47) 1 false⟩⟩,
    ⟨7, 127, [48, 44], ⟨(some 49), (some (44, true)), .len (.t 48)⟩⟩,
    ⟨8, 7, [0, 44], ⟨(some 50), (some (44, true)), .mv (.t 0)⟩⟩,
    ⟨9, 263, [50, 44], ⟨(some 51), (some (44, true)), .nc (.t 50)⟩⟩,
    ⟨10, 775, [51, 44], ⟨(some 52), (some (44, true)), .fa (.t 51) 5⟩⟩,
    ⟨11, 1799, [52, 44], ⟨(some 53), (some (44, true)), .ld (.t 52) 1 false⟩⟩,
    ⟨12, 3847, [53, 44], ⟨(some 54), (some (44, true)), .nc (.t 53)⟩⟩,
    ⟨13, 7943, [54, 44], ⟨(some 55), (some (44, true)), .fa (.t 54) 1⟩⟩,
    ⟨14, 16135, [55, 44], ⟨(some 56), (some (44, true)), .fa (.t 55) 1⟩⟩,
    ⟨15, 32519, [56, 44], ⟨(some 57), (some (44, true)), .ld (.t 56) 1 false⟩⟩,
    ⟨16, 65535, [49, 57, 44], ⟨(some 58), (some (44, true)), .ib .lss (.t 49) (.t 57)⟩⟩,
    ⟨17, 131071, [44, 58], ⟨(some 59), none, .pk (.t 44) (.t 58) (.c (.bool false))⟩⟩])
  (.cd (.t 59)
  (.sq (.rg [⟨(some 60), none, .mv (.t 0)⟩,
    ⟨(some 61), none, .mv (.t 0)⟩,
    ⟨(some 62), none, .nc (.t 61)⟩,
    ⟨(some 63), none, .fa (.t 62) 6⟩,
    ⟨(some 64), none, .ld (.t 63) 1 false⟩,
    ⟨(some 65), none, .mv (.t 4)⟩,
    ⟨(some 66), none, .bs 3 1 [(.int .i64 0)] [(0, 1, (.t 65))]⟩,
    ⟨(some 67), none, .ap 53 3 1 8 [(.int .i64 0)] (.t 64) (.t 66)⟩,
    ⟨(some 68), none, .nc (.t 60)⟩,
    ⟨(some 69), none, .fa (.t 68) 6⟩,
    ⟨none, none, .st (.t 69) (.t 67) 1⟩])
  (.rg [⟨(some 70), none, .mv (.t 0)⟩,
    ⟨(some 71), none, .nc (.t 70)⟩,
    ⟨(some 72), none, .fa (.t 71) 0⟩,
    ⟨(some 73), none, .mv (.t 0)⟩,
    ⟨(some 74), none, .mf (.func 255) [(.t 73)] []⟩,
    ⟨(some 75), none, .ca 79 [(.t 72), (.t 74)]⟩]))
  .sk))))⟩
theorem k255 : cF Tryz.prog Tryz.f255 = some c255 := by kernel_rfl
/-- (*rundale/supply.Supply).Retire -/
def c256 : Fu := ⟨26, [.t 6],
  (.sq (.rg [⟨(some 6), none, .mv (.c (.int .i64 0))⟩])
  (.sq (.rg [⟨(some 10), none, .mv (.t 0)⟩,
    ⟨(some 11), none, .nc (.t 10)⟩,
    ⟨(some 12), none, .fa (.t 11) 9⟩,
    ⟨(some 13), none, .ld (.t 12) 1 false⟩,
    ⟨(some 14), none, .mv (.t 1)⟩,
    ⟨(some 15), none, .mv (.t 2)⟩,
    ⟨(some 16), none, .ca 264 [(.t 13), (.t 14), (.t 15)]⟩,
    ⟨(some 9), none, .mv (.t 16)⟩,
    ⟨(some 17), none, .ex (.t 9) 0⟩,
    ⟨(some 18), none, .ex (.t 9) 1⟩,
    ⟨(some 7), none, .mv (.t 17)⟩,
    ⟨(some 8), none, .mv (.t 18)⟩])
  (.sq (.rg [⟨(some 19), none, .mv (.t 0)⟩,
    ⟨(some 20), none, .nc (.t 19)⟩,
    ⟨(some 21), none, .fa (.t 20) 8⟩,
    ⟨(some 22), none, .ld (.t 21) 1 false⟩,
    ⟨(some 23), none, .mv (.t 7)⟩,
    ⟨(some 24), none, .ca 136 [(.t 22), (.t 23)]⟩])
  (.sq (.rg [⟨(some 25), none, .mv (.t 8)⟩,
    ⟨(some 6), none, .mv (.t 25)⟩])
  .rt))))⟩
theorem k256 : cF Tryz.prog Tryz.f256 = some c256 := by kernel_rfl
/-- (*rundale/chain.Walk).List -/
def c257 : Fu := ⟨11, [.t 2],
  (.sq (.rg [⟨(some 2), none, .mv (.c (.slice none 0 0))⟩])
  (.sq (.sq (.rg [⟨(some 3), none, .mv (.t 0)⟩,
    ⟨(some 4), none, .ca 236 [(.t 3)]⟩,
    ⟨(some 5), none, .nt (.t 4)⟩])
  (.cd (.t 5)
  (.sq (.rg [⟨(some 2), none, .mv (.c (.slice none 0 0))⟩])
  .rt)
  .sk))
  (.sq (.rg [⟨(some 6), none, .mv (.t 0)⟩,
    ⟨(some 7), none, .nc (.t 6)⟩,
    ⟨(some 8), none, .fa (.t 7) 6⟩,
    ⟨(some 9), none, .ld (.t 8) 1 false⟩,
    ⟨(some 10), none, .ca 189 [(.t 9)]⟩,
    ⟨(some 2), none, .mv (.t 10)⟩])
  .rt)))⟩
theorem k257 : cF Tryz.prog Tryz.f257 = some c257 := by kernel_rfl
/-- (*rundale/stack.Stack).Push -/
def c258 : Fu := ⟨58, [.t 4, .t 5],
  (.sq (.rg [⟨(some 4), none, .mv (.c (.pointer none))⟩,
    ⟨(some 5), none, .mv (.c (.int .i64 0))⟩])
  (.sq (.sq (.rg [⟨(some 9), none, .mv (.t 1)⟩,
    ⟨(some 10), none, .len (.t 9)⟩,
    ⟨(some 11), none, .mv (.c (.int .i64 0))⟩])
  (.bl 0
  (.lp
  (.sq (.rg [⟨(some 12), none, .ib .lss (.t 11) (.t 10)⟩])
  (.sq (.cd (.t 12)
  .sk
  (.ex 0))
  (.sq (.bl 1
  (.sq (.rg [⟨(some 13), none, .mv (.t 11)⟩,
    ⟨(some 14), none, .ia (.t 9) (.t 11) 1⟩,
    ⟨(some 15), none, .ld (.t 14) 1 false⟩,
    ⟨(some 6), none, .mv (.t 13)⟩,
    ⟨(some 7), none, .mv (.t 15)⟩])
  (.sq (.rg [⟨(some 16), none, .mv (.t 7)⟩,
    ⟨(some 17), none, .ib .lss (.t 16) (.c (.int .i64 0))⟩,
    ⟨(some 18), none, .mv (.t 17)⟩,
    ⟨(some 19), (some (18, false)), .mv (.t 7)⟩,
    ⟨(some 20), (some (18, false)), .mv (.t 0)⟩,
    ⟨(some 21), (some (18, false)), .nc (.t 20)⟩,
    ⟨(some 22), (some (18, false)), .fa (.t 21) 3⟩,
    ⟨(some 23), (some (18, false)), .ld (.t 22) 1 false⟩,
    ⟨(some 24), (some (18, false)), .ib .geq (.t 19) (.t 23)⟩,
    ⟨(some 25), none, .pk (.t 18) (.c (.bool true)) (.t 24)⟩,
    ⟨(some 26), none, .mv (.t 25)⟩,
    ⟨(some 27), (some (26, false)), .mv (.t 1)⟩,
    ⟨(some 28), (some (26, false)), .mv (.t 6)⟩,
    ⟨(some 29), (some (26, false)), .sl 1 (.t 27) none (some (.t 28)) none⟩,
    ⟨(some 30), (some (26, false)), .mv (.t 7)⟩,
    ⟨(some 31), (some (26, false)), .ca 265 [(.t 29), (.t 30)]⟩,
    ⟨(some 32), none, .pk (.t 26) (.c (.bool true)) (.t 31)⟩])
  (.cd (.t 32)
  (.sq (.rg [⟨(some 4), none, .mv (.c (.pointer none))⟩,
    ⟨(some 5), none, .mv (.c (.int .i64 1))⟩])
  .rt)
  .sk))))
  (.rg [⟨(some 33), none, .ib .add (.t 11) (.c (.int .i64 1))⟩,
    ⟨(some 11), none, .mv (.t 33)⟩])))))))
  (.sq (.rg [⟨(some 34), none, .mv (.t 0)⟩,
    ⟨(some 35), none, .mv (.t 1)⟩,
    ⟨(some 36), none, .ca 189 [(.t 35)]⟩,
    ⟨(some 37), none, .bd [.nilFunc, .nilFunc, .nilFunc, .nilFunc, (.int .i64 0), (.pointer none), (.slice none 0 0), (.int .i64 0), (.int .u64 0)] [(5, 1, (.t 34)), (6, 1, (.t 36))]⟩,
    ⟨(some 38), none, .bx 296 (.t 37)⟩,
    ⟨(some 8), none, .mv (.t 38)⟩])
  (.sq (.sq (.rg [⟨(some 39), none, .mv (.t 1)⟩,
    ⟨(some 40), none, .len (.t 39)⟩])
  (.bl 2
  (.sq (.rg [⟨(some 48), none, .ib .eql (.t 40) (.c (.int .i64 0))⟩,
    ⟨(some 47), none, .mv (.t 48)⟩])
  (.cd (.t 47)
  .sk
  (.sq (.rg [⟨(some 50), none, .ib .eql (.t 40) (.c (.int .i64 1))⟩,
    ⟨(some 49), none, .mv (.t 50)⟩])
  (.cd (.t 49)
  (.rg [⟨(some 51), none, .mv (.t 8)⟩,
    ⟨(some 52), none, .nc (.t 51)⟩,
    ⟨(some 53), none, .fa (.t 52) 0⟩,
    ⟨(some 54), none, .mv (.t 8)⟩,
    ⟨(some 55), none, .mf (.func 266) [(.t 54)] []⟩,
    ⟨(some 56), none, .ca 79 [(.t 53), (.t 55)]⟩])
  (.rg [⟨(some 41), none, .mv (.t 8)⟩,
    ⟨(some 42), none, .nc (.t 41)⟩,
    ⟨(some 43), none, .fa (.t 42) 0⟩,
    ⟨(some 44), none, .mv (.t 8)⟩,
    ⟨(some 45), none, .mf (.func 267) [(.t 44)] []⟩,
    ⟨(some 46), none, .ca 79 [(.t 43), (.t 45)]⟩])))))))
  (.sq (.rg [⟨(some 57), none, .mv (.t 8)⟩,
    ⟨(some 4), none, .mv (.t 57)⟩,
    ⟨(some 5), none, .mv (.c (.int .i64 0))⟩])
  .rt)))))⟩
theorem k258 : cF Tryz.prog Tryz.f258 = some c258 := by kernel_rfl
/-- (*rundale/ending.Free).over -/
def c259 : Fu := ⟨2, [],
  .sk⟩
theorem k259 : cF Tryz.prog Tryz.f259 = some c259 := by kernel_rfl
/-- rundale/bits.Fits -/
def c260 : Fu := ⟨10, [.t 4],
  (.sq (.rg [⟨(some 4), none, .mv (.c (.bool false))⟩])
  (.sq (.rg [⟨(some 5), none, .mv (.t 0)⟩,
    ⟨(some 6), none, .mv (.t 1)⟩,
    ⟨(some 7), none, .ca 226 [(.t 6)]⟩,
    ⟨(some 8), none, .ib .andNot (.t 5) (.t 7)⟩,
    ⟨(some 9), none, .ib .eql (.t 8) (.c (.int .u64 0))⟩,
    ⟨(some 4), none, .mv (.t 9)⟩])
  .rt))⟩
theorem k260 : cF Tryz.prog Tryz.f260 = some c260 := by kernel_rfl
/-- (*rundale/supply.Give).end -/
def c261 : Fu := ⟨2, [],
  .sk⟩
theorem k261 : cF Tryz.prog Tryz.f261 = some c261 := by kernel_rfl
/-- (*rundale/stash.Stash).cut -/
def c262 : Fu := ⟨24, [.t 4],
  (.sq (.rg [⟨(some 4), none, .mv (.c (.slice none 0 0))⟩])
  (.sq (.rg [⟨(some 6), none, .mv (.t 0)⟩,
    ⟨(some 7), none, .nc (.t 6)⟩,
    ⟨(some 8), none, .fa (.t 7) 1⟩,
    ⟨(some 9), none, .ld (.t 8) 1 false⟩,
    ⟨(some 10), none, .mv (.t 1)⟩,
    ⟨(some 11), none, .sl 1 (.t 9) none (some (.t 10)) none⟩,
    ⟨(some 12), none, .ca 189 [(.t 11)]⟩,
    ⟨(some 5), none, .mv (.t 12)⟩])
  (.sq (.rg [⟨(some 13), none, .mv (.t 0)⟩,
    ⟨(some 14), none, .mv (.t 0)⟩,
    ⟨(some 15), none, .nc (.t 14)⟩,
    ⟨(some 16), none, .fa (.t 15) 1⟩,
    ⟨(some 17), none, .ld (.t 16) 1 false⟩,
    ⟨(some 18), none, .mv (.t 1)⟩,
    ⟨(some 19), none, .sl 1 (.t 17) (some (.t 18)) none none⟩,
    ⟨(some 20), none, .ca 189 [(.t 19)]⟩,
    ⟨(some 21), none, .nc (.t 13)⟩,
    ⟨(some 22), none, .fa (.t 21) 1⟩,
    ⟨none, none, .st (.t 22) (.t 20) 1⟩])
  (.sq (.rg [⟨(some 23), none, .mv (.t 5)⟩,
    ⟨(some 4), none, .mv (.t 23)⟩])
  .rt))))⟩
theorem k262 : cF Tryz.prog Tryz.f262 = some c262 := by kernel_rfl
/-- (*rundale/stack.Pop).cas -/
def c263 : Fu := ⟨22, [],
  (.sq (.rd [⟨0, 0, [0], ⟨(some 2), none, .mv (.t 0)⟩⟩,
    ⟨1, 1, [2], ⟨(some 3), none, .nc (.t 2)⟩⟩,
    ⟨2, 3, [3], ⟨(some 4), none, .fa (.t 3) 5⟩⟩,
    ⟨3, 7, [4], ⟨(some 5), none, .ld (.t 4) 1 false⟩⟩,
    ⟨4, 0, [0], ⟨(some 6), none, .mv (.t 0)⟩⟩,
    ⟨5, 16, [6], ⟨(some 7), none, .nc (.t 6)⟩⟩,
    ⟨6, 48, [7], ⟨(some 8), none, .fa (.t 7) 8⟩⟩,
    ⟨7, 112, [8], ⟨(some 9), none, .ld (.t 8) 1 false⟩⟩,
    ⟨8, 0, [0], ⟨(some 10), none, .mv (.t 0)⟩⟩,
    ⟨9, 256, [10], ⟨(some 11), none, .nc (.t 10)⟩⟩,
    ⟨10, 768, [11], ⟨(some 12), none, .fa (.t 11) 7⟩⟩,
    ⟨11, 1792, [12], ⟨(some 13), none, .ld (.t 12) 1 false⟩⟩,
    ⟨12, 4095, [5, 9, 13], ⟨(some 14), none, .ca 268 [(.t 5), (.t 9), (.t 13)]⟩⟩,
    ⟨13, 8191, [14], ⟨(some 15), none, .nt (.t 14)⟩⟩])
  (.cd (.t 15)
  (.rg [⟨(some 16), none, .mv (.t 0)⟩,
    ⟨(some 17), none, .nc (.t 16)⟩,
    ⟨(some 18), none, .fa (.t 17) 0⟩,
    ⟨(some 19), none, .mv (.t 0)⟩,
    ⟨(some 20), none, .mf (.func 222) [(.t 19)] []⟩,
    ⟨(some 21), none, .ca 79 [(.t 18), (.t 20)]⟩])
  .sk))⟩
theorem k263 : cF Tryz.prog Tryz.f263 = some c263 := by kernel_rfl
/-- (*rundale/limbo.Limbo).Retire -/
def c264 : Fu := ⟨66, [.t 6, .t 7],
  (.sq (.rg [⟨(some 6), none, .mv (.c (.slice none 0 0))⟩,
    ⟨(some 7), none, .mv (.c (.int .i64 0))⟩])
  (.sq (.sq (.rg [⟨(some 10), none, .mv (.t 2)⟩,
    ⟨(some 11), none, .len (.t 10)⟩,
    ⟨(some 12), none, .ib .eql (.t 11) (.c (.int .i64 0))⟩,
    ⟨(some 13), none, .mv (.t 12)⟩,
    ⟨(some 14), (some (13, false)), .mv (.t 1)⟩,
    ⟨(some 15), (some (13, false)), .ib .lss (.t 14) (.c (.int .i64 0))⟩,
    ⟨(some 16), none, .pk (.t 13) (.c (.bool true)) (.t 15)⟩,
    ⟨(some 17), none, .mv (.t 16)⟩,
    ⟨(some 18), (some (17, false)), .mv (.t 1)⟩,
    ⟨(some 19), (some (17, false)), .ib .gtr (.t 18) (.c (.int .i64 4611686018427387903))⟩,
    ⟨(some 20), none, .pk (.t 17) (.c (.bool true)) (.t 19)⟩,
    ⟨(some 21), none, .mv (.t 20)⟩,
    ⟨(some 22), (some (21, false)), .mv (.t 1)⟩,
    ⟨(some 23), (some (21, false)), .mv (.t 0)⟩,
    ⟨(some 24), (some (21, false)), .nc (.t 23)⟩,
    ⟨(some 25), (some (21, false)), .fa (.t 24) 6⟩,
    ⟨(some 26), (some (21, false)), .ld (.t 25) 1 false⟩,
    ⟨(some 27), (some (21, false)), .ib .lss (.t 22) (.t 26)⟩,
    ⟨(some 28), none, .pk (.t 21) (.c (.bool true)) (.t 27)⟩])
  (.cd (.t 28)
  (.sq (.rg [⟨(some 6), none, .mv (.c (.slice none 0 0))⟩,
    ⟨(some 7), none, .mv (.c (.int .i64 1))⟩])
  .rt)
  .sk))
  (.sq (.rg [⟨(some 29), none, .mv (.t 0)⟩,
    ⟨(some 30), none, .mv (.t 1)⟩,
    ⟨(some 31), none, .nc (.t 29)⟩,
    ⟨(some 32), none, .fa (.t 31) 6⟩,
    ⟨none, none, .st (.t 32) (.t 30) 1⟩])
  (.sq (.rg [⟨(some 33), none, .mv (.t 0)⟩,
    ⟨(some 34), none, .mv (.t 1)⟩,
    ⟨(some 35), none, .ib .rem (.t 34) (.c (.int .i64 3))⟩,
    ⟨(some 36), none, .nc (.t 33)⟩,
    ⟨(some 37), none, .fa (.t 36) 0⟩,
    ⟨(some 38), none, .iaa (.t 37) (.t 35) 3 2⟩,
    ⟨(some 8), none, .mv (.t 38)⟩])
  (.sq (.rg [⟨(some 9), none, .mv (.c (.slice none 0 0))⟩])
  (.sq (.sq (.rg [⟨(some 39), none, .mv (.t 8)⟩,
    ⟨(some 40), none, .nc (.t 39)⟩,
    ⟨(some 41), none, .fa (.t 40) 0⟩,
    ⟨(some 42), none, .ld (.t 41) 1 false⟩,
    ⟨(some 43), none, .mv (.t 1)⟩,
    ⟨(some 44), none, .ib .lss (.t 42) (.t 43)⟩])
  (.cd (.t 44)
  (.sq (.rg [⟨(some 45), none, .mv (.t 8)⟩,
    ⟨(some 46), none, .nc (.t 45)⟩,
    ⟨(some 47), none, .fa (.t 46) 1⟩,
    ⟨(some 48), none, .ld (.t 47) 1 false⟩,
    ⟨(some 9), none, .mv (.t 48)⟩])
  (.rg [⟨(some 49), none, .mv (.t 8)⟩,
    ⟨(some 50), none, .nc (.t 49)⟩,
    ⟨(some 51), none, .fa (.t 50) 1⟩,
    ⟨none, none, .st (.t 51) (.c (.slice none 0 0)) 1⟩]))
  .sk))
  (.sq (.rg [⟨(some 52), none, .mv (.t 8)⟩,
    ⟨(some 53), none, .mv (.t 1)⟩,
    ⟨(some 54), none, .nc (.t 52)⟩,
    ⟨(some 55), none, .fa (.t 54) 0⟩,
    ⟨none, none, .st (.t 55) (.t 53) 1⟩])
  (.sq (.rg [⟨(some 56), none, .mv (.t 8)⟩,
    ⟨(some 57), none, .mv (.t 8)⟩,
    ⟨(some 58), none, .nc (.t 57)⟩,
    ⟨(some 59), none, .fa (.t 58) 1⟩,
    ⟨(some 60), none, .ld (.t 59) 1 false⟩,
    ⟨(some 61), none, .mv (.t 2)⟩,
    ⟨(some 62), none, .ap 53 3 1 8 [(.int .i64 0)] (.t 60) (.t 61)⟩,
    ⟨(some 63), none, .nc (.t 56)⟩,
    ⟨(some 64), none, .fa (.t 63) 1⟩,
    ⟨none, none, .st (.t 64) (.t 62) 1⟩])
  (.sq (.rg [⟨(some 65), none, .mv (.t 9)⟩,
    ⟨(some 6), none, .mv (.t 65)⟩,
    ⟨(some 7), none, .mv (.c (.int .i64 0))⟩])
  .rt)))))))))⟩
theorem k264 : cF Tryz.prog Tryz.f264 = some c264 := by kernel_rfl
/-- slices.Contains[[]int,int] -/
def c265 : Fu := ⟨9, [.t 4],
  (.sq (.rg [⟨(some 4), none, .mv (.c (.bool false))⟩])
  (.sq (.rg [⟨(some 5), none, .mv (.t 0)⟩,
    ⟨(some 6), none, .mv (.t 1)⟩,
    ⟨(some 7), none, .ca 269 [(.t 5), (.t 6)]⟩,
    ⟨(some 8), none, .ib .geq (.t 7) (.c (.int .i64 0))⟩,
    ⟨(some 4), none, .mv (.t 8)⟩])
  .rt))⟩
theorem k265 : cF Tryz.prog Tryz.f265 = some c265 := by kernel_rfl
/-- (*rundale/stack.Push).load -/
def c266 : Fu := ⟨29, [],
  (.sq (.rd [⟨0, 0, [0], ⟨(some 3), none, .mv (.t 0)⟩⟩,
    ⟨1, 0, [0], ⟨(some 4), none, .mv (.t 0)⟩⟩,
    ⟨2, 2, [4], ⟨(some 5), none, .nc (.t 4)⟩⟩,
    ⟨3, 6, [5], ⟨(some 6), none, .fa (.t 5) 5⟩⟩,
    ⟨4, 14, [6], ⟨(some 7), none, .ld (.t 6) 1 false⟩⟩,
    ⟨5, 30, [7], ⟨(some 8), none, .nc (.t 7)⟩⟩,
    ⟨6, 62, [8], ⟨(some 9), none, .fa (.t 8) 0⟩⟩,
    ⟨7, 126, [9], ⟨(some 10), none, .ld (.t 9) 1 false⟩⟩,
    ⟨8, 0, [0], ⟨(some 11), none, .mv (.t 0)⟩⟩,
    ⟨9, 256, [11], ⟨(some 12), none, .nc (.t 11)⟩⟩,
    ⟨10, 768, [12], ⟨(some 13), none, .fa (.t 12) 5⟩⟩,
    ⟨11, 1792, [13], ⟨(some 14), none, .ld (.t 13) 1 false⟩⟩,
    ⟨12, 3840, [14], ⟨(some 15), none, .nc (.t 14)⟩⟩,
    ⟨13, 7936, [15], ⟨(some 16), none, .fa (.t 15) 1⟩⟩,
    ⟨14, 16128, [16], ⟨(some 17), none, .ld (.t 16) 1 false⟩⟩,
    ⟨15, 32766, [10, 17], ⟨(some 18), none, .ca 151 [(.t 10), (.t 17)]⟩⟩,
    ⟨16, 65534, [18], ⟨(some 2), none, .mv (.t 18)⟩⟩,
    ⟨17, 131070, [2], ⟨(some 19), none, .ex (.t 2) 0⟩⟩,
    ⟨18, 131070, [2], ⟨(some 20), none, .ex (.t 2) 1⟩⟩,
    ⟨19, 262143, [3], ⟨(some 21), none, .nc (.t 3)⟩⟩,
    ⟨20, 786431, [21], ⟨(some 22), none, .fa (.t 21) 8⟩⟩,
    ⟨21, 1835007, [22, 19], ⟨none, none, .st (.t 22) (.t 19) 1⟩⟩])
  (.rg [⟨(some 23), none, .mv (.t 0)⟩,
    ⟨(some 24), none, .nc (.t 23)⟩,
    ⟨(some 25), none, .fa (.t 24) 0⟩,
    ⟨(some 26), none, .mv (.t 0)⟩,
    ⟨(some 27), none, .mf (.func 270) [(.t 26)] []⟩,
    ⟨(some 28), none, .ca 79 [(.t 25), (.t 27)]⟩]))⟩
theorem k266 : cF Tryz.prog Tryz.f266 = some c266 := by kernel_rfl
/-- (*rundale/stack.Push).link -/
def c267 : Fu := ⟨71, [],
  (.sq (.rd [⟨0, 0, [0], ⟨(some 2), none, .mv (.t 0)⟩⟩,
    ⟨1, 1, [2], ⟨(some 3), none, .nc (.t 2)⟩⟩,
    ⟨2, 3, [3], ⟨(some 4), none, .fa (.t 3) 5⟩⟩,
    ⟨3, 7, [4], ⟨(some 5), none, .ld (.t 4) 1 false⟩⟩,
    ⟨4, 15, [5], ⟨(some 6), none, .nc (.t 5)⟩⟩,
    ⟨5, 31, [6], ⟨(some 7), none, .fa (.t 6) 0⟩⟩,
    ⟨6, 63, [7], ⟨(some 8), none, .ld (.t 7) 1 false⟩⟩,
    ⟨7, 0, [0], ⟨(some 9), none, .mv (.t 0)⟩⟩,
    ⟨8, 128, [9], ⟨(some 10), none, .nc (.t 9)⟩⟩,
    ⟨9, 384, [10], ⟨(some 11), none, .fa (.t 10) 5⟩⟩,
    ⟨10, 896, [11], ⟨(some 12), none, .ld (.t 11) 1 false⟩⟩,
    ⟨11, 1920, [12], ⟨(some 13), none, .nc (.t 12)⟩⟩,
    ⟨12, 3968, [13], ⟨(some 14), none, .fa (.t 13) 2⟩⟩,
    ⟨13, 8064, [14], ⟨(some 15), none, .ld (.t 14) 1 false⟩⟩,
    ⟨14, 0, [0], ⟨(some 16), none, .mv (.t 0)⟩⟩,
    ⟨15, 16384, [16], ⟨(some 17), none, .nc (.t 16)⟩⟩,
    ⟨16, 49152, [17], ⟨(some 18), none, .fa (.t 17) 6⟩⟩,
    ⟨17, 114688, [18], ⟨(some 19), none, .ld (.t 18) 1 false⟩⟩,
    ⟨18, 0, [0], ⟨(some 20), none, .mv (.t 0)⟩⟩,
    ⟨19, 262144, [20], ⟨(some 21), none, .nc (.t 20)⟩⟩,
    ⟨20, 786432, [21], ⟨(some 22), none, .fa (.t 21) 7⟩⟩,
    ⟨21, 1835008, [22], ⟨(some 23), none, .ld (.t 22) 1 false⟩⟩,
    ⟨22, 4177920, [19, 23], ⟨(some 24), none, .ia (.t 19) (.t 23) 1⟩⟩,
    ⟨23, 8372224, [24], ⟨(some 25), none, .ld (.t 24) 1 false⟩⟩,
    ⟨24, 16777088, [15, 25], ⟨(some 26), none, .ib .add (.t 15) (.t 25)⟩⟩,
    ⟨25, 0, [0], ⟨(some 27), none, .mv (.t 0)⟩⟩,
    ⟨26, 33554432, [27], ⟨(some 28), none, .nc (.t 27)⟩⟩,
    ⟨27, 100663296, [28], ⟨(some 29), none, .fa (.t 28) 6⟩⟩,
    ⟨28, 234881024, [29], ⟨(some 30), none, .ld (.t 29) 1 false⟩⟩,
    ⟨29, 0, [0], ⟨(some 31), none, .mv (.t 0)⟩⟩,
    ⟨30, 536870912, [31], ⟨(some 32), none, .nc (.t 31)⟩⟩,
    ⟨31, 1610612736, [32], ⟨(some 33), none, .fa (.t 32) 7⟩⟩,
    ⟨32, 3758096384, [33], ⟨(some 34), none, .ld (.t 33) 1 false⟩⟩,
    ⟨33, 8053063680, [34], ⟨(some 35), none, .ib .add (.t 34) (.c (.int .i64 1))⟩⟩,
    ⟨34, 17146314752, [30, 35], ⟨(some 36), none, .ia (.t 30) (.t 35) 1⟩⟩,
    ⟨35, 34326183936, [36], ⟨(some 37), none, .ld (.t 36) 1 false⟩⟩,
    ⟨36, 68685922304, [37], ⟨(some 38), none, .ib .add (.t 37) (.c (.int .i64 1))⟩⟩,
    ⟨37, 137405399040, [38], ⟨(some 39), none, .cv .u64 (.t 38)⟩⟩,
    ⟨38, 274877906943, [8, 26, 39], ⟨(some 40), none, .ca 214 [(.t 8), (.t 26), (.t 39)]⟩⟩])
  (.sq (.rg [⟨(some 41), none, .mv (.t 0)⟩,
    ⟨(some 42), none, .nc (.t 41)⟩,
    ⟨(some 43), none, .fa (.t 42) 7⟩,
    ⟨(some 44), none, .ld (.t 43) 1 false⟩,
    ⟨(some 45), none, .ib .add (.t 44) (.c (.int .i64 1))⟩,
    ⟨(some 46), none, .nc (.t 41)⟩,
    ⟨(some 47), none, .fa (.t 46) 7⟩,
    ⟨none, none, .st (.t 47) (.t 45) 1⟩])
  (.sq (.rd [⟨0, 0, [0], ⟨(some 48), none, .mv (.t 0)⟩⟩,
    ⟨1, 1, [48], ⟨(some 49), none, .nc (.t 48)⟩⟩,
    ⟨2, 3, [49], ⟨(some 50), none, .fa (.t 49) 7⟩⟩,
    ⟨3, 7, [50], ⟨(some 51), none, .ld (.t 50) 1 false⟩⟩,
    ⟨4, 0, [0], ⟨(some 52), none, .mv (.t 0)⟩⟩,
    ⟨5, 16, [52], ⟨(some 53), none, .nc (.t 52)⟩⟩,
    ⟨6, 48, [53], ⟨(some 54), none, .fa (.t 53) 6⟩⟩,
    ⟨7, 112, [54], ⟨(some 55), none, .ld (.t 54) 1 false⟩⟩,
    ⟨8, 240, [55], ⟨(some 56), none, .len (.t 55)⟩⟩,
    ⟨9, 496, [56], ⟨(some 57), none, .ib .sub (.t 56) (.c (.int .i64 1))⟩⟩,
    ⟨10, 1023, [51, 57], ⟨(some 58), none, .ib .lss (.t 51) (.t 57)⟩⟩])
  (.cd (.t 58)
  (.rg [⟨(some 59), none, .mv (.t 0)⟩,
    ⟨(some 60), none, .nc (.t 59)⟩,
    ⟨(some 61), none, .fa (.t 60) 0⟩,
    ⟨(some 62), none, .mv (.t 0)⟩,
    ⟨(some 63), none, .mf (.func 267) [(.t 62)] []⟩,
    ⟨(some 64), none, .ca 79 [(.t 61), (.t 63)]⟩])
  (.rg [⟨(some 65), none, .mv (.t 0)⟩,
    ⟨(some 66), none, .nc (.t 65)⟩,
    ⟨(some 67), none, .fa (.t 66) 0⟩,
    ⟨(some 68), none, .mv (.t 0)⟩,
    ⟨(some 69), none, .mf (.func 266) [(.t 68)] []⟩,
    ⟨(some 70), none, .ca 79 [(.t 67), (.t 69)]⟩])))))⟩
theorem k267 : cF Tryz.prog Tryz.f267 = some c267 := by kernel_rfl
/-- (*rundale/stack.Stack).exchange -/
def c268 : Fu := ⟨34, [.t 6],
  (.sq (.rg [⟨(some 6), none, .mv (.c (.bool false))⟩])
  (.sq (.rg [⟨(some 12), none, .mv (.t 1)⟩,
    ⟨(some 13), none, .ca 171 [(.t 12)]⟩,
    ⟨(some 14), none, .mv (.t 2)⟩,
    ⟨(some 15), none, .ca 271 [(.t 13), (.t 14)]⟩,
    ⟨(some 16), none, .ca 203 [(.t 15)]⟩,
    ⟨(some 11), none, .mv (.t 16)⟩,
    ⟨(some 17), none, .ex (.t 11) 0⟩,
    ⟨(some 18), none, .ex (.t 11) 1⟩,
    ⟨(some 7), none, .mv (.t 17)⟩,
    ⟨(some 8), none, .mv (.t 18)⟩])
  (.sq (.rd [⟨0, 0, [0], ⟨(some 20), none, .mv (.t 0)⟩⟩,
    ⟨1, 1, [20], ⟨(some 21), none, .nc (.t 20)⟩⟩,
    ⟨2, 3, [21], ⟨(some 22), none, .fa (.t 21) 0⟩⟩,
    ⟨3, 7, [22], ⟨(some 23), none, .ld (.t 22) 1 false⟩⟩,
    ⟨4, 0, [0], ⟨(some 24), none, .mv (.t 0)⟩⟩,
    ⟨5, 16, [24], ⟨(some 25), none, .nc (.t 24)⟩⟩,
    ⟨6, 48, [25], ⟨(some 26), none, .fa (.t 25) 1⟩⟩,
    ⟨7, 112, [26], ⟨(some 27), none, .ld (.t 26) 1 false⟩⟩,
    ⟨8, 0, [1], ⟨(some 28), none, .mv (.t 1)⟩⟩,
    ⟨9, 0, [7], ⟨(some 29), none, .mv (.t 7)⟩⟩,
    ⟨10, 1023, [23, 27, 28, 29], ⟨(some 30), none, .ca 228 [(.t 23), (.t 27), (.t 28), (.t 29)]⟩⟩,
    ⟨11, 2047, [30], ⟨(some 19), none, .mv (.t 30)⟩⟩,
    ⟨12, 4095, [19], ⟨(some 31), none, .ex (.t 19) 0⟩⟩,
    ⟨13, 4095, [19], ⟨(some 32), none, .ex (.t 19) 1⟩⟩,
    ⟨14, 8191, [31], ⟨(some 9), none, .mv (.t 31)⟩⟩,
    ⟨15, 32767, [32], ⟨(some 10), none, .mv (.t 32)⟩⟩])
  (.sq (.rg [⟨(some 33), none, .mv (.t 9)⟩,
    ⟨(some 6), none, .mv (.t 33)⟩])
  .rt))))⟩
theorem k268 : cF Tryz.prog Tryz.f268 = some c268 := by kernel_rfl
/-- slices.Index[[]int,int] -/
def c269 : Fu := ⟨19, [.t 4],
  (.sq (.rg [⟨(some 4), none, .mv (.c (.int .i64 0))⟩])
  (.sq (.sq (.rg [⟨(some 6), none, .mv (.t 0)⟩,
    ⟨(some 7), none, .len (.t 6)⟩,
    ⟨(some 8), none, .mv (.c (.int .i64 0))⟩])
  (.bl 0
  (.lp
  (.sq (.rg [⟨(some 9), none, .ib .lss (.t 8) (.t 7)⟩])
  (.sq (.cd (.t 9)
  .sk
  (.ex 0))
  (.sq (.bl 1
  (.sq (.rg [⟨(some 10), none, .mv (.t 8)⟩,
    ⟨(some 5), none, .mv (.t 10)⟩])
  (.sq (.rg [⟨(some 11), none, .mv (.t 1)⟩,
    ⟨(some 12), none, .mv (.t 0)⟩,
    ⟨(some 13), none, .mv (.t 5)⟩,
    ⟨(some 14), none, .ia (.t 12) (.t 13) 1⟩,
    ⟨(some 15), none, .ld (.t 14) 1 false⟩,
    ⟨(some 16), none, .ib .eql (.t 11) (.t 15)⟩])
  (.cd (.t 16)
  (.sq (.rg [⟨(some 17), none, .mv (.t 5)⟩,
    ⟨(some 4), none, .mv (.t 17)⟩])
  .rt)
  .sk))))
  (.rg [⟨(some 18), none, .ib .add (.t 8) (.c (.int .i64 1))⟩,
    ⟨(some 8), none, .mv (.t 18)⟩])))))))
  (.sq (.rg [⟨(some 4), none, .mv (.c (.int .i64 (-1)))⟩])
  .rt)))⟩
theorem k269 : cF Tryz.prog Tryz.f269 = some c269 := by kernel_rfl
/-- (*rundale/stack.Push).last -/
def c270 : Fu := ⟨47, [],
  (.sq (.rd [⟨0, 0, [0], ⟨(some 2), none, .mv (.t 0)⟩⟩,
    ⟨1, 1, [2], ⟨(some 3), none, .nc (.t 2)⟩⟩,
    ⟨2, 3, [3], ⟨(some 4), none, .fa (.t 3) 5⟩⟩,
    ⟨3, 7, [4], ⟨(some 5), none, .ld (.t 4) 1 false⟩⟩,
    ⟨4, 15, [5], ⟨(some 6), none, .nc (.t 5)⟩⟩,
    ⟨5, 31, [6], ⟨(some 7), none, .fa (.t 6) 0⟩⟩,
    ⟨6, 63, [7], ⟨(some 8), none, .ld (.t 7) 1 false⟩⟩,
    ⟨7, 0, [0], ⟨(some 9), none, .mv (.t 0)⟩⟩,
    ⟨8, 128, [9], ⟨(some 10), none, .nc (.t 9)⟩⟩,
    ⟨9, 384, [10], ⟨(some 11), none, .fa (.t 10) 5⟩⟩,
    ⟨10, 896, [11], ⟨(some 12), none, .ld (.t 11) 1 false⟩⟩,
    ⟨11, 1920, [12], ⟨(some 13), none, .nc (.t 12)⟩⟩,
    ⟨12, 3968, [13], ⟨(some 14), none, .fa (.t 13) 2⟩⟩,
    ⟨13, 8064, [14], ⟨(some 15), none, .ld (.t 14) 1 false⟩⟩,
    ⟨14, 0, [0], ⟨(some 16), none, .mv (.t 0)⟩⟩,
    ⟨15, 16384, [16], ⟨(some 17), none, .nc (.t 16)⟩⟩,
    ⟨16, 49152, [17], ⟨(some 18), none, .fa (.t 17) 6⟩⟩,
    ⟨17, 114688, [18], ⟨(some 19), none, .ld (.t 18) 1 false⟩⟩,
    ⟨18, 0, [0], ⟨(some 20), none, .mv (.t 0)⟩⟩,
    ⟨19, 262144, [20], ⟨(some 21), none, .nc (.t 20)⟩⟩,
    ⟨20, 786432, [21], ⟨(some 22), none, .fa (.t 21) 6⟩⟩,
    ⟨21, 1835008, [22], ⟨(some 23), none, .ld (.t 22) 1 false⟩⟩,
    ⟨22, 3932160, [23], ⟨(some 24), none, .len (.t 23)⟩⟩,
    ⟨23, 8126464, [24], ⟨(some 25), none, .ib .sub (.t 24) (.c (.int .i64 1))⟩⟩,
    ⟨24, 16760832, [19, 25], ⟨(some 26), none, .ia (.t 19) (.t 25) 1⟩⟩,
    ⟨25, 33538048, [26], ⟨(some 27), none, .ld (.t 26) 1 false⟩⟩,
    ⟨26, 67108736, [15, 27], ⟨(some 28), none, .ib .add (.t 15) (.t 27)⟩⟩,
    ⟨27, 0, [0], ⟨(some 29), none, .mv (.t 0)⟩⟩,
    ⟨28, 134217728, [29], ⟨(some 30), none, .nc (.t 29)⟩⟩,
    ⟨29, 402653184, [30], ⟨(some 31), none, .fa (.t 30) 5⟩⟩,
    ⟨30, 939524096, [31], ⟨(some 32), none, .ld (.t 31) 1 false⟩⟩,
    ⟨31, 0, [0], ⟨(some 33), none, .mv (.t 0)⟩⟩,
    ⟨32, 2147483648, [33], ⟨(some 34), none, .nc (.t 33)⟩⟩,
    ⟨33, 6442450944, [34], ⟨(some 35), none, .fa (.t 34) 8⟩⟩,
    ⟨34, 15032385536, [35], ⟨(some 36), none, .ld (.t 35) 1 false⟩⟩,
    ⟨35, 34225520640, [32, 36], ⟨(some 37), none, .ca 95 [(.t 32), (.t 36)]⟩⟩,
    ⟨36, 68585259008, [37], ⟨(some 38), none, .ib .add (.t 37) (.c (.int .i64 1))⟩⟩,
    ⟨37, 137304735744, [38], ⟨(some 39), none, .cv .u64 (.t 38)⟩⟩,
    ⟨38, 274877906943, [8, 28, 39], ⟨(some 40), none, .ca 214 [(.t 8), (.t 28), (.t 39)]⟩⟩])
  (.rg [⟨(some 41), none, .mv (.t 0)⟩,
    ⟨(some 42), none, .nc (.t 41)⟩,
    ⟨(some 43), none, .fa (.t 42) 0⟩,
    ⟨(some 44), none, .mv (.t 0)⟩,
    ⟨(some 45), none, .mf (.func 272) [(.t 44)] []⟩,
    ⟨(some 46), none, .ca 79 [(.t 43), (.t 45)]⟩]))⟩
theorem k270 : cF Tryz.prog Tryz.f270 = some c270 := by kernel_rfl
/-- rundale/word.Next -/
def c271 : Fu := ⟨15, [.c 4 2 true],
  (.sq (.rg [⟨(some 2), none, .bx 238 (.t 0)⟩,
    ⟨(some 4), none, .al 238 [(.int .i64 0), (.int .i64 0)]⟩])
  (.sq (.rg [⟨(some 5), none, .mv (.c (.int .i64 0))⟩])
  (.sq (.sq (.rg [⟨(some 6), none, .fa (.t 2) 1⟩,
    ⟨(some 7), none, .ld (.t 6) 1 false⟩,
    ⟨(some 8), none, .ca 243 [(.t 7), (.c (.int .i64 0)), (.c (.int .i64 4294967294))]⟩])
  (.cd (.t 8)
  (.rg [⟨(some 9), none, .fa (.t 2) 1⟩,
    ⟨(some 10), none, .ld (.t 9) 1 false⟩,
    ⟨(some 11), none, .ib .add (.t 10) (.c (.int .i64 1))⟩,
    ⟨(some 5), none, .mv (.t 11)⟩])
  .sk))
  (.sq (.rg [⟨(some 12), none, .mv (.t 1)⟩,
    ⟨(some 13), none, .mv (.t 5)⟩,
    ⟨(some 14), none, .bd [(.int .i64 0), (.int .i64 0)] [(0, 1, (.t 12)), (1, 1, (.t 13))]⟩,
    ⟨none, none, .st (.t 4) (.t 14) 2⟩])
  .rt))))⟩
theorem k271 : cF Tryz.prog Tryz.f271 = some c271 := by kernel_rfl
/-- (*rundale/stack.Push).cas -/
def c272 : Fu := ⟨24, [],
  (.sq (.rd [⟨0, 0, [0], ⟨(some 2), none, .mv (.t 0)⟩⟩,
    ⟨1, 1, [2], ⟨(some 3), none, .nc (.t 2)⟩⟩,
    ⟨2, 3, [3], ⟨(some 4), none, .fa (.t 3) 5⟩⟩,
    ⟨3, 7, [4], ⟨(some 5), none, .ld (.t 4) 1 false⟩⟩,
    ⟨4, 0, [0], ⟨(some 6), none, .mv (.t 0)⟩⟩,
    ⟨5, 16, [6], ⟨(some 7), none, .nc (.t 6)⟩⟩,
    ⟨6, 48, [7], ⟨(some 8), none, .fa (.t 7) 8⟩⟩,
    ⟨7, 112, [8], ⟨(some 9), none, .ld (.t 8) 1 false⟩⟩,
    ⟨8, 0, [0], ⟨(some 10), none, .mv (.t 0)⟩⟩,
    ⟨9, 256, [10], ⟨(some 11), none, .nc (.t 10)⟩⟩,
    ⟨10, 768, [11], ⟨(some 12), none, .fa (.t 11) 6⟩⟩,
    ⟨11, 1792, [12], ⟨(some 13), none, .ld (.t 12) 1 false⟩⟩,
    ⟨12, 3840, [13], ⟨(some 14), none, .ia (.t 13) (.c (.int .i64 0)) 1⟩⟩,
    ⟨13, 7936, [14], ⟨(some 15), none, .ld (.t 14) 1 false⟩⟩,
    ⟨14, 16383, [5, 9, 15], ⟨(some 16), none, .ca 268 [(.t 5), (.t 9), (.t 15)]⟩⟩,
    ⟨15, 32767, [16], ⟨(some 17), none, .nt (.t 16)⟩⟩])
  (.cd (.t 17)
  (.rg [⟨(some 18), none, .mv (.t 0)⟩,
    ⟨(some 19), none, .nc (.t 18)⟩,
    ⟨(some 20), none, .fa (.t 19) 0⟩,
    ⟨(some 21), none, .mv (.t 0)⟩,
    ⟨(some 22), none, .mf (.func 266) [(.t 21)] []⟩,
    ⟨(some 23), none, .ca 79 [(.t 20), (.t 22)]⟩])
  .sk))⟩
theorem k272 : cF Tryz.prog Tryz.f272 = some c272 := by kernel_rfl
end Go.Proofs.YtflalhdofhobmaaGreat

/-
  The functions' small code, all of it.
-/
namespace Go.Proofs.YtflalhdofhobmaaGreat
end Go.Proofs.YtflalhdofhobmaaGreat

/-
  The stash (chapter 8): what its functions do to it.
-/
set_option linter.unusedVariables false
namespace Go.Proofs.YtflalhdofhobmaaGreat
open Go
attribute [local irreducible] Sx Cx Rx Fx Krg Ksq Kbl Klp Kr
/-- Whole numbers as cells. -/
def ints (xs : List Int) : List Value := xs.map (Value.int .i64)
theorem length_ints (xs : List Int) : (ints xs).length = xs.length := by simp [ints]
theorem ones_ints (xs : List Int) : ones (ints xs) = true := by simp [ones, ints, Value.oneCell']
theorem ints_append (xs ys : List Int) : ints (xs ++ ys) = ints xs ++ ints ys := by simp [ints]
theorem ints_take (xs : List Int) (n : Nat) : (ints xs).take n = ints (xs.take n) := by simp [ints, List.map_take]
theorem ints_drop (xs : List Int) (n : Nat) : (ints xs).drop n = ints (xs.drop n) := by simp [ints, List.map_drop]
section
variable {L F : St}
theorem Ent.rownil (E sz : Nat) : Ent L (pt none (Row E sz 0 0 []) :: L) := .of fun h H =>
  ⟨Hp.no, h, fun _ => .inl rfl, by funext k; simp [Hp.join, Hp.no], ⟨by simp, .inl ⟨rfl, rfl, rfl, rfl⟩⟩, H⟩
/-- slices.Clone, of whole numbers. -/
theorem clone {a : Option Addr} {m c : Nat} {vs : List Value} (hr : Rd L 1 a m vs) (h1 : ones vs = true) (hm : m ≤ 1000000000) :
    Fx Tryz.prog 189 [.slice a m c] L (fun v L' => ∃ a' c', v = .slice a' m c' ∧ L' = pt a' (Row 3 1 m c' vs) :: L) := by
  refine Fx.mk Tryz.func189 k189 (Nat.le_of_ble_eq_true rfl) ?_
  dsimp only [c189, envOf, Nat.reduceAdd]
  cases a with
  | none =>
    refine go ?_
    have hm0 : m = 0 := by
      rcases hr.2 with h | ⟨b, o, h, _⟩
      · exact h
      · cases h
    subst hm0
    have hv : vs = [] := List.eq_nil_of_length_eq_zero (by simpa using hr.1)
    subst hv
    exact Kr.one (.inr rfl) rfl (Ent.rownil _ _) ⟨none, 0, rfl, rfl⟩
  | some a =>
    refine go ?_
    refine Sx.bs (sz := 1) rfl rfl fun g => ?_
    refine go ?_
    refine Sx.ap rfl rfl (hr.ent Ent.drop) h1 (by simp [maxLen]; omega) (by omega) fun ra ca hc => ?_
    refine go ?_
    refine Kr.one (.inr rfl) rfl (Ent.refl _) ⟨ra, ca, ?_, ?_⟩
    · simp
    · simp
/-- A stash: how many it keeps, what it has. -/
def StashT (T : TypeId) (most : Int) (xs : List Int) (a : Option Addr) : As :=
  exs fun (y : Option Addr × Nat) => [pt a (Blk T [.int .i64 most, .slice y.1 xs.length y.2]), pt y.1 (Row 3 1 xs.length y.2 (ints xs))]
abbrev StashO := StashT 250
theorem StashO.close {T : TypeId} {most : Int} {xs : List Int} {a r : Option Addr} {cap n : Nat} {v : Value} {vs : List Value} {F G : St} [t : Take L a (Blk T [v, .slice r n cap]) F] [u : Take F r (Row 3 1 n cap vs) G]
    (hn : n = xs.length) (hv : v = .int .i64 most) (hvs : vs = ints xs) : Ent L (pt a (StashT T most xs) :: G) := by
  subst hn; subst hv; subst hvs
  exact (Ent.take1 (t := t) (Ent.of u.out)).trans (Ent.close (f := fun (y : Option Addr × Nat) => [pt a (Blk T [.int .i64 most, .slice y.1 xs.length y.2]), pt y.1 (Row 3 1 xs.length y.2 (ints xs))]) rfl (r, cap))
theorem stashNew (m : Int) : Fx Tryz.prog 147 [.int .i64 m] L (fun v L' => ∃ g, v = .pointer (some ⟨g, 0, none⟩) ∧ L' = pt (some ⟨g, 0, none⟩) (StashO (min (max m 0) 64) []) :: L) := by
  refine Fx.mk Tryz.func147 k147 (Nat.le_of_ble_eq_true rfl) ?_
  dsimp only [c147, envOf, Nat.reduceAdd]
  refine go ?_
  refine Sx.bx rfl rfl fun g => ?_
  refine go ?_
  refine Kr.one (.inr rfl) rfl (Ent.trans (Ent.rownil 3 1) (StashO.close (xs := []) rfl ?_ rfl)) ⟨g, rfl, rfl⟩
  simp only [cond_true, cond_false]
  congr 1
  omega
theorem stashGive {b : Nat} {most : Int} {xs ys : List Int} {ya : Option Addr} {m c : Nat} {F : St} [t : Take L (some ⟨b, 0, none⟩) (StashO most xs) F] (hr : Rd F 1 ya m (ints ys)) (hb : xs.length + m ≤ 1000000000) :
    Fx Tryz.prog 136 [.pointer (some ⟨b, 0, none⟩), .slice ya m c] L (fun v L' => v = .tuple #[] ∧ L' = pt (some ⟨b, 0, none⟩) (StashO most (xs ++ ys)) :: F) := by
  refine Fx.mk Tryz.func136 k136 (Nat.le_of_ble_eq_true rfl) ?_
  dsimp only [c136, envOf, Nat.reduceAdd]
  refine Cx.openp (t := t) rfl ?_
  rintro ⟨r, cap⟩
  simp only [List.cons_append, List.nil_append]
  refine go ?_
  refine Sx.ap rfl rfl (hr.ent (Ent.drop.trans Ent.drop)) (ones_ints ys) (by simp [maxLen]; omega) (by omega) fun ra ca hc => ?_
  refine go ?_
  have hm : m = ys.length := by have := hr.1; simp [length_ints] at this; omega
  exact Kr.none (.inl rfl) (StashO.close (by simp [hm]) rfl (by simp [ints])) ⟨rfl, rfl⟩
theorem Rd.prefix_ {a : Option Addr} {E sz n cap m : Nat} {xs : List Value} [t : Take L a (Row E sz n cap xs) F] (hx : xs.length = n * sz) (hk : (a = none ∧ n = 0 ∧ cap = 0) ∨ ∃ g, a = some ⟨g, 0, none⟩) (hm : m ≤ n) : Rd L sz a m (xs.take (m * sz)) := by
  have hms : m * sz ≤ n * sz := Nat.mul_le_mul_right _ hm
  refine ⟨by rw [List.length_take]; omega, ?_⟩
  rcases hk with ⟨_, h, _⟩ | ⟨g, rfl⟩
  · left; omega
  · right
    have h := Has.row (L := L) (b := g) (E := E) (sz := sz) (n := n) (cap := cap) (xs := xs) (off := 0) (m := m * sz)
    rw [List.drop_zero] at h
    exact ⟨g, 0, rfl, h⟩
theorem Rd.suffix_ {g : Nat} {E sz n cap i : Nat} {xs : List Value} [t : Take L (some ⟨g, 0, none⟩) (Row E sz n cap xs) F] (hx : xs.length = n * sz) (hn : n ≤ cap) (hi : i ≤ n) : Rd L sz (some ⟨g, 0 + skp cap i sz, none⟩) (n - i) (xs.drop (i * sz)) := by
  have hms : i * sz ≤ n * sz := Nat.mul_le_mul_right _ hi
  refine ⟨by rw [List.length_drop, hx, Nat.sub_mul], ?_⟩
  by_cases hc : cap = i
  · left; omega
  · right
    refine ⟨g, 0 + skp cap i sz, rfl, ?_⟩
    have h := Has.row (L := L) (b := g) (E := E) (sz := sz) (n := n) (cap := cap) (xs := xs) (off := i * sz) (m := (xs.drop (i * sz)).length)
    rw [List.take_length] at h
    simp only [skp, hc, if_false, Nat.zero_add]
    exact h
theorem stashCut {b : Nat} {most : Int} {xs : List Int} {k : Nat} {F : St} [t : Take L (some ⟨b, 0, none⟩) (StashO most xs) F] (hb : xs.length ≤ 1000000000) (hk : k ≤ xs.length) :
    Fx Tryz.prog 262 [.pointer (some ⟨b, 0, none⟩), .int .i64 k] L (fun v L' => ∃ a c, v = .slice a k c ∧ L' = pt a (Row 3 1 k c (ints (xs.take k))) :: pt (some ⟨b, 0, none⟩) (StashO most (xs.drop k)) :: F) := by
  refine Fx.mk Tryz.func262 k262 (Nat.le_of_ble_eq_true rfl) ?_
  dsimp only [c262, envOf, Nat.reduceAdd]
  refine Cx.openp (t := t) rfl ?_
  rintro ⟨r, cap⟩
  simp only [List.cons_append, List.nil_append]
  refine Cx.rowkey (a := r) fun hx hnc _ hkey => ?_
  refine go ?_
  refine Sx.pv rfl ⟨by omega, by omega⟩ ?_
  have h1 := Rd.prefix_ (L := pt (some ⟨b, 0, none⟩) (Blk 250 [.int .i64 most, .slice r xs.length cap]) :: pt r (Row 3 1 xs.length cap (ints xs)) :: F) (a := r) hx hkey hk
  simp only [Nat.mul_one, ints_take] at h1
  refine Sx.ca rfl (clone (by simpa using h1) (ones_ints _) (by omega)) ?_
  rintro v L' ⟨a1, c1, rfl, rfl⟩
  refine go ?_
  rcases hkey with ⟨rfl, h0, rfl⟩ | ⟨g, rfl⟩
  · have hx0 : xs = [] := List.eq_nil_of_length_eq_zero h0
    subst hx0
    have hk0 : k = 0 := by simpa using hk
    subst hk0
    refine Sx.pv rfl (by simp) ?_
    refine Sx.ca rfl (clone (vs := []) (Rd.nil _ _ _) rfl (by omega)) ?_
    rintro v L' ⟨a2, c2, rfl, rfl⟩
    refine go ?_
    refine Kr.one (.inr rfl) rfl ?_ ⟨a1, c1, rfl, rfl⟩
    refine Ent.trans (StashO.close (a := some ⟨b, 0, none⟩) (r := a2) (xs := []) rfl rfl rfl) ?_
    simp only [Int.toNat_natCast, List.take_nil, List.drop_nil, ints, List.map_nil]
    exact ent
  · refine Sx.pv rfl ⟨by omega, by omega⟩ ?_
    have h2 := Rd.suffix_ (L := pt a1 (Row 3 1 k c1 (ints (xs.take k))) :: pt (some ⟨b, 0, none⟩) (Blk 250 [.int .i64 most, .slice (some ⟨g, 0, none⟩) xs.length cap]) :: pt (some ⟨g, 0, none⟩) (Row 3 1 xs.length cap (ints xs)) :: F) (g := g) hx hnc hk
    simp only [Nat.mul_one, ints_drop] at h2
    refine Sx.ca rfl (clone (vs := ints (xs.drop k)) (by simpa using h2) (ones_ints _) (by omega)) ?_
    rintro v L' ⟨a2, c2, rfl, rfl⟩
    refine go ?_
    refine Kr.one (.inr rfl) rfl ?_ ⟨a1, c1, rfl, rfl⟩
    refine Ent.trans (StashO.close (a := some ⟨b, 0, none⟩) (r := a2) (xs := xs.drop k) (by simp) rfl rfl) ?_
    simp only [Int.toNat_natCast]
    exact ent
/-- How many are too many. -/
def overK (most : Int) (xs : List Int) : Nat := (max ((xs.length : Int) - most) 0).toNat
theorem stashOver {b : Nat} {most : Int} {xs : List Int} {F : St} [t : Take L (some ⟨b, 0, none⟩) (StashO most xs) F] (hb : xs.length ≤ 1000000000) (hm : 0 ≤ most) (hm2 : most ≤ 64) :
    Fx Tryz.prog 246 [.pointer (some ⟨b, 0, none⟩)] L (fun v L' => ∃ a c, v = .slice a (overK most xs) c ∧ L' = pt a (Row 3 1 (overK most xs) c (ints (xs.take (overK most xs)))) :: pt (some ⟨b, 0, none⟩) (StashO most (xs.drop (overK most xs))) :: F) := by
  refine Fx.mk Tryz.func246 k246 (Nat.le_of_ble_eq_true rfl) ?_
  dsimp only [c246, envOf, Nat.reduceAdd]
  refine Cx.openp (t := t) rfl ?_
  rintro ⟨r, cap⟩
  simp only [List.cons_append, List.nil_append]
  refine go ?_
  refine Cx.rd ?_
  refine Rx.pvs rfl ?_
  refine Rx.ldbS 0 rfl rfl rfl (by rfl) rfl rfl ?_
  refine Rx.pvs rfl ?_
  refine Rx.ldbS 0 rfl rfl rfl (by rfl) rfl rfl ?_
  refine Rx.pvs rfl ?_
  refine Rx.one rfl rfl rfl ?_
  refine Sx.ent (StashO.close (a := some ⟨b, 0, none⟩) (r := r) (xs := xs) rfl rfl rfl) ?_
  have hw : IntKind.i64.wrap ((xs.length : Int) - most) = (xs.length : Int) - most := w64 (by omega) (by omega)
  have hk : (if (xs.length : Int) - most < 0 then 0 else (xs.length : Int) - most) = (overK most xs : Int) := by unfold overK; omega
  rw [hw]
  simp only [cond_true, hk]
  refine Sx.ca rfl (stashCut (b := b) (most := most) (xs := xs) (k := overK most xs) hb (by unfold overK; omega)) ?_
  rintro v L' ⟨a, c, rfl, rfl⟩
  refine Sx.nil ⟨trivial, ?_⟩
  refine Rx.pvs rfl ?_
  refine Rx.nil ?_
  refine go ?_
  exact Kr.one (.inr rfl) rfl (Ent.refl _) ⟨a, c, rfl, rfl⟩
end
end Go.Proofs.YtflalhdofhobmaaGreat

/-
  Plain helpers of the statements (numbers, lists of numbers), and the reference's stash.
-/
set_option linter.unusedVariables false
namespace Go.Proofs.YtflalhdofhobmaaGreat
open Go
attribute [local irreducible] Sx Cx Rx Fx Krg Ksq Kbl Klp Kr
section
variable {P : Program} {N : Nat} {e : En} {K : En → St → Prop} {L F : St} {l : List G}
/-- Appending to nothing. -/
theorem Sx.apn {d : Option Nat} {T E sz by_ : Nat} {z : List Value} {x y : X} {ya : Option Addr} {m c : Nat} {ys : List Value}
    (hx : x.get e = some (.slice none 0 0)) (hy : y.get e = some (.slice ya m c)) (hr : Rd L sz ya m ys) (h1 : ones ys = true) (hm : m ≤ maxLen) (hb : m * by_ ≤ 140737488355328)
    (k : ∀ ra' cap', m ≤ cap' → Sx P N l (e.put d (.slice ra' m cap')) K (pt ra' (Row E sz m cap' ys) :: L)) : Sx P N (⟨d, none, .ap T E sz by_ z x y⟩ :: l) e K L := by
  refine Sx.ent (Ent.rownil E sz) ?_
  refine Sx.ap (ra := none) (n := 0) (cap := 0) (xs := []) hx hy (hr.ent Ent.drop) h1 (by omega) (by simpa using hb) fun ra ca hc => ?_
  simp only [Nat.zero_add, List.nil_append] at hc ⊢
  exact k ra ca hc
/-- One element read through. -/
theorem Has.at_ {b o i : Nat} {vs : List Value} {v : Value} (h : Has L b o vs) (hv : vs[i]? = some v) : Has L b (o + i) [v] := by
  have := Has.sub (i := i) (n := 1) h
  rwa [take_one hv] at this
end
section
variable {L F : St}
theorem number (v n : Int) (hn : 0 < n) (hn2 : n ≤ 4611686018427387904) : Fx Tryz.prog 16 [.int .i64 v, .int .i64 n] L (fun r L' => r = .int .i64 (v % n) ∧ L = L') := by
  have h1 := Int.tmod_lt_of_pos v hn
  have h2 : v % n = if v.tmod n < 0 then v.tmod n + n else v.tmod n := by
    rw [Int.tmod_eq_emod]
    have h3 := Int.emod_nonneg v (show n ≠ 0 by omega)
    have h4 := Int.emod_lt_of_pos v hn
    have h5 : (n.natAbs : Int) = n := by omega
    split <;> split <;> omega
  have h6 : -n < v.tmod n := by
    rw [Int.tmod_eq_emod]
    have h3 := Int.emod_nonneg v (show n ≠ 0 by omega)
    have h4 := Int.emod_lt_of_pos v hn
    have h5 : (n.natAbs : Int) = n := by omega
    split <;> omega
  refine Fx.mk Tryz.func16 k16 (Nat.le_of_ble_eq_true rfl) ?_
  dsimp only [c16, envOf, Nat.reduceAdd]
  refine go ?_
  refine Sx.pv rfl (by omega) ?_
  refine go ?_
  refine Cx.ifp rfl (fun h => ?_) (fun h => ?_)
  · refine go ?_
    refine Kr.one (.inr rfl) rfl (Ent.refl _) ⟨?_, rfl⟩
    rw [w64 (by omega) (by omega), h2, if_pos h]
  · refine go ?_
    refine Kr.one (.inr rfl) rfl (Ent.refl _) ⟨?_, rfl⟩
    rw [h2, if_neg h]
/-- The reference's stash. -/
abbrev RefO := StashT 191
theorem refNew (m : Int) : Fx Tryz.prog 149 [.int .i64 m] L (fun v L' => ∃ g, v = .pointer (some ⟨g, 0, none⟩) ∧ L' = pt (some ⟨g, 0, none⟩) (RefO (min (max m 0) 64) []) :: L) := by
  refine Fx.mk Tryz.func149 k149 (Nat.le_of_ble_eq_true rfl) ?_
  dsimp only [c149, envOf, Nat.reduceAdd]
  refine go ?_
  refine Sx.bx rfl rfl fun g => ?_
  refine go ?_
  refine Kr.one (.inr rfl) rfl (Ent.trans (Ent.rownil 3 1) (StashO.close (xs := []) rfl ?_ rfl)) ⟨g, rfl, rfl⟩
  simp only [cond_true, cond_false]
  congr 1
  omega
end
end Go.Proofs.YtflalhdofhobmaaGreat

/-
  More rules: calls that leave a part as it was; regions that draw their order, walked at the head.
-/
set_option linter.unusedVariables false
set_option linter.unusedSimpArgs false
namespace Go.Proofs.YtflalhdofhobmaaGreat
open Go
section
variable {P : Program} {N : Nat} {L M F : St}
/-- A call that leaves a part as it was. -/
theorem Fx.kept {f : FuncId} {vs : List Value} {v : Value} {a : Option Addr} {R : Option Addr → As} [t : Take L a R F] (h : Fx P f vs L (fun v' L' => v' = v ∧ L' = pt a R :: F)) : Fx P f vs L (fun v' L' => v' = v ∧ L = L') :=
  fun w0 w s => (h w0 w s).mono fun en w' ⟨v', L', he, ⟨hv, hL⟩, hS⟩ => ⟨v', L, he, ⟨hv, rfl⟩, hS.ent (by subst hL; exact Ent.of t.back)⟩
/-- What the memory that comes of a call tells. -/
theorem Fx.pure {f : FuncId} {vs : List Value} {R : Value → St → Prop} (x : Fx P f vs L R) {p : Value → St → Prop} (hp : ∀ v L', R v L' → ∀ h, holds L' h → p v L') : Fx P f vs L (fun v L' => R v L' ∧ p v L') :=
  fun w0 w s => (x w0 w s).mono fun en w' ⟨v, L', he, hR, hS⟩ => by
    obtain ⟨h, hh, _⟩ := hS.heap
    exact ⟨v, L', he, ⟨hR, hp v L' hR h hh⟩, hS⟩
/-! Ends that hold as well where more is known of the temporaries. -/
class Mono (Kf : En → St → Prop) : Prop where
  le : ∀ e e' L, sub e e' → Kf e L → Kf e' L
instance Mono.cx {c : C} {K : Kx} : Mono (fun e L => Cx P N c e K L) := ⟨fun _ _ _ hs h => Cx.less hs h⟩
instance Mono.sq {c : C} {K : Kx} : Mono (fun e L => Ksq P N c K .nm e L) := ⟨fun _ _ _ hs h => Cx.less hs h⟩
instance Mono.bl {K : Kx} {i : Nat} [m : Mono (fun e L => K .nm e L)] : Mono (fun e L => Kbl i K .nm e L) := ⟨fun e e' L hs h => m.le e e' L hs h⟩
instance Mono.lp {α : Type _} {K : Kx} {T : α → En} {S : α → St} {μ : α → Nat} {x : α} : Mono (fun e L => Klp K T S μ x .nm e L) := ⟨fun _ _ _ hs h => Klp.mono _ _ hs h⟩
instance Mono.jn {β : Type _} {K : Kx} {T : β → En} {S : β → St} : Mono (fun e L => Kjn K T S .nm e L) := ⟨fun _ _ _ hs h => Kjn.mono _ _ hs h⟩
instance Mono.kr {rs : List RV} {R : Value → St → Prop} : Mono (fun e L => Kr P N rs R .nm e L) := ⟨fun e e' L hs ⟨h1, v, L', h2, h3, h4⟩ => ⟨h1, v, L', fun fn a w0 w hr ok s => h2 fn a w0 w hr (ok.sub hs) s, h3, h4⟩⟩
/-! Only which operations are left counts, not how they are listed. -/
theorem Ev.same {Kf : En → St → Prop} {rem : List It} {ms : List (Nat × (St → Prop))} {e : En} {L : St} (h : Ev P N Kf rem ms e L) : ∀ {rem2 : List It}, (∀ x, x ∈ rem2 ↔ x ∈ rem) → Ev P N Kf rem2 ms e L := by
  induction h with
  | nil h =>
    intro rem2 hm
    cases rem2 with
    | nil => exact .nil h
    | cons x r => exact absurd ((hm x).1 (by simp)) (by simp)
  | free x hx v h k ih => exact fun hm => .free x ((hm x).2 hx) v h (ih fun y => by rw [mem_without, mem_without, hm])
  | looks x hx v Φ hΦ h k ih => exact fun hm => .looks x ((hm x).2 hx) v Φ hΦ h (ih fun y => by rw [mem_without, mem_without, hm])
  | turns x hx R h1 h2 h k ih =>
    intro rem2 hm
    refine .turns x ((hm x).2 hx) R (List.all_eq_true.2 fun y hy => List.all_eq_true.1 h1 y ?_) h2 h fun v L' hR => ih v L' hR fun y => by rw [mem_without, mem_without, hm]
    rw [mem_without] at hy ⊢
    exact ⟨(hm y).1 hy.1, hy.2⟩
def pull : Nat → List It → Option (It × List It)
  | _, [] => none
  | 0, x :: r => some (x, r)
  | n + 1, x :: r => match pull n r with
    | some (y, k) => some (y, x :: k)
    | none => none
theorem pull_mem : ∀ {n : Nat} {l : List It} {x : It} {r : List It}, pull n l = some (x, r) → ∀ y, y ∈ l ↔ y ∈ x :: r
  | 0, [], _, _, h, _ => by cases h
  | n + 1, [], _, _, h, _ => by cases h
  | 0, a :: l, x, r, h, y => by cases h; rfl
  | n + 1, a :: l, x, r, h, y => by
    simp only [pull] at h
    split at h
    · rename_i z k hz
      cases h
      have := pull_mem hz y
      simp only [List.mem_cons] at this ⊢
      rw [this]
      constructor
      · rintro (h | h | h) <;> simp [h]
      · rintro (h | h | h) <;> simp [h]
    · cases h
section
variable {Kf : En → St → Prop} {e : En} {rem rem' r : List It} {ms : List (Nat × (St → Prop))} {i ds sz : Nat} {rs : List Nat} {d : Option Nat} {g : Option (Nat × Bool)}
/-- One operation comes to the head. -/
theorem Ev.bring (j : Nat) {x : It} (h : pull j rem = some (x, r)) (k : Ev P N Kf (x :: r) ms e L) : Ev P N Kf rem ms e L := k.same fun y => pull_mem h y
/-- No two of one place. -/
def dist : List It → Bool
  | [] => true
  | x :: l => l.all (fun y => !(Nat.beq y.i x.i)) && dist l
theorem without_head {x : It} (h : r.all (fun y => !(Nat.beq y.i x.i)) = true) : without (x :: r) x.i = r := by
  unfold without
  rw [List.filter_cons]
  simp only [Nat.beq_refl, Bool.not_true, Bool.false_eq_true, if_false]
  rw [List.filter_eq_self]
  exact fun y hy => List.all_eq_true.1 h y hy
theorem dist_move {x : It} {r : List It} : ∀ {pre : List It}, dist (pre ++ x :: r) = true → dist (x :: (pre ++ r)) = true
  | [], hd => hd
  | y :: pre, hd => by
    simp only [List.cons_append, dist, Bool.and_eq_true, List.all_append, List.all_cons] at hd
    obtain ⟨⟨h1, h2, h3⟩, h4⟩ := hd
    have := dist_move h4
    simp only [List.cons_append, dist, Bool.and_eq_true, List.all_append, List.all_cons] at this ⊢
    refine ⟨⟨?_, this.1⟩, ⟨h1, h3⟩, this.2⟩
    simp only [Bool.not_eq_true'] at h2 ⊢
    cases hb : Nat.beq y.i x.i with
    | false => rfl
    | true => rw [Nat.eq_of_beq_eq_true hb] at h2; simp at h2
/-- Plain operations, in one pass; so many that cannot be told yet are passed by. -/
def pass : Nat → List It → En → Option (List It × En)
  | _, [], _ => none
  | n, x :: r, e => match stepM x e with
    | some v => match x.g.d with
      | some t => match pass n r ((t, v) :: e) with
        | some q => some q
        | none => some (r, (t, v) :: e)
      | none => match pass n r e with
        | some q => some q
        | none => some (r, e)
    | none => match n with
      | 0 => none
      | n + 1 => match pass n r e with
        | some (k, e') => some (x :: k, e')
        | none => none
theorem pass_ev : ∀ {n : Nat} {r : List It} {e : En} {rem' : List It} {e' : En}, pass n r e = some (rem', e') → ∀ pre : List It, dist (pre ++ r) = true → Ev P N Kf (pre ++ rem') ms e' L → Ev P N Kf (pre ++ r) ms e L
  | _, [], _, _, _, h, _, _, _ => by cases h
  | n, x :: r, e, rem', e', h, pre, hd, k => by
    have hd' : dist (x :: (pre ++ r)) = true := dist_move hd
    have hd2 : (pre ++ r).all (fun y => !(Nat.beq y.i x.i)) = true ∧ dist (pre ++ r) = true := by simpa [dist] using hd'
    rw [pass.eq_def] at h
    simp only at h
    have tell : ∀ {v : Value}, stepM x e = some v → Ev P N Kf (pre ++ r) ms (e.put x.g.d v) L → Ev P N Kf (pre ++ x :: r) ms e L := by
      intro v hv k
      refine Ev.same (rem := x :: (pre ++ r)) (Ev.stp (x := x) (by simp) hv ?_) fun y => by simp only [List.mem_append, List.mem_cons]; constructor <;> (rintro (h | h | h) <;> simp [h])
      rw [without_head hd2.1]
      exact k
    split at h
    · rename_i v hv
      refine tell hv ?_
      split at h
      · rename_i t ht
        rw [ht]
        split at h
        · rename_i q hq
          cases h
          exact pass_ev hq pre hd2.2 k
        · cases h
          exact k
      · rename_i ht
        rw [ht]
        split at h
        · rename_i q hq
          cases h
          exact pass_ev hq pre hd2.2 k
        · cases h
          exact k
    · cases n with
      | zero => cases h
      | succ n =>
        simp only at h
        split at h
        · rename_i kk ee hq
          cases h
          have := pass_ev hq (pre ++ [x]) (by simpa using hd) (by simpa using k)
          simpa using this
        · cases h
theorem Ev.pass (n : Nat) {e' : En} (h : Proofs.YtflalhdofhobmaaGreat.pass n rem e = some (rem', e')) (hd : dist rem = true) (k : Ev P N Kf rem' ms e' L) : Ev P N Kf rem ms e L := pass_ev h [] hd k
/-- One plain operation at the head. -/
theorem Ev.stpH {x : It} {v : Value} {e' : En} (hd : dist (x :: r) = true) (h : stepM x e = some v) (he : (match x.g.d with | some t => (t, v) :: e | none => e) = e') (k : Ev P N Kf r ms e' L) : Ev P N Kf (x :: r) ms e L := by
  refine Ev.stp (x := x) (by simp) h ?_
  rw [without_head (by simp only [dist, Bool.and_eq_true] at hd; exact hd.1)]
  subst he
  cases hx : x.g.d with
  | none => rw [hx] at k; exact k
  | some t => rw [hx] at k; exact k
/-- What is known may be less. -/
theorem only_sub {T e : En} (hs : sub T e) (rs : List Nat) : sub (T.only rs) (e.only rs) := by
  intro t u h
  have ⟨hm, hu⟩ := only_get h
  have hu' := hs t u hu
  clear h hu hs
  induction rs with
  | nil => cases hm
  | cons a r ih =>
    unfold En.only
    by_cases hat : a = t
    · subst hat
      rw [hu']
      simp [En.get]
    · have hm' : t ∈ r := by
        rcases List.mem_cons.1 hm with h | h
        · exact absurd h.symm hat
        · exact h
      have hb : Nat.beq a t = false := by
        cases hb : Nat.beq a t with
        | false => rfl
        | true => exact absurd (Nat.eq_of_beq_eq_true hb) hat
      split
      · simp only [En.get, hb, cond_false]; exact ih hm'
      · exact ih hm'
theorem sub.trans {a b c : En} (h : sub a b) (k : sub b c) : sub a c := fun i v x => k i v (h i v x)
theorem sub.put {a b : En} (h : sub a b) (d : Option Nat) (v : Value) : sub (a.put d v) (b.put d v) := by
  intro i u hi
  cases d with
  | none => exact h i u hi
  | some t =>
    simp only [En.put, En.get] at hi ⊢
    cases hb : Nat.beq t i with
    | true => simp only [hb, cond_true] at hi ⊢; exact hi
    | false => simp only [hb, cond_false] at hi ⊢; exact h i u hi
theorem Ev.less {T : En} (hK : ∀ e e' L, sub e e' → Kf e L → Kf e' L) (h : Ev P N Kf rem ms T L) : ∀ {e : En}, sub T e → Ev P N Kf rem ms e L := by
  induction h with
  | nil h => exact fun hs => .nil (hK _ _ _ hs h)
  | free x hx v h k ih => exact fun hs => .free x hx v (fun L e' he => h L e' ((only_sub hs _).trans he)) (ih (hs.put _ _))
  | looks x hx v Φ hΦ h k ih => exact fun hs => .looks x hx v Φ hΦ (fun M hM e' he => h M hM e' ((only_sub hs _).trans he)) (ih (hs.put _ _))
  | turns x hx R h1 h2 h k ih => exact fun hs => .turns x hx R h1 h2 (fun e' he => h e' ((only_sub hs _).trans he)) fun v L' hR => ih v L' hR (hs.put _ _)
theorem sub_learn {t : Nat} {p q : Value} (h : e.get t = some p) (hq : p = q) : sub ((t, q) :: e) e := by
  subst hq
  intro i u hi
  simp only [En.get] at hi
  cases hb : Nat.beq t i with
  | true => rw [hb, cond_true] at hi; rw [← Nat.eq_of_beq_eq_true hb, h]; exact hi
  | false => rw [hb, cond_false] at hi; exact hi
/-- A value known otherwise. -/
theorem Ev.learn [hK : Mono Kf] (t : Nat) {p q : Value} (h : e.get t = some p) (hq : p = q) (k : Ev P N Kf rem ms ((t, q) :: e) L) : Ev P N Kf rem ms e L := Ev.less hK.le k (sub_learn h hq)
theorem Ev.yes [hK : Mono Kf] (t : Nat) {p : Bool} (h : e.get t = some (.bool p)) (hp : p = true) (k : Ev P N Kf rem ms ((t, .bool true) :: e) L) : Ev P N Kf rem ms e L := .learn t h (by rw [hp]) k
theorem Ev.no [hK : Mono Kf] (t : Nat) {p : Bool} (h : e.get t = some (.bool p)) (hp : p = false) (k : Ev P N Kf rem ms ((t, .bool false) :: e) L) : Ev P N Kf rem ms e L := .learn t h (by rw [hp]) k
theorem Ev.fin (h : Kf e L) : Ev P N Kf [] ms e L := .nil h
/-- What is known, but for what is to be written; told cell by cell. -/
def clr (ds : List Nat) : En → Option En
  | [] => some []
  | (i, v) :: r => match clr ds r with
    | some q => bif ds.any (Nat.beq i) then some q else some ((i, v) :: q)
    | none => none
def dsts : List It → List Nat
  | [] => []
  | x :: r => match x.g.d with | some d => d :: dsts r | none => dsts r
theorem clr_any {l : List It} {i : Nat} : (dsts l).any (Nat.beq i) = true → ∃ y ∈ l, y.g.d = some i := by
  induction l with
  | nil => intro h; cases h
  | cons x r ih =>
    intro h
    unfold dsts at h
    split at h
    · rename_i d hd
      simp only [List.any_cons, Bool.or_eq_true] at h
      rcases h with h | h
      · exact ⟨x, by simp, by rw [hd, Nat.eq_of_beq_eq_true h]⟩
      · obtain ⟨y, hy, he⟩ := ih h; exact ⟨y, by simp [hy], he⟩
    · obtain ⟨y, hy, he⟩ := ih h; exact ⟨y, by simp [hy], he⟩
theorem clr_eq {l : List It} : ∀ {e q : En}, clr (dsts l) e = some q → q = e.clear l
  | [], q, h => by cases h; rfl
  | (i, v) :: r, q, h => by
    simp only [clr] at h
    split at h
    · rename_i q' hq
      have ih := clr_eq hq
      subst ih
      unfold En.clear
      rw [List.filter_cons]
      cases hb : (dsts l).any (Nat.beq i) with
      | true =>
        rw [hb, cond_true] at h; cases h
        obtain ⟨y, hy, he⟩ := clr_any hb
        rw [if_neg]
        · rfl
        · intro hh
          have := List.all_eq_true.1 hh y hy
          rw [he] at this; simp at this
      | false =>
        rw [hb, cond_false] at h; cases h
        rw [if_pos]
        · rfl
        · refine List.all_eq_true.2 fun y hy => ?_
          cases hyd : y.g.d with
          | none => rfl
          | some d =>
            simp only [Bool.not_eq_true']
            cases hdi : Nat.beq d i with
            | false => rfl
            | true =>
              exfalso
              rw [Nat.eq_of_beq_eq_true hdi] at hyd
              have : (dsts l).any (Nat.beq i) = true := by
                clear hb hq
                induction l with
                | nil => cases hy
                | cons x l ih =>
                  unfold dsts
                  rcases List.mem_cons.1 hy with rfl | hy
                  · rw [hyd]; simp
                  · split
                    · simp only [List.any_cons, Bool.or_eq_true]; exact .inr (ih hy)
                    · exact ih hy
              rw [hb] at this; cases this
    · cases h
theorem Cx.ordc {l : List It} {e q : En} {d : C} {K : Kx} (hq : clr (dsts l) e = some q) (hc : chkO l = true) (h : Ev P N (fun fin L => Cx P N d fin K L) l [] q L) : Cx P N (.rd l) e (Ksq P N d K) L := by
  refine Cx.ord hc ?_
  rw [← clr_eq hq]
  exact h
/-- At the end of a block, of a loop's body, of a function. -/
theorem Cx.orde {l : List It} {e q : En} {K : Kx} [hK : Mono (fun e L => K .nm e L)] (hq : clr (dsts l) e = some q) (hc : chkO l = true) (h : Ev P N (fun fin L => K .nm fin L) l [] q L) : Cx P N (.rd l) e K L := by
  rw [clr_eq hq] at h
  simp only [chkO, Bool.and_eq_true] at hc
  refine Cx.rd ?_
  refine ev_run (Kf := Krg K) hc.1 hc.2.1 hc.2.2 hK.le l.length l [] (e.clear l) L h [] l e rfl (fun _ h => h) (fun x => by simp) (fun _ h => by cases h) (fun _ h => by cases h) (fun y hy d hyd => ?_) (fun t u ht _ => clear_sub ht)
  cases hg : (e.clear l).get d with
  | none => rfl
  | some u => exact absurd hyd ((clear_get hg).1 y hy)
/-- The last one behind all others: it may write what they read. -/
def lastOne (l : List It) (y : It) : Bool := l.all fun x => bit y.ds x.i && !(Nat.beq y.i x.i)
theorem Cx.ordl {l : List It} {y : It} {e q : En} {K : Kx} [hK : Mono (fun e L => K .nm e L)] (hq : clr (dsts l) e = some q) (hc : chkO l = true) (hy : lastOne l y = true)
    (h : Ev P N (fun fin L => Sx P N [y.g] fin (fun e L => K .nm e L) L) l [] q L) : Cx P N (.rd (l ++ [y])) e K L := by
  rw [clr_eq hq] at h
  simp only [chkO, Bool.and_eq_true] at hc
  refine Cx.rd ?_
  refine ev_runT (Kf := fun fin L => Sx P N [y.g] fin (fun e L => K .nm e L) L) (Kt := Krg K) hc.1 hc.2.1 hc.2.2 (fun z hz x hx => ?_) (fun e e' L hs hk => ?_) l.length l [] (e.clear l) L h [] l e rfl (fun _ h => h) (fun x => by simp) (fun _ h => by cases h) (fun _ h => by cases h) (fun y hy d hyd => ?_) (fun t u ht _ => clear_sub ht)
  · have : z = y := by simpa using hz
    subst this
    simp only [lastOne, List.all_eq_true, Bool.and_eq_true] at hy
    refine ⟨(hy x hx).1, fun e => ?_⟩
    have := (hy x hx).2
    rw [e] at this; simp at this
  · refine Rx.all (fun h => by cases h) fun x hx => ⟨by simp, ?_⟩
    have hxy : x = y := by
      have : x ∈ [y] := (List.mem_filter.1 hx).1
      simpa using this
    subst hxy
    intro ops os Q a w0 w hc2 ok s kk
    refine hk ops os Q a w0 w hc2 (ok.sub hs) s fun a' w' e2 L2 h2 => kk a' w' e2 L2 ⟨trivial, ?_⟩
    have hw : without [x] x.i = [] := by simp [without]
    rw [hw]
    exact Rx.nil h2
  · cases hg : (e.clear l).get d with
    | none => rfl
    | some u => exact absurd hyd ((clear_get hg).1 y hy)
def unsnoc : List It → Option (List It × It)
  | [] => none
  | x :: r => match r with
    | [] => some ([], x)
    | _ :: _ => match unsnoc r with
      | some (l, y) => some (x :: l, y)
      | none => none
theorem unsnoc_eq : ∀ {l0 l : List It} {y : It}, unsnoc l0 = some (l, y) → l0 = l ++ [y]
  | [], _, _, h => by cases h
  | [x], l, y, h => by cases h; rfl
  | x :: z :: r, l, y, h => by
    have ih := @unsnoc_eq (z :: r)
    unfold unsnoc at h
    simp only at h
    split at h
    · rename_i l' y' hq
      cases h
      rw [ih hq]; rfl
    · cases h
theorem Cx.ordu {l0 l : List It} {y : It} {e q : En} {K : Kx} [hK : Mono (fun e L => K .nm e L)] (hu : unsnoc l0 = some (l, y)) (hq : clr (dsts l) e = some q) (hc : chkO l = true) (hy : lastOne l y = true)
    (h : Ev P N (fun fin L => Sx P N [y.g] fin (fun e L => K .nm e L) L) l [] q L) : Cx P N (.rd l0) e K L := by
  rw [unsnoc_eq hu]
  exact Cx.ordl hq hc hy h
/-- At the head: whatever looks. -/
theorem Ev.lookH {s : S} {v : Value} (Φ : St → Prop) (hd : dist (⟨i, ds, rs, ⟨d, g, s⟩⟩ :: r) = true) (hg : gon (e.only rs) g = true) (hΦ : Φ L) (h : ∀ M, Φ M → ∀ e', sub (e.only rs) e' → Sc P N ⟨d, none, s⟩ e' v M)
    (k : Ev P N Kf r ((i, Φ) :: ms) (e.put d v) L) : Ev P N Kf (⟨i, ds, rs, ⟨d, g, s⟩⟩ :: r) ms e L :=
  .looks ⟨i, ds, rs, ⟨d, g, s⟩⟩ (by simp) v Φ hΦ (fun M hM e' hs => .gon hg hs (h M hM e' hs)) (by
    rw [show without (⟨i, ds, rs, ⟨d, g, s⟩⟩ :: r) i = r from without_head (x := ⟨i, ds, rs, ⟨d, g, s⟩⟩) (by simp only [dist, Bool.and_eq_true] at hd; exact hd.1)]
    exact k)
/-- A load. -/
theorem Ev.ldH {x : X} {n b off : Nat} {ag : Bool} {vs : List Value} {v : Value} (hd : dist (⟨i, ds, rs, ⟨d, g, .ld x n ag⟩⟩ :: r) = true) (hg : gon (e.only rs) g = true) (hx : x.get (e.only rs) = some (.pointer (some ⟨b, off, none⟩))) (hh : Has L b off vs) (hv : ldv n ag vs = some v)
    (k : Ev P N Kf r ((i, fun M => Has M b off vs) :: ms) (e.put d v) L) : Ev P N Kf (⟨i, ds, rs, ⟨d, g, .ld x n ag⟩⟩ :: r) ms e L :=
  .lookH (fun M => Has M b off vs) hd hg hh (fun M hM e' hs K k => Sx.ld (X.get_sub hx hs) hM hv (Sx.nil k)) k
theorem Ev.ldbH {x : X} {b off : Nat} {T : TypeId} {cs : List Value} {v : Value} [t : Take L (some ⟨b, 0, none⟩) (Blk T cs) F] (hd : dist (⟨i, ds, rs, ⟨d, g, .ld x 1 false⟩⟩ :: r) = true) (hg : gon (e.only rs) g = true) (hx : x.get (e.only rs) = some (.pointer (some ⟨b, off, none⟩)))
    (hv : cs[off]? = some v) (k : Ev P N Kf r ((i, fun M => Has M b off [v]) :: ms) (e.put d v) L) : Ev P N Kf (⟨i, ds, rs, ⟨d, g, .ld x 1 false⟩⟩ :: r) ms e L :=
  .ldH hd hg hx ((Has.blk (T := T) (cs := cs) (n := 1)).one (take_one hv)) rfl k
theorem Ev.ldrH {x : X} {b off E sz n cap : Nat} {xs : List Value} {v : Value} [t : Take L (some ⟨b, 0, none⟩) (Row E sz n cap xs) F] (hd : dist (⟨i, ds, rs, ⟨d, g, .ld x 1 false⟩⟩ :: r) = true) (hg : gon (e.only rs) g = true) (hx : x.get (e.only rs) = some (.pointer (some ⟨b, off, none⟩)))
    (hv : xs[off]? = some v) (k : Ev P N Kf r ((i, fun M => Has M b off [v]) :: ms) (e.put d v) L) : Ev P N Kf (⟨i, ds, rs, ⟨d, g, .ld x 1 false⟩⟩ :: r) ms e L :=
  .ldH hd hg hx ((Has.row (E := E) (sz := sz) (n := n) (cap := cap) (xs := xs) (m := 1)).one (take_one hv)) rfl k
theorem Ev.ldbsH {x : X} {b off n : Nat} {T : TypeId} {cs : List Value} [t : Take L (some ⟨b, 0, none⟩) (Blk T cs) F] (hd : dist (⟨i, ds, rs, ⟨d, g, .ld x n true⟩⟩ :: r) = true) (hg : gon (e.only rs) g = true) (hx : x.get (e.only rs) = some (.pointer (some ⟨b, off, none⟩)))
    (hn : Nat.ble (off + n) cs.length = true) (k : Ev P N Kf r ((i, fun M => Has M b off ((cs.drop off).take n)) :: ms) (e.put d (.agg ((cs.drop off).take n).toArray)) L) : Ev P N Kf (⟨i, ds, rs, ⟨d, g, .ld x n true⟩⟩ :: r) ms e L := by
  refine .ldH hd hg hx (Has.blk (T := T) (cs := cs) (n := n)) ?_ k
  have h1 := Nat.le_of_ble_eq_true hn
  have h2 : ((cs.drop off).take n).length = n := by simp; omega
  simp [ldv, h2]
/-- A plain operation that asks for something. -/
theorem Ev.pvH {s : S} {φ : Prop} {v : Value} (hd : dist (⟨i, ds, rs, ⟨d, g, s⟩⟩ :: r) = true) (hg : gon (e.only rs) g = true) (hp : Proofs.YtflalhdofhobmaaGreat.pv (e.only rs) s = some (φ, v)) (hφ : φ) (k : Ev P N Kf r ms (e.put d v) L) :
    Ev P N Kf (⟨i, ds, rs, ⟨d, g, s⟩⟩ :: r) ms e L :=
  .free ⟨i, ds, rs, ⟨d, g, s⟩⟩ (by simp) v (fun L e' hs => .gon hg hs (.pv hp hφ hs)) (by
    rw [without_head (x := ⟨i, ds, rs, ⟨d, g, s⟩⟩) (by simp only [dist, Bool.and_eq_true] at hd; exact hd.1)]
    exact k)
/-- A call that leaves what is known. -/
theorem Ev.cakH {f : FuncId} {xs : List X} {vs : List Value} {v : Value} (hd : dist (⟨i, ds, rs, ⟨d, g, .ca f xs⟩⟩ :: r) = true) (hg : gon (e.only rs) g = true) (hx : gets (e.only rs) xs = some vs) (hf : Fx P f vs L (fun v' L' => v' = v ∧ L = L'))
    (k : Ev P N Kf r ((i, fun M => Fx P f vs M (fun v' L' => v' = v ∧ M = L')) :: ms) (e.put d v) L) : Ev P N Kf (⟨i, ds, rs, ⟨d, g, .ca f xs⟩⟩ :: r) ms e L :=
  .lookH (fun M => Fx P f vs M (fun v' L' => v' = v ∧ M = L')) hd hg hf (fun M hM e' hs K k => Sx.ca (gets_sub hs hx) hM fun v' L' h => by
    obtain ⟨rfl, rfl⟩ := h
    exact Sx.nil k) k
theorem Se.gon {T e' : En} {s : S} {R : Value → St → Prop} (hg : Proofs.YtflalhdofhobmaaGreat.gon T g = true) (hs : sub T e') (h : Se P N ⟨d, none, s⟩ e' L R) : Se P N ⟨d, g, s⟩ e' L R := by
  unfold Proofs.YtflalhdofhobmaaGreat.gon at hg
  split at hg
  · exact h
  · rename_i t b
    split at hg
    · rename_i c hc
      have hcb : c = b := by simpa using hg
      subst hcb
      exact fun K k => Sx.on (hs _ _ hc) (h K k)
    · cases hg
/-- What is left depends on it. -/
def lastly (i : Nat) (r : List It) : Bool := r.all fun y => !(Nat.beq y.i i) && bit y.ds i
theorem lastly_all {i : Nat} {r : List It} (h : lastly i r = true) : r.all (fun y => bit y.ds i) = true ∧ r.all (fun y => !(Nat.beq y.i i)) = true := by
  simp only [lastly, Bool.and_eq_true, List.all_eq_true] at h ⊢
  exact ⟨fun y hy => (h y hy).2, fun y hy => (h y hy).1⟩
/-- What has looked is ahead of it, or what it came to holds still. -/
inductive Pres (ds : Nat) (R : Value → St → Prop) : List (Nat × (St → Prop)) → Prop
  | nil : Pres ds R []
  | dep {m : Nat} {Φ : St → Prop} {l : List (Nat × (St → Prop))} (h : bit ds m = true) (k : Pres ds R l) : Pres ds R ((m, Φ) :: l)
  | keep {m : Nat} {Φ : St → Prop} {l : List (Nat × (St → Prop))} (h : ∀ v L', R v L' → Φ L') (k : Pres ds R l) : Pres ds R ((m, Φ) :: l)
theorem Pres.all {ds : Nat} {R : Value → St → Prop} {ms : List (Nat × (St → Prop))} (h : Pres ds R ms) : ∀ q ∈ ms, bit ds q.1 = true ∨ ∀ v L', R v L' → q.2 L' := by
  induction h with
  | nil => intro q hq; cases hq
  | dep h k ih =>
    intro q hq
    rcases List.mem_cons.1 hq with rfl | hq
    · exact .inl h
    · exact ih q hq
  | keep h k ih =>
    intro q hq
    rcases List.mem_cons.1 hq with rfl | hq
    · exact .inr h
    · exact ih q hq
/-- All of them ahead of it. -/
theorem Pres.deps {ds : Nat} {R : Value → St → Prop} : ∀ {ms : List (Nat × (St → Prop))}, (ms.all fun q => bit ds q.1) = true → Pres ds R ms
  | [], _ => .nil
  | q :: l, h => by
    simp only [List.all_cons, Bool.and_eq_true] at h
    exact .dep h.1 (Pres.deps h.2)
/-- An operation that turns what is known. -/
theorem Ev.genH {s : S} {R : Value → St → Prop} (hd : lastly i r = true) (hp : Pres ds R ms) (hg : gon (e.only rs) g = true) (h : ∀ e', sub (e.only rs) e' → Se P N ⟨d, none, s⟩ e' L R)
    (k : ∀ v L', R v L' → Ev P N Kf r ms (e.put d v) L') : Ev P N Kf (⟨i, ds, rs, ⟨d, g, s⟩⟩ :: r) ms e L := by
  have hw := without_head (x := ⟨i, ds, rs, ⟨d, g, s⟩⟩) (lastly_all hd).2
  refine .turns ⟨i, ds, rs, ⟨d, g, s⟩⟩ (by simp) R ?_ hp.all (fun e' hs => .gon hg hs (h e' hs)) fun v L' hR => ?_
  · rw [show without (_ :: r) i = r from hw]; exact (lastly_all hd).1
  · rw [show without (_ :: r) i = r from hw]; exact k v L' hR
/-- A call that turns what is known. -/
theorem Ev.caH {f : FuncId} {xs : List X} {vs : List Value} {R : Value → St → Prop} (hd : lastly i r = true) (hg : gon (e.only rs) g = true) (hx : gets (e.only rs) xs = some vs) (hf : Fx P f vs L R) (hp : Pres ds R ms)
    (k : ∀ v L', R v L' → Ev P N Kf r ms (e.put d v) L') : Ev P N Kf (⟨i, ds, rs, ⟨d, g, .ca f xs⟩⟩ :: r) ms e L :=
  .genH hd hp hg (fun e' hs K kk => Sx.ca (gets_sub hs hx) hf fun v' L' h => Sx.nil (kk v' L' h)) k
/-- An append to a row. -/
theorem Ev.apH {T E sz by_ : Nat} {z : List Value} {x y : X} {ra ya : Option Addr} {n cap m c : Nat} {xs ys : List Value} [t : Take L ra (Row E sz n cap xs) F] (hd : lastly i r = true) (hg : gon (e.only rs) g = true)
    (hx : x.get (e.only rs) = some (.slice ra n cap)) (hy : y.get (e.only rs) = some (.slice ya m c)) (hr : Rd L sz ya m ys) (h1 : ones ys = true) (hm : n + m ≤ maxLen) (hb : (n + m) * by_ ≤ 140737488355328)
    (hp : Pres ds (fun v L' => ∃ ra' cap', n + m ≤ cap' ∧ (n + m = 0 ∨ ∃ g, ra' = some ⟨g, 0, none⟩) ∧ v = .slice ra' (n + m) cap' ∧ L' = pt ra' (Row E sz (n + m) cap' (xs ++ ys)) :: F) ms)
    (k : ∀ ra' cap', n + m ≤ cap' → (n + m = 0 ∨ ∃ g, ra' = some ⟨g, 0, none⟩) → Ev P N Kf r ms (e.put d (.slice ra' (n + m) cap')) (pt ra' (Row E sz (n + m) cap' (xs ++ ys)) :: F)) : Ev P N Kf (⟨i, ds, rs, ⟨d, g, .ap T E sz by_ z x y⟩⟩ :: r) ms e L :=
  .genH hd hp hg (fun e' hs K kk => Sx.ap (t := t) (X.get_sub hx hs) (X.get_sub hy hs) hr h1 hm hb fun ra' cap' hc => Sx.rowkey (a := ra') fun _ _ _ hk => Sx.nil (kk _ _ ⟨ra', cap', hc, hk.imp (fun h => h.2.1) id, rfl, rfl⟩))
    (fun v L' ⟨ra', cap', hc, hk, e1, e2⟩ => by subst e1; subst e2; exact k ra' cap' hc hk)
theorem fills_sub {T e' : En} (hs : sub T e') : ∀ {ps : List (Nat × Nat × X)} {z cs : List Value}, fills T z ps = some cs → fills e' z ps = some cs
  | [], _, _, h => h
  | (off, sz, x) :: l, z, cs, h => by
    unfold fills at h ⊢
    split at h
    · rename_i v hv
      rw [X.get_sub hv hs]
      split at h
      · rename_i vs hvs
        simp only [hvs]
        cases hb : (Nat.beq vs.length sz && Nat.ble (off + sz) z.length) with
        | true => rw [hb, cond_true] at h; rw [cond_true]; exact fills_sub hs h
        | false => rw [hb, cond_false] at h; cases h
      · cases h
    · cases h
/-- A slice's own new cells. -/
theorem Ev.bsH {E len : Nat} {z : List Value} {ps : List (Nat × Nat × X)} {cs : List Value} (hd : lastly i r = true) (hg : gon (e.only rs) g = true) (hf : fills (e.only rs) z ps = some cs) (hl : z.length = len * sz)
    (hp : Pres ds (fun v L' => ∃ q, v = .slice (some ⟨q, 0, none⟩) len len ∧ L' = pt (some ⟨q, 0, none⟩) (Row E sz len len cs) :: L) ms)
    (k : ∀ q, Ev P N Kf r ms (e.put d (.slice (some ⟨q, 0, none⟩) len len)) (pt (some ⟨q, 0, none⟩) (Row E sz len len cs) :: L)) : Ev P N Kf (⟨i, ds, rs, ⟨d, g, .bs E len z ps⟩⟩ :: r) ms e L :=
  .genH hd hp hg (fun e' hs K kk => Sx.bs (sz := sz) (fills_sub hs hf) hl fun q => Sx.nil (kk _ _ ⟨q, rfl, rfl⟩))
    (fun v L' ⟨q, e1, e2⟩ => by subst e1; subst e2; exact k q)
/-- New blocks. -/
theorem Ev.bxH {E : TypeId} {x : X} {u : Value} {vs : List Value} (hd : lastly i r = true) (hg : gon (e.only rs) g = true) (hx : x.get (e.only rs) = some u) (hu : cellsOf u = some vs)
    (hp : Pres ds (fun v L' => ∃ q, v = .pointer (some ⟨q, 0, none⟩) ∧ L' = pt (some ⟨q, 0, none⟩) (Blk E vs) :: L) ms)
    (k : ∀ q, Ev P N Kf r ms (e.put d (.pointer (some ⟨q, 0, none⟩))) (pt (some ⟨q, 0, none⟩) (Blk E vs) :: L)) : Ev P N Kf (⟨i, ds, rs, ⟨d, g, .bx E x⟩⟩ :: r) ms e L :=
  .genH hd hp hg (fun e' hs K kk => Sx.bx (X.get_sub hx hs) hu fun q => Sx.nil (kk _ _ ⟨q, rfl, rfl⟩))
    (fun v L' ⟨q, e1, e2⟩ => by subst e1; subst e2; exact k q)
/-- A store of one cell. -/
theorem Ev.stbH {x v : X} {b off : Nat} {T : TypeId} {cs ds' : List Value} {u : Value} [t : Take L (some ⟨b, 0, none⟩) (Blk T cs) F] (hd : lastly i r = true) (hg : gon (e.only rs) g = true)
    (hx : x.get (e.only rs) = some (.pointer (some ⟨b, off, none⟩))) (hv : v.get (e.only rs) = some u) (hu : cellsOf u = some [u]) (h1 : u.oneCell' = true) (hl : Nat.blt off cs.length = true) (hds : cs.set off u = ds')
    (hp : Pres ds (fun v L' => v = undef ∧ L' = pt (some ⟨b, 0, none⟩) (Blk T ds') :: F) ms)
    (k : Ev P N Kf r ms (e.put d undef) (pt (some ⟨b, 0, none⟩) (Blk T ds') :: F)) : Ev P N Kf (⟨i, ds, rs, ⟨d, g, .st x v 1⟩⟩ :: r) ms e L :=
  .genH hd hp hg (fun e' hs K kk => Sx.stb (t := t) (X.get_sub hx hs) (X.get_sub hv hs) hu h1 hl hds (Sx.nil (kk _ _ ⟨rfl, rfl⟩)))
    (fun v L' ⟨e1, e2⟩ => by subst e1; subst e2; exact k)
end
end
/- The rules' short names. -/
abbrev Ze0 := @Ev.pass
abbrev Ze1 := @Ev.stpH
abbrev Ze2 := @Ev.done
abbrev Ze3 := @Ev.fin
abbrev Ze4 := @Ev.ldbH
abbrev Ze5 := @Ev.ldbsH
theorem ge {A B : Prop} (k : B) (h : Wrap B → A := by intro r; (repeat (first|refine Ze0 0 rfl (by kernel_rfl) ?_|refine Ze1 (by kernel_rfl) rfl rfl ?_|refine Ze2 ?_|refine Ze3 ?_|refine Ze4 (by kernel_rfl) rfl rfl (by rfl) ?_|refine Ze5 (by kernel_rfl) rfl rfl rfl ?_|refine Ev.pvH (by kernel_rfl) rfl rfl ⟨by omega, by omega⟩ ?_|refine Ev.pvH (by kernel_rfl) rfl rfl (by decide) ?_|fail)); exact r.out) : A := h ⟨k⟩
end Go.Proofs.YtflalhdofhobmaaGreat

/-
  Plain numbers and lists: memories, heads, stacks; what a Push and a Pop do, one access at a time.
-/
set_option linter.unusedVariables false
set_option linter.unusedSimpArgs false
namespace Go.Proofs.YtflalhdofhobmaaGreat
/-- A memory: what the cells hold, how many accesses there were. -/
structure Mm where
  ws : List Nat
  n : Nat
def Mm.at_ (m : Mm) (i : Nat) : Nat := m.ws.getD i 0
def Mm.tick (m : Mm) : Mm := ⟨m.ws, m.n + 1⟩
def Mm.put (m : Mm) (i v : Nat) : Mm := ⟨m.ws.set i v, m.n + 1⟩
def Mm.lay (m : Mm) (i v : Nat) : Mm := ⟨m.ws.set i v, m.n⟩
def Mm.cas (m : Mm) (i o v : Nat) : Mm := if m.at_ i = o then m.put i v else m.tick
/-- Each word has 64 bits. -/
def Mm.ok (m : Mm) : Prop := ∀ w ∈ m.ws, w < 18446744073709551616
theorem Mm.at_lt {m : Mm} (h : m.ok) (i : Nat) : m.at_ i < 18446744073709551616 := by
  unfold Mm.at_
  rw [List.getD_eq_getElem?_getD]
  cases hg : m.ws[i]? with
  | none => simp
  | some w => exact h w (List.mem_of_getElem? hg)
theorem Mm.get {m : Mm} {i : Nat} (h : i < m.ws.length) : m.ws[i]? = some (m.at_ i) := by
  unfold Mm.at_
  rw [List.getD_eq_getElem?_getD, List.getElem?_eq_getElem h]; rfl
theorem Mm.at_lay {m : Mm} {i v : Nat} (j : Nat) (h : i < m.ws.length) : (m.lay i v).at_ j = if i = j then v else m.at_ j := by
  unfold Mm.at_ Mm.lay
  simp only [List.getD_eq_getElem?_getD, List.getElem?_set]
  split <;> simp_all
theorem Mm.at_put {m : Mm} {i v : Nat} (j : Nat) (h : i < m.ws.length) : (m.put i v).at_ j = if i = j then v else m.at_ j := Mm.at_lay j h
theorem Mm.len_put {m : Mm} {i v : Nat} : (m.put i v).ws.length = m.ws.length := by simp [Mm.put]
theorem Mm.len_lay {m : Mm} {i v : Nat} : (m.lay i v).ws.length = m.ws.length := by simp [Mm.lay]
theorem Mm.len_cas {m : Mm} {i o v : Nat} : (m.cas i o v).ws.length = m.ws.length := by unfold Mm.cas; split <;> simp [Mm.put, Mm.tick]
theorem Mm.ok_lay {m : Mm} {i v : Nat} (h : m.ok) (hv : v < 18446744073709551616) : (m.lay i v).ok := by
  intro w hw
  rcases List.mem_or_eq_of_mem_set hw with h1 | rfl
  · exact h w h1
  · exact hv
theorem Mm.ok_put {m : Mm} {i v : Nat} (h : m.ok) (hv : v < 18446744073709551616) : (m.put i v).ok := Mm.ok_lay (m := m) h hv
theorem Mm.ok_tick {m : Mm} (h : m.ok) : m.tick.ok := h
theorem Mm.ok_cas {m : Mm} {i o v : Nat} (h : m.ok) (hv : v < 18446744073709551616) : (m.cas i o v).ok := by
  unfold Mm.cas; split
  · exact Mm.ok_put h hv
  · exact Mm.ok_tick h
/-! Heads: the index and 1 in the lower half, the tag in the upper one. -/
def hdI (w : Nat) : Int := (w % 4294967296 : Nat) - 1
def hdT (w : Nat) : Nat := w / 4294967296
def laterT (t : Nat) : Nat := if t < 4294967295 then t + 1 else 0
/-- A head's word behind an exchange: of an item, or none (-1). -/
def nextW (w : Nat) (i : Int) : Nat := laterT (hdT w) * 4294967296 + (i + 1).toNat
theorem hdT_lt {w : Nat} (h : w < 18446744073709551616) : hdT w < 4294967296 := by unfold hdT; omega
theorem laterT_lt {t : Nat} (h : t < 4294967296) : laterT t < 4294967296 := by unfold laterT; split <;> omega
theorem nextW_lt {w : Nat} {i : Int} (h : w < 18446744073709551616) (hi : i < 4294967295) : nextW w i < 18446744073709551616 := by
  have := laterT_lt (hdT_lt h)
  unfold nextW; omega
theorem hdI_next {w : Nat} {i : Int} (h1 : -1 ≤ i) (h2 : i < 4294967295) : hdI (nextW w i) = i := by unfold hdI nextW; omega
/-- A stack's places: its head's cell, its links' first cell, how many items. -/
structure Sk where
  head : Nat
  links : Nat
  n : Nat
/-- Whether a stack may be over so many cells. -/
structure Sk.ok (k : Sk) (len : Nat) : Prop where
  n1 : 1 ≤ k.n
  n2 : k.n ≤ 4096
  h : k.head < len
  l : k.links + k.n ≤ len
  a : k.head < k.links ∨ k.links + k.n ≤ k.head
  z : len ≤ 8388608
/-- A head's item, a link's item; -1: none. -/
def Sk.top (k : Sk) (w : Nat) : Int := if hdI w < k.n then hdI w else -1
def Sk.below (k : Sk) (w : Nat) : Int := if k.n < w then -1 else (w : Int) - 1
theorem Sk.top_ge (k : Sk) (w : Nat) : -1 ≤ k.top w := by unfold Sk.top hdI; split <;> omega
theorem Sk.top_lt (k : Sk) (w : Nat) : k.top w < k.n := by unfold Sk.top; split <;> omega
theorem Sk.below_ge (k : Sk) (w : Nat) : -1 ≤ k.below w := by unfold Sk.below; split <;> omega
theorem Sk.below_lt (k : Sk) (w : Nat) : k.below w < k.n := by unfold Sk.below; split <;> omega
/-- A Pop: at: 0: the Load of the head, 1: of a link, 2: the Cas. -/
structure PopS where
  most : Int
  at_ : Nat
  under : Int
  was : Nat
  got : List Int
  done : Bool
def PopS.init (most : Int) : PopS := ⟨min (max most 1) 8, 0, 0, 0, [], false⟩
/-- The last one of a list. -/
def lastI (l : List Int) : Int := l.getLastD 0
def popStep (k : Sk) (m : Mm) (q : PopS) : PopS × Mm :=
  if q.done then (q, m) else
  match q.at_ with
  | 0 => if 0 ≤ k.top (m.at_ k.head) then ({ q with was := m.at_ k.head, got := [k.top (m.at_ k.head)], at_ := 1 }, m.tick) else ({ q with was := m.at_ k.head, got := [], done := true }, m.tick)
  | 1 => if 0 ≤ k.below (m.at_ (k.links + (lastI q.got).toNat)) ∧ (q.got.length : Int) < q.most then
      ({ q with under := k.below (m.at_ (k.links + (lastI q.got).toNat)), got := q.got ++ [k.below (m.at_ (k.links + (lastI q.got).toNat))] }, m.tick)
      else ({ q with under := k.below (m.at_ (k.links + (lastI q.got).toNat)), at_ := 2 }, m.tick)
  | _ => ({ q with at_ := 0, done := decide (m.at_ k.head = q.was) }, m.cas k.head q.was (nextW q.was q.under))
/-- What may be of a Pop. -/
structure PopS.ok (k : Sk) (q : PopS) : Prop where
  m1 : 1 ≤ q.most
  m2 : q.most ≤ 8
  a : q.at_ ≤ 2
  u1 : -1 ≤ q.under
  u2 : q.under < k.n
  w : q.was < 18446744073709551616
  g : ∀ x ∈ q.got, 0 ≤ x ∧ x < k.n
  ne : q.done = false → q.at_ ≠ 0 → q.got ≠ []
  len : q.got.length ≤ 8
theorem PopS.ok_init {k : Sk} (h : 1 ≤ k.n) (most : Int) : (PopS.init most).ok k := by
  unfold PopS.init
  refine ⟨by dsimp only; omega, by dsimp only; omega, by simp, by simp, by simp; omega, by simp, by simp, by simp, by simp⟩
theorem lastI_mem {l : List Int} (h : l ≠ []) : lastI l ∈ l := by
  unfold lastI
  rw [List.getLastD_eq_getLast?, List.getLast?_eq_some_getLast h]
  exact List.getLast_mem h
theorem popStep_ok {k : Sk} {m : Mm} {q : PopS} {len : Nat} (hk : k.ok len) (hm : m.ok) (h : q.ok k) : (popStep k m q).1.ok k := by
  have t1 := k.top_ge (m.at_ k.head)
  have t2 := k.top_lt (m.at_ k.head)
  have hw := Mm.at_lt hm k.head
  have hn := hk.n1
  unfold popStep
  split
  · exact h
  · rename_i hd
    split
    · split
      · rename_i h0
        exact ⟨h.m1, h.m2, by simp, h.u1, h.u2, hw, fun x hx => by simp only [List.mem_singleton] at hx; omega, by simp, by simp⟩
      · exact ⟨h.m1, h.m2, h.a, h.u1, h.u2, hw, by simp, by simp, by simp⟩
    · rename_i ha
      have b1 := k.below_ge (m.at_ (k.links + (lastI q.got).toNat))
      have b2 := k.below_lt (m.at_ (k.links + (lastI q.got).toNat))
      have hl := h.len
      have hne := h.ne (by simpa using hd) (by omega)
      split
      · rename_i h0
        have := h.m2
        exact ⟨h.m1, h.m2, h.a, b1, b2, h.w, fun x hx => by
          rcases List.mem_append.1 hx with hx | hx
          · exact h.g x hx
          · simp only [List.mem_singleton] at hx; omega, by simp, by simp only [List.length_append, List.length_singleton]; omega⟩
      · exact ⟨h.m1, h.m2, by simp, b1, b2, h.w, h.g, fun _ _ => hne, hl⟩
    · exact ⟨h.m1, h.m2, by simp, h.u1, h.u2, h.w, h.g, by simp, h.len⟩
theorem popStep_mem {k : Sk} {m : Mm} {q : PopS} {len : Nat} (hk : k.ok len) (hm : m.ok) (h : q.ok k) : (popStep k m q).2.ok ∧ (popStep k m q).2.ws.length = m.ws.length := by
  have := h.u2
  have h2 := hk.n2
  unfold popStep
  split
  · exact ⟨hm, rfl⟩
  · split
    · split <;> exact ⟨hm, rfl⟩
    · split <;> exact ⟨hm, rfl⟩
    · exact ⟨Mm.ok_cas hm (nextW_lt h.w (by omega)), Mm.len_cas⟩
/-- A Push: at: below one less than there are: a link; then the Load of the head, the last link, the Cas. -/
structure PushS where
  l : List Int
  at_ : Nat
  was : Nat
  done : Bool
def PushS.init (l : List Int) : PushS := ⟨l, 0, 0, decide (l = [])⟩
def itI (l : List Int) (i : Nat) : Int := l.getD i 0
def pushStep (k : Sk) (m : Mm) (p : PushS) : PushS × Mm :=
  if p.done then (p, m) else
  if p.at_ + 1 < p.l.length then ({ p with at_ := p.at_ + 1 }, m.put (k.links + (itI p.l p.at_).toNat) (itI p.l (p.at_ + 1) + 1).toNat)
  else if p.at_ + 1 = p.l.length then ({ p with at_ := p.at_ + 1, was := m.at_ k.head }, m.tick)
  else if p.at_ = p.l.length then ({ p with at_ := p.at_ + 1 }, m.put (k.links + (itI p.l (p.l.length - 1)).toNat) (k.top p.was + 1).toNat)
  else ({ p with at_ := p.l.length - 1, done := decide (m.at_ k.head = p.was) }, m.cas k.head p.was (nextW p.was (itI p.l 0)))
structure PushS.ok (k : Sk) (p : PushS) : Prop where
  w : p.was < 18446744073709551616
  g : ∀ x ∈ p.l, 0 ≤ x ∧ x < k.n
  ne : p.done = false → p.l ≠ []
  a : p.at_ ≤ p.l.length + 1
theorem PushS.ok_init {k : Sk} {l : List Int} (h : ∀ x ∈ l, 0 ≤ x ∧ x < k.n) : (PushS.init l).ok k :=
  ⟨by simp [PushS.init], h, by simp [PushS.init], by simp [PushS.init]⟩
theorem itI_mem {l : List Int} {i : Nat} (h : i < l.length) : itI l i ∈ l := by
  unfold itI
  rw [List.getD_eq_getElem?_getD, List.getElem?_eq_getElem h]
  exact List.getElem_mem h
theorem pushStep_ok {k : Sk} {m : Mm} {p : PushS} (hm : m.ok) (h : p.ok k) : (pushStep k m p).1.ok k := by
  have ha := h.a
  unfold pushStep
  split
  · exact h
  · rename_i hd
    have hne := h.ne (by simpa using hd)
    have hl := List.length_pos_iff.2 hne
    split
    · exact ⟨h.w, h.g, h.ne, by dsimp only; omega⟩
    · split
      · exact ⟨Mm.at_lt hm _, h.g, h.ne, by dsimp only; omega⟩
      · split
        · exact ⟨h.w, h.g, h.ne, by dsimp only; omega⟩
        · exact ⟨h.w, h.g, fun _ => hne, by dsimp only; omega⟩
theorem pushStep_mem {k : Sk} {m : Mm} {p : PushS} {len : Nat} (hk : k.ok len) (hm : m.ok) (h : p.ok k) : (pushStep k m p).2.ok ∧ (pushStep k m p).2.ws.length = m.ws.length := by
  have h2 := hk.n2
  have ht := k.top_lt p.was
  unfold pushStep
  split
  · exact ⟨hm, rfl⟩
  · rename_i hd
    have hl := List.length_pos_iff.2 (h.ne (by simpa using hd))
    split
    · have := h.g _ (itI_mem (l := p.l) (i := p.at_ + 1) (by omega))
      exact ⟨Mm.ok_put hm (by omega), Mm.len_put⟩
    · split
      · exact ⟨hm, rfl⟩
      · split
        · exact ⟨Mm.ok_put hm (by omega), Mm.len_put⟩
        · have := h.g _ (itI_mem (l := p.l) (i := 0) (by omega))
          exact ⟨Mm.ok_cas hm (nextW_lt h.w (by omega)), Mm.len_cas⟩
end Go.Proofs.YtflalhdofhobmaaGreat
